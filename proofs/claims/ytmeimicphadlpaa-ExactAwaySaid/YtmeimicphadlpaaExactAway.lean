/- What was added is taken away again, and a product, divided, is its factor: the walk of the law; every input. -/
import Derived.Test.YtmeimicphadlpaaExactU
set_option linter.unusedVariables false
set_option linter.unusedSimpArgs false
namespace Go.Proofs.Ytmeimicphadlpaa.Walks
open Go Go.RowKit Go.Sort Go.Proofs.Ytmeimicphadlpaa.Base Go.Proofs.Ytmeimicphadlpaa.Plain

theorem add_back (a b : Int) (w : World) (ha : fits a) (hb : fits b) (h : fits (a + b)) (hm : -9223372036854775808 < b) :
    Calls Try.prog 28 #[.int .i64 (a + b), .int .i64 (-b)] w fun e w' => e = .returned (.tuple #[.int .i64 a, .int .i64 0]) ∧ Gr w w' := by
  have := add_c (a + b) (-b) w h.1 h.2 (by have := hb.2; omega) (by omega) (by have := ha.1; omega) (by have := ha.2; omega)
  rwa [show a + b + -b = a from by omega] at this
theorem div_back (a b : Int) (w : World) (ha : fits a) (hb : fits b) (h : fits (a * b)) (hm : 0 < b) :
    Calls Try.prog 32 #[.int .i64 (a * b), .int .i64 b] w fun e w' => e = .returned (.tuple #[.int .i64 a, .int .i64 0]) ∧ Gr w w' := by
  have := div_c (a * b) b w hm h.1 h.2 hb.2
  rwa [Int.mul_ediv_cancel a (by omega)] at this
theorem mod_back (a b : Int) (w : World) (ha : fits a) (hb : fits b) (h : fits (a * b)) (hm : 0 < b) :
    Calls Try.prog 34 #[.int .i64 (a * b), .int .i64 b] w fun e w' => e = .returned (.tuple #[.int .i64 0, .int .i64 0]) ∧ Gr w w' := by
  have := mod_c (a * b) b w hm h.1 h.2 hb.2
  rwa [Int.mul_emod_left a b] at this
theorem add_f (a b : Int) (w : World) (ha : fits a) (hb : fits b) (h : fits (a + b)) :
    Calls Try.prog 28 #[.int .i64 a, .int .i64 b] w fun e w' => e = .returned (.tuple #[.int .i64 (a + b), .int .i64 0]) ∧ Gr w w' := add_c a b w ha.1 ha.2 hb.1 hb.2 h.1 h.2
theorem add_n (a b : Int) (w : World) (ha : fits a) (hb : fits b) (h : ¬ fits (a + b)) :
    Calls Try.prog 28 #[.int .i64 a, .int .i64 b] w fun e w' => e = .returned (.tuple #[.int .i64 0, .int .i64 6]) ∧ Gr w w' := add_no a b w ha.1 ha.2 hb.1 hb.2 (by unfold fits at h; omega)
theorem mul_f (a b : Int) (w : World) (ha : fits a) (hb : fits b) (h : fits (a * b)) :
    Calls Try.prog 30 #[.int .i64 a, .int .i64 b] w fun e w' => e = .returned (.tuple #[.int .i64 (a * b), .int .i64 0]) ∧ Gr w w' := mul_c a b w ha.1 ha.2 hb.1 hb.2 h.1 h.2
theorem mul_n (a b : Int) (w : World) (ha : fits a) (hb : fits b) (h : ¬ fits (a * b)) :
    Calls Try.prog 30 #[.int .i64 a, .int .i64 b] w fun e w' => e = .returned (.tuple #[.int .i64 0, .int .i64 6]) ∧ Gr w w' := mul_no a b w ha.1 ha.2 hb.1 hb.2 (by unfold fits at h; omega)

set_option maxHeartbeats 4000000 in
theorem exactAway_w (a b : Int) (w : World) (wa : (Lit.int .i64 a).wf = true) (wb : (Lit.int .i64 b).wf = true) :
    Calls Try.prog 12 #[.int .i64 a, .int .i64 b] w fun e w' => e = .returned (.bool true) ∧ Gr w w' := by
  have ha := fits_wf wa
  have hb := fits_wf wb
  have l := hb.1
  have u := hb.2
  clear wa wb
  by_cases hs : fits (a + b) <;> by_cases hp : fits (a * b) <;> by_cases h0 : 0 < b
  · have hm : -9223372036854775808 < b := by omega
    have s0 := hs.1
    have s1 := hs.2
    go_enter Try.func12, Try.ntmps12
    go_wp2_with (first | (go_at_call 28; (with_reducible refine (add_f a b _ ha hb hs).mono ?_); rintro e w1 ⟨rfl, hg⟩) | (go_at_call 28; (with_reducible refine (add_back a b _ ha hb hs hm).mono ?_); rintro e w1 ⟨rfl, hg⟩) | (go_at_call 30; (with_reducible refine (mul_f a b _ ha hb hp).mono ?_); rintro e w1 ⟨rfl, hg⟩) | (go_at_call 32; (with_reducible refine (div_back a b _ ha hb hp h0).mono ?_); rintro e w1 ⟨rfl, hg⟩) | (go_at_call 34; (with_reducible refine (mod_back a b _ ha hb hp h0).mono ?_); rintro e w1 ⟨rfl, hg⟩) | (go_at_call 36; (with_reducible refine (awake01_c _).mono ?_); rintro e w1 ⟨rfl, hg⟩))
    go_ret
    exact ⟨rfl, (by repeat (first | exact Gr.refl _ | refine Gr.grown ?_ _ _ | refine Gr.drewN ?_ _ | refine Gr.drew ?_ | refine Gr.alloc ?_ _ | refine Gr.grow ?_ _ | (refine Gr.trans ?_ (by assumption))))⟩
  · by_cases hm : -9223372036854775808 < b
    · have s0 := hs.1
      have s1 := hs.2
      go_enter Try.func12, Try.ntmps12
      go_wp2_with (first | (go_at_call 28; (with_reducible refine (add_f a b _ ha hb hs).mono ?_); rintro e w1 ⟨rfl, hg⟩) | (go_at_call 28; (with_reducible refine (add_back a b _ ha hb hs hm).mono ?_); rintro e w1 ⟨rfl, hg⟩) | (go_at_call 30; (with_reducible refine (mul_f a b _ ha hb hp).mono ?_); rintro e w1 ⟨rfl, hg⟩) | (go_at_call 36; (with_reducible refine (awake01_c _).mono ?_); rintro e w1 ⟨rfl, hg⟩))
      go_ret
      exact ⟨rfl, (by repeat (first | exact Gr.refl _ | refine Gr.grown ?_ _ _ | refine Gr.drewN ?_ _ | refine Gr.drew ?_ | refine Gr.alloc ?_ _ | refine Gr.grow ?_ _ | (refine Gr.trans ?_ (by assumption))))⟩
    · have s0 := hs.1
      have s1 := hs.2
      go_enter Try.func12, Try.ntmps12
      go_wp2_with (first | (go_at_call 28; (with_reducible refine (add_f a b _ ha hb hs).mono ?_); rintro e w1 ⟨rfl, hg⟩) | (go_at_call 30; (with_reducible refine (mul_f a b _ ha hb hp).mono ?_); rintro e w1 ⟨rfl, hg⟩) | (go_at_call 36; (with_reducible refine (awake01_c _).mono ?_); rintro e w1 ⟨rfl, hg⟩))
      go_ret
      exact ⟨rfl, (by repeat (first | exact Gr.refl _ | refine Gr.grown ?_ _ _ | refine Gr.drewN ?_ _ | refine Gr.drew ?_ | refine Gr.alloc ?_ _ | refine Gr.grow ?_ _ | (refine Gr.trans ?_ (by assumption))))⟩
  · have hm : -9223372036854775808 < b := by omega
    have s0 := hs.1
    have s1 := hs.2
    go_enter Try.func12, Try.ntmps12
    go_wp2_with (first | (go_at_call 28; (with_reducible refine (add_f a b _ ha hb hs).mono ?_); rintro e w1 ⟨rfl, hg⟩) | (go_at_call 28; (with_reducible refine (add_back a b _ ha hb hs hm).mono ?_); rintro e w1 ⟨rfl, hg⟩) | (go_at_call 30; (with_reducible refine (mul_n a b _ ha hb hp).mono ?_); rintro e w1 ⟨rfl, hg⟩) | (go_at_call 36; (with_reducible refine (awake01_c _).mono ?_); rintro e w1 ⟨rfl, hg⟩))
    go_ret
    exact ⟨rfl, (by repeat (first | exact Gr.refl _ | refine Gr.grown ?_ _ _ | refine Gr.drewN ?_ _ | refine Gr.drew ?_ | refine Gr.alloc ?_ _ | refine Gr.grow ?_ _ | (refine Gr.trans ?_ (by assumption))))⟩
  · by_cases hm : -9223372036854775808 < b
    · have s0 := hs.1
      have s1 := hs.2
      go_enter Try.func12, Try.ntmps12
      go_wp2_with (first | (go_at_call 28; (with_reducible refine (add_f a b _ ha hb hs).mono ?_); rintro e w1 ⟨rfl, hg⟩) | (go_at_call 28; (with_reducible refine (add_back a b _ ha hb hs hm).mono ?_); rintro e w1 ⟨rfl, hg⟩) | (go_at_call 30; (with_reducible refine (mul_n a b _ ha hb hp).mono ?_); rintro e w1 ⟨rfl, hg⟩) | (go_at_call 36; (with_reducible refine (awake01_c _).mono ?_); rintro e w1 ⟨rfl, hg⟩))
      go_ret
      exact ⟨rfl, (by repeat (first | exact Gr.refl _ | refine Gr.grown ?_ _ _ | refine Gr.drewN ?_ _ | refine Gr.drew ?_ | refine Gr.alloc ?_ _ | refine Gr.grow ?_ _ | (refine Gr.trans ?_ (by assumption))))⟩
    · have s0 := hs.1
      have s1 := hs.2
      go_enter Try.func12, Try.ntmps12
      go_wp2_with (first | (go_at_call 28; (with_reducible refine (add_f a b _ ha hb hs).mono ?_); rintro e w1 ⟨rfl, hg⟩) | (go_at_call 30; (with_reducible refine (mul_n a b _ ha hb hp).mono ?_); rintro e w1 ⟨rfl, hg⟩) | (go_at_call 36; (with_reducible refine (awake01_c _).mono ?_); rintro e w1 ⟨rfl, hg⟩))
      go_ret
      exact ⟨rfl, (by repeat (first | exact Gr.refl _ | refine Gr.grown ?_ _ _ | refine Gr.drewN ?_ _ | refine Gr.drew ?_ | refine Gr.alloc ?_ _ | refine Gr.grow ?_ _ | (refine Gr.trans ?_ (by assumption))))⟩
  · have hm : -9223372036854775808 < b := by omega
    go_enter Try.func12, Try.ntmps12
    go_wp2_with (first | (go_at_call 28; (with_reducible refine (add_n a b _ ha hb hs).mono ?_); rintro e w1 ⟨rfl, hg⟩) | (go_at_call 30; (with_reducible refine (mul_f a b _ ha hb hp).mono ?_); rintro e w1 ⟨rfl, hg⟩) | (go_at_call 32; (with_reducible refine (div_back a b _ ha hb hp h0).mono ?_); rintro e w1 ⟨rfl, hg⟩) | (go_at_call 34; (with_reducible refine (mod_back a b _ ha hb hp h0).mono ?_); rintro e w1 ⟨rfl, hg⟩) | (go_at_call 36; (with_reducible refine (awake01_c _).mono ?_); rintro e w1 ⟨rfl, hg⟩))
    go_ret
    exact ⟨rfl, (by repeat (first | exact Gr.refl _ | refine Gr.grown ?_ _ _ | refine Gr.drewN ?_ _ | refine Gr.drew ?_ | refine Gr.alloc ?_ _ | refine Gr.grow ?_ _ | (refine Gr.trans ?_ (by assumption))))⟩
  · by_cases hm : -9223372036854775808 < b
    · go_enter Try.func12, Try.ntmps12
      go_wp2_with (first | (go_at_call 28; (with_reducible refine (add_n a b _ ha hb hs).mono ?_); rintro e w1 ⟨rfl, hg⟩) | (go_at_call 30; (with_reducible refine (mul_f a b _ ha hb hp).mono ?_); rintro e w1 ⟨rfl, hg⟩) | (go_at_call 36; (with_reducible refine (awake01_c _).mono ?_); rintro e w1 ⟨rfl, hg⟩))
      go_ret
      exact ⟨rfl, (by repeat (first | exact Gr.refl _ | refine Gr.grown ?_ _ _ | refine Gr.drewN ?_ _ | refine Gr.drew ?_ | refine Gr.alloc ?_ _ | refine Gr.grow ?_ _ | (refine Gr.trans ?_ (by assumption))))⟩
    · go_enter Try.func12, Try.ntmps12
      go_wp2_with (first | (go_at_call 28; (with_reducible refine (add_n a b _ ha hb hs).mono ?_); rintro e w1 ⟨rfl, hg⟩) | (go_at_call 30; (with_reducible refine (mul_f a b _ ha hb hp).mono ?_); rintro e w1 ⟨rfl, hg⟩) | (go_at_call 36; (with_reducible refine (awake01_c _).mono ?_); rintro e w1 ⟨rfl, hg⟩))
      go_ret
      exact ⟨rfl, (by repeat (first | exact Gr.refl _ | refine Gr.grown ?_ _ _ | refine Gr.drewN ?_ _ | refine Gr.drew ?_ | refine Gr.alloc ?_ _ | refine Gr.grow ?_ _ | (refine Gr.trans ?_ (by assumption))))⟩
  · have hm : -9223372036854775808 < b := by omega
    go_enter Try.func12, Try.ntmps12
    go_wp2_with (first | (go_at_call 28; (with_reducible refine (add_n a b _ ha hb hs).mono ?_); rintro e w1 ⟨rfl, hg⟩) | (go_at_call 30; (with_reducible refine (mul_n a b _ ha hb hp).mono ?_); rintro e w1 ⟨rfl, hg⟩) | (go_at_call 36; (with_reducible refine (awake01_c _).mono ?_); rintro e w1 ⟨rfl, hg⟩))
    go_ret
    exact ⟨rfl, (by repeat (first | exact Gr.refl _ | refine Gr.grown ?_ _ _ | refine Gr.drewN ?_ _ | refine Gr.drew ?_ | refine Gr.alloc ?_ _ | refine Gr.grow ?_ _ | (refine Gr.trans ?_ (by assumption))))⟩
  · by_cases hm : -9223372036854775808 < b
    · go_enter Try.func12, Try.ntmps12
      go_wp2_with (first | (go_at_call 28; (with_reducible refine (add_n a b _ ha hb hs).mono ?_); rintro e w1 ⟨rfl, hg⟩) | (go_at_call 30; (with_reducible refine (mul_n a b _ ha hb hp).mono ?_); rintro e w1 ⟨rfl, hg⟩) | (go_at_call 36; (with_reducible refine (awake01_c _).mono ?_); rintro e w1 ⟨rfl, hg⟩))
      go_ret
      exact ⟨rfl, (by repeat (first | exact Gr.refl _ | refine Gr.grown ?_ _ _ | refine Gr.drewN ?_ _ | refine Gr.drew ?_ | refine Gr.alloc ?_ _ | refine Gr.grow ?_ _ | (refine Gr.trans ?_ (by assumption))))⟩
    · go_enter Try.func12, Try.ntmps12
      go_wp2_with (first | (go_at_call 28; (with_reducible refine (add_n a b _ ha hb hs).mono ?_); rintro e w1 ⟨rfl, hg⟩) | (go_at_call 30; (with_reducible refine (mul_n a b _ ha hb hp).mono ?_); rintro e w1 ⟨rfl, hg⟩) | (go_at_call 36; (with_reducible refine (awake01_c _).mono ?_); rintro e w1 ⟨rfl, hg⟩))
      go_ret
      exact ⟨rfl, (by repeat (first | exact Gr.refl _ | refine Gr.grown ?_ _ _ | refine Gr.drewN ?_ _ | refine Gr.drew ?_ | refine Gr.alloc ?_ _ | refine Gr.grow ?_ _ | (refine Gr.trans ?_ (by assumption))))⟩

end Go.Proofs.Ytmeimicphadlpaa.Walks
