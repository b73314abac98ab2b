/- The days near a day have the weekday and lie less than seven days away, and in each seven days there is one more: the pure statement; every input. -/
import Derived.Test.YtmeimicphadlpaaPWeekNearx1
import Derived.Test.YtmeimicphadlpaaPlain
set_option linter.unusedVariables false
namespace Go.Proofs.Ytmeimicphadlpaa.Pure
open Go.RowKit Go.Proofs.Ytmeimicphadlpaa.PWeekNear Go.Proofs.YtmeimicphadlpaaW.PrintWords Go.Proofs.YtmeimicphadlpaaW.PrintLast
open Go.Proofs.Ytmeimicphadlpaa.Plain

namespace WN

theorem i32_range {a : Int} (h : (Lit.int .i32 a).wf = true) : -2147483648 ≤ a ∧ a ≤ 2147483647 := bounds_i32 h
theorem v_eq {a : Int} (h : (Lit.int .u8 a).wf = true) : wrap64 (Int.tmod a 7) = a % 7 := by
  have b := bounds_u8 h
  rw [Int.tmod_eq_emod_of_nonneg b.1, w64 (by omega) (by omega)]

theorem mod_eq (a b : Int) (hb : 0 < b) (h0 : -9223372036854775808 ≤ a) (h1 : a ≤ 9223372036854775807) (hb1 : b ≤ 9223372036854775807) : exact_Mod.f a b = some (a % b, 0) := by
  have f := (floor_both a b hb).2
  have m0 := Int.emod_nonneg a (b := b) (by omega)
  have m1 := Int.emod_lt_of_pos a hb
  unfold exact_Mod.f exact_both.f
  rw [if_neg (by omega), if_neg (by omega)]
  by_cases h : Int.tmod a b < 0
  · rw [if_pos h] at f ⊢
    simp only [Option.bind_some]
    rw [f, w64 (by omega) (by omega)]
  · rw [if_neg h] at f ⊢
    simp only [Option.bind_some]
    rw [f]

theorem weekday_eq (a : Int) (h0 : -9223372036854775808 ≤ a) (h1 : a ≤ 9223372036854775807) : molad_Weekday.f a = some (a % 7) := by
  unfold molad_Weekday.f
  rw [mod_eq a 7 (by omega) h0 h1 (by omega)]
  rfl

theorem left_eq (a b : Int) (hb : 0 < b) (hb1 : b ≤ 9223372036854775807) : almanackerref01_Left.f a b = some (a % b) := by
  have f := (floor_both a b hb).2
  have m0 := Int.emod_nonneg a (b := b) (by omega)
  have m1 := Int.emod_lt_of_pos a hb
  unfold almanackerref01_Left.f
  rw [if_neg (by omega)]
  by_cases h : Int.tmod a b < 0
  · rw [if_pos h] at f ⊢
    rw [f, w64 (by omega) (by omega)]
  · rw [if_neg h] at f ⊢
    rw [f]

theorem wd_eq (a : Int) : almanackerref04_Weekday.f a = some (a % 7) := by
  unfold almanackerref04_Weekday.f
  rw [left_eq a 7 (by omega) (by omega)]
  rfl

/-- The first day from one on, in plain numbers. -/
def fr (d w : Int) : Int := if 0 ≤ w ∧ w ≤ 6 then d + (w - d) % 7 else d
/-- The last day upd to one. -/
def upd (d w : Int) : Int := if 0 ≤ w ∧ w ≤ 6 then d - (d - w) % 7 else d

theorem from_eq (d w : Int) (h0 : -1099511627790 ≤ d) (h1 : d ≤ 1099511627790) : week_From.f d w = some (fr d w) := by
  unfold week_From.f fr
  by_cases a : w < 0
  · rw [if_pos a, if_neg (by omega)]
  · by_cases b : w > 6
    · rw [if_neg a, if_pos b, if_neg (by omega)]
    · rw [if_neg a, if_neg b, if_pos (by omega), w64 (by omega) (by omega), weekday_eq _ (by omega) (by omega)]
      simp only [Option.bind_some]
      rw [w64 (by omega) (by omega)]

theorem upto_eq (d w : Int) (h0 : -1099511627790 ≤ d) (h1 : d ≤ 1099511627790) : week_Upto.f d w = some (upd d w) := by
  unfold week_Upto.f upd
  by_cases a : w < 0
  · rw [if_pos a, if_neg (by omega)]
  · by_cases b : w > 6
    · rw [if_neg a, if_pos b, if_neg (by omega)]
    · rw [if_neg a, if_neg b, if_pos (by omega), w64 (by omega) (by omega), weekday_eq _ (by omega) (by omega)]
      simp only [Option.bind_some]
      rw [w64 (by omega) (by omega)]

/-- How many there are. -/
def cn (f t w : Int) : Int := if 0 ≤ w ∧ w ≤ 6 ∧ f ≤ t ∧ fr f w ≤ t then (t - fr f w) / 7 + 1 else 0

theorem fr_range (d w : Int) (h0 : -1099511627776 ≤ d) (h1 : d ≤ 1099511627776) : -1099511627776 ≤ fr d w ∧ fr d w ≤ 1099511627783 := by
  unfold fr; split <;> omega

theorem count_eq (k : Nat) (f t w : Int) (f0 : -1099511627776 ≤ f) (f1 : f ≤ 1099511627776) (t0 : -1099511627776 ≤ t) (t1 : t ≤ 1099511627776) : week_Count.f (k + 1) f t w = some (cn f t w) := by
  have hf := fr_range f w f0 f1
  unfold week_Count.f
  by_cases a : w < 0
  · rw [if_pos a]; simp only [week_Count.j0, if_true]; unfold cn; rw [if_neg (by omega)]
  · by_cases b : w > 6
    · rw [if_neg a, if_pos b]; simp only [week_Count.j0, if_true]; unfold cn; rw [if_neg (by omega)]
    · rw [if_neg a, if_neg b]
      by_cases c : t < f
      · simp only [week_Count.j0]; rw [if_pos (decide_eq_true c)]; unfold cn; rw [if_neg (by omega)]
      · simp only [week_Count.j0]; rw [if_neg (by simp; omega), from_eq f w (by omega) (by omega)]
        simp only [Option.bind_some]
        unfold cn
        by_cases g : fr f w ≤ t
        · rw [if_pos g, if_pos (by omega), w64 (n := t - fr f w) (by omega) (by omega), Int.tdiv_eq_ediv_of_nonneg (by omega), w64 (n := (t - fr f w) / 7) (by omega) (by omega), w64 (by omega) (by omega)]
        · rw [if_neg g, if_neg (by omega)]

theorem awake_eq (k : Nat) : almanackerlaw12_awake.f (k + 1) = some true := by
  unfold almanackerlaw12_awake.f
  rw [from_eq _ _ (by omega) (by omega), upto_eq _ _ (by omega) (by omega), count_eq k _ _ _ (by omega) (by omega) (by omega) (by omega)]
  decide


end WN
open WN in
theorem WeekNear : almanackerlaw12_WeekNear.Pure := by
  intro d w n hd hw hn
  have bd := i32_range hd
  have bw := bounds_u8 hw
  have bn := bounds_u8 hn
  refine ⟨12, ?_⟩
  unfold almanackerlaw12_WeekNear.f
  rw [v_eq hw, w64 (n := d) (by omega) (by omega), w64 (n := n) (by omega) (by omega), w64 (n := 7 * n) (by omega) (by omega), w64 (n := d + 7) (by omega) (by omega), w64 (n := d - 7) (by omega) (by omega), w64 (n := d + 7 * n) (by omega) (by omega), w64 (n := d + 7 * n - 1) (by omega) (by omega)]
  have e1 : fr d (w % 7) = d + (w % 7 - d) % 7 := by unfold fr; rw [if_pos (by omega)]
  have e2 : upd d (w % 7) = d - (d - w % 7) % 7 := by unfold upd; rw [if_pos (by omega)]
  rw [from_eq _ _ (by omega) (by omega), upto_eq _ _ (by omega) (by omega), awake_eq, count_eq 11 _ _ _ (by omega) (by omega) (by omega) (by omega)]
  simp only [Option.bind_some, if_true, wd_eq]
  rw [e1, e2]
  rw [if_pos (by omega), if_pos (by omega), if_pos (by omega), if_pos (by omega), if_pos (by omega), if_pos (by omega)]
  have hc : cn d (d + 7 * n - 1) (w % 7) = n := by
    unfold cn
    rw [e1]
    by_cases h0 : n = 0
    · rw [if_neg (by omega)]; omega
    · rw [if_pos (by omega)]; omega
  rw [hc]
  by_cases c : d % 7 = w % 7
  · have h1 : (d + (w % 7 - d) % 7 == d - (d - w % 7) % 7) = true := beq_iff_eq.2 (by omega)
    have h2 : (d % 7 == w % 7) = true := beq_iff_eq.2 c
    rw [h1, h2]; simp
  · have h1 : (d + (w % 7 - d) % 7 == d - (d - w % 7) % 7) = false := beq_eq_false_iff_ne.2 (by omega)
    have h2 : (d % 7 == w % 7) = false := beq_eq_false_iff_ne.2 c
    rw [h1, h2]; simp

end Go.Proofs.Ytmeimicphadlpaa.Pure
