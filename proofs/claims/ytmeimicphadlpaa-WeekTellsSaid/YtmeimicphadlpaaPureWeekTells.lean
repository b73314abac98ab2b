/- The days with a weekday near a day, and how many there are between two, are the document's: the pure statement; every input. -/
import Derived.Test.YtmeimicphadlpaaPWeekTellsx2
import Derived.Test.YtmeimicphadlpaaPlain
set_option linter.unusedVariables false
namespace Go.Proofs.Ytmeimicphadlpaa.Pure
open Go.RowKit Go.Proofs.Ytmeimicphadlpaa.PWeekTells Go.Proofs.YtmeimicphadlpaaW.PrintWords Go.Proofs.YtmeimicphadlpaaW.PrintLast
open Go.Proofs.Ytmeimicphadlpaa.Plain

namespace WT

theorem mod_eq (a b : Int) (hb : 0 < b) (h0 : -9223372036854775808 ≤ a) (h1 : a ≤ 9223372036854775807) (hb1 : b ≤ 9223372036854775807) : exact_Mod.f a b = some (a % b, 0) := by
  have f := (floor_both a b hb).2
  have m0 := Int.emod_nonneg a (b := b) (by omega)
  have m1 := Int.emod_lt_of_pos a hb
  unfold exact_Mod.f exact_both.f
  rw [if_neg (by omega), if_neg (by omega)]
  by_cases h : Int.tmod a b < 0
  · rw [if_pos h] at f ⊢
    simp only [Option.bind_some]
    rw [f, w64 (by omega) (by omega)]
  · rw [if_neg h] at f ⊢
    simp only [Option.bind_some]
    rw [f]

theorem weekday_eq (a : Int) (h0 : -9223372036854775808 ≤ a) (h1 : a ≤ 9223372036854775807) : molad_Weekday.f a = some (a % 7) := by
  unfold molad_Weekday.f
  rw [mod_eq a 7 (by omega) h0 h1 (by omega)]
  rfl

theorem left_eq (a b : Int) (hb : 0 < b) (hb1 : b ≤ 9223372036854775807) : almanackerref01_Left.f a b = some (a % b) := by
  have f := (floor_both a b hb).2
  have m0 := Int.emod_nonneg a (b := b) (by omega)
  have m1 := Int.emod_lt_of_pos a hb
  unfold almanackerref01_Left.f
  rw [if_neg (by omega)]
  by_cases h : Int.tmod a b < 0
  · rw [if_pos h] at f ⊢
    rw [f, w64 (by omega) (by omega)]
  · rw [if_neg h] at f ⊢
    rw [f]

theorem wd_eq (a : Int) : almanackerref04_Weekday.f a = some (a % 7) := by
  unfold almanackerref04_Weekday.f
  rw [left_eq a 7 (by omega) (by omega)]
  rfl

/-- The first day from one on, in plain numbers. -/
def fr (d w : Int) : Int := if 0 ≤ w ∧ w ≤ 6 then d + (w - d) % 7 else d
/-- The last day upd to one. -/
def upd (d w : Int) : Int := if 0 ≤ w ∧ w ≤ 6 then d - (d - w) % 7 else d

theorem from_eq (d w : Int) (h0 : -1099511627790 ≤ d) (h1 : d ≤ 1099511627790) : week_From.f d w = some (fr d w) := by
  unfold week_From.f fr
  by_cases a : w < 0
  · rw [if_pos a, if_neg (by omega)]
  · by_cases b : w > 6
    · rw [if_neg a, if_pos b, if_neg (by omega)]
    · rw [if_neg a, if_neg b, if_pos (by omega), w64 (by omega) (by omega), weekday_eq _ (by omega) (by omega)]
      simp only [Option.bind_some]
      rw [w64 (by omega) (by omega)]

theorem upto_eq (d w : Int) (h0 : -1099511627790 ≤ d) (h1 : d ≤ 1099511627790) : week_Upto.f d w = some (upd d w) := by
  unfold week_Upto.f upd
  by_cases a : w < 0
  · rw [if_pos a, if_neg (by omega)]
  · by_cases b : w > 6
    · rw [if_neg a, if_pos b, if_neg (by omega)]
    · rw [if_neg a, if_neg b, if_pos (by omega), w64 (by omega) (by omega), weekday_eq _ (by omega) (by omega)]
      simp only [Option.bind_some]
      rw [w64 (by omega) (by omega)]

/-- How many there are. -/
def cn (f t w : Int) : Int := if 0 ≤ w ∧ w ≤ 6 ∧ f ≤ t ∧ fr f w ≤ t then (t - fr f w) / 7 + 1 else 0

theorem fr_range (d w : Int) (h0 : -1099511627776 ≤ d) (h1 : d ≤ 1099511627776) : -1099511627776 ≤ fr d w ∧ fr d w ≤ 1099511627783 := by
  unfold fr; split <;> omega

theorem count_eq (k : Nat) (f t w : Int) (f0 : -1099511627776 ≤ f) (f1 : f ≤ 1099511627776) (t0 : -1099511627776 ≤ t) (t1 : t ≤ 1099511627776) : week_Count.f (k + 1) f t w = some (cn f t w) := by
  have hf := fr_range f w f0 f1
  unfold week_Count.f
  by_cases a : w < 0
  · rw [if_pos a]; simp only [week_Count.j0, if_true]; unfold cn; rw [if_neg (by omega)]
  · by_cases b : w > 6
    · rw [if_neg a, if_pos b]; simp only [week_Count.j0, if_true]; unfold cn; rw [if_neg (by omega)]
    · rw [if_neg a, if_neg b]
      by_cases c : t < f
      · simp only [week_Count.j0]; rw [if_pos (decide_eq_true c)]; unfold cn; rw [if_neg (by omega)]
      · simp only [week_Count.j0]; rw [if_neg (by simp; omega), from_eq f w (by omega) (by omega)]
        simp only [Option.bind_some]
        unfold cn
        by_cases g : fr f w ≤ t
        · rw [if_pos g, if_pos (by omega), w64 (n := t - fr f w) (by omega) (by omega), Int.tdiv_eq_ediv_of_nonneg (by omega), w64 (n := (t - fr f w) / 7) (by omega) (by omega), w64 (by omega) (by omega)]
        · rw [if_neg g, if_neg (by omega)]

theorem is_eq (w : Int) : almanackerref12_is.f w = some (decide (0 ≤ w ∧ w ≤ 6)) := by
  unfold almanackerref12_is.f
  by_cases a : w ≥ 0
  · rw [if_pos a]; simp; omega
  · rw [if_neg a]; simp; omega

theorem from_l (w : Int) (hw0 : 0 ≤ w) (hw1 : w ≤ 6) (d : Nat) : ∀ (k : Nat) (x : Int), -1099511627776 ≤ x → x + (w - x) % 7 ≤ 1099511627800 → (w - x) % 7 = d → d < k → almanackerref12_From.l0 k x w = some (x + (w - x) % 7) := by
  induction d with
  | zero =>
    intro k x h0 h1 hd hk
    obtain ⟨k, rfl⟩ : ∃ m, k = m + 1 := ⟨k - 1, by omega⟩
    simp only [almanackerref12_From.l0]; rw [wd_eq]; simp only [Option.bind_some]; rw [if_pos (by omega), hd]; simp
  | succ d ih =>
    intro k x h0 h1 hd hk
    obtain ⟨k, rfl⟩ : ∃ m, k = m + 1 := ⟨k - 1, by omega⟩
    simp only [almanackerref12_From.l0]; rw [wd_eq]; simp only [Option.bind_some]; rw [if_neg (by omega), w64 (by omega) (by omega)]
    rw [ih k (x + 1) (by omega) (by omega) (by omega) (by omega)]
    congr 1; omega

theorem upto_l (w : Int) (hw0 : 0 ≤ w) (hw1 : w ≤ 6) (d : Nat) : ∀ (k : Nat) (x : Int), -1099511627800 ≤ x - (x - w) % 7 → x ≤ 1099511627776 → (x - w) % 7 = d → d < k → almanackerref12_Upto.l0 k x w = some (x - (x - w) % 7) := by
  induction d with
  | zero =>
    intro k x h0 h1 hd hk
    obtain ⟨k, rfl⟩ : ∃ m, k = m + 1 := ⟨k - 1, by omega⟩
    simp only [almanackerref12_Upto.l0]; rw [wd_eq]; simp only [Option.bind_some]; rw [if_pos (by omega), hd]; simp
  | succ d ih =>
    intro k x h0 h1 hd hk
    obtain ⟨k, rfl⟩ : ∃ m, k = m + 1 := ⟨k - 1, by omega⟩
    simp only [almanackerref12_Upto.l0]; rw [wd_eq]; simp only [Option.bind_some]; rw [if_neg (by omega), w64 (by omega) (by omega)]
    rw [ih k (x - 1) (by omega) (by omega) (by omega) (by omega)]
    congr 1; omega

theorem rfrom_eq (k : Nat) (hk : 7 ≤ k) (d w : Int) (h0 : -1099511627776 ≤ d) (h1 : d ≤ 1099511627776) : almanackerref12_From.f k d w = some (fr d w) := by
  unfold almanackerref12_From.f fr
  rw [is_eq]; simp only [Option.bind_some]
  by_cases h : 0 ≤ w ∧ w ≤ 6
  · rw [if_pos (decide_eq_true h), if_pos h]
    exact from_l w h.1 h.2 ((w - d) % 7).toNat k d (by omega) (by omega) (by omega) (by omega)
  · rw [if_neg (by simp; omega), if_neg h]

theorem rupto_eq (k : Nat) (hk : 7 ≤ k) (d w : Int) (h0 : -1099511627776 ≤ d) (h1 : d ≤ 1099511627776) : almanackerref12_Upto.f k d w = some (upd d w) := by
  unfold almanackerref12_Upto.f upd
  rw [is_eq]; simp only [Option.bind_some]
  by_cases h : 0 ≤ w ∧ w ≤ 6
  · rw [if_pos (decide_eq_true h), if_pos h]
    exact upto_l w h.1 h.2 ((d - w) % 7).toNat k d (by omega) (by omega) (by omega) (by omega)
  · rw [if_neg (by simp; omega), if_neg h]

theorem rcount_eq (k : Nat) (hk : 7 ≤ k) (f t w : Int) (f0 : -1099511627776 ≤ f) (f1 : f ≤ 1099511627776) (t0 : -1099511627776 ≤ t) (t1 : t ≤ 1099511627776) : almanackerref12_Count.f (k + 1) f t w = some (cn f t w) := by
  unfold almanackerref12_Count.f
  rw [is_eq]; simp only [Option.bind_some]
  by_cases h : 0 ≤ w ∧ w ≤ 6
  · rw [if_pos (decide_eq_true h)]
    simp only [almanackerref12_Count.j0]
    by_cases c : t < f
    · rw [if_pos (decide_eq_true c)]; unfold cn; rw [if_neg (by omega)]
    · rw [if_neg (by simp; omega), rfrom_eq k hk f w f0 f1, rupto_eq k hk t w t0 t1]
      simp only [Option.bind_some]
      have e1 : fr f w = f + (w - f) % 7 := by unfold fr; rw [if_pos h]
      have e2 : upd t w = t - (t - w) % 7 := by unfold upd; rw [if_pos h]
      unfold cn
      rw [e1, e2]
      by_cases g : f + (w - f) % 7 ≤ t
      · rw [if_neg (by omega), if_pos (by omega), w64 (n := t - (t - w) % 7 - (f + (w - f) % 7)) (by omega) (by omega), Int.tdiv_eq_ediv_of_nonneg (by omega), w64 (n := (t - (t - w) % 7 - (f + (w - f) % 7)) / 7) (by omega) (by omega), w64 (by omega) (by omega)]
        congr 1; omega
      · rw [if_pos (by omega), if_neg (by omega)]
  · rw [if_neg (by simp; omega)]
    simp only [almanackerref12_Count.j0, if_true]
    unfold cn; rw [if_neg (by omega)]

theorem awake_eq (k : Nat) : almanackerlaw12_awake.f (k + 1) = some true := by
  unfold almanackerlaw12_awake.f
  rw [from_eq _ _ (by omega) (by omega), upto_eq _ _ (by omega) (by omega), count_eq k _ _ _ (by omega) (by omega) (by omega) (by omega)]
  decide

end WT
open WT in
theorem WeekTells : almanackerlaw12_WeekTells.Pure := by
  intro d t w h0 h1 h2
  refine ⟨12, ?_⟩
  have hj : ∀ x : Bool, (x = false → -1099511627776 ≤ d ∧ d ≤ 1099511627776 ∧ -1099511627776 ≤ t ∧ t ≤ 1099511627776) → almanackerlaw12_WeekTells.j0 12 d t w x = some true := by
    intro x hx
    simp only [almanackerlaw12_WeekTells.j0]
    cases x with
    | true => rw [if_pos rfl, awake_eq]; rfl
    | false =>
      obtain ⟨a, b, c, e⟩ := hx rfl
      rw [if_neg (by simp), awake_eq]
      simp only [Option.bind_some, if_true]
      rw [from_eq d w (by omega) (by omega), rfrom_eq 11 (by omega) d w a b]
      simp only [Option.bind_some, if_true]
      rw [upto_eq d w (by omega) (by omega), rupto_eq 11 (by omega) d w a b]
      simp only [Option.bind_some, if_true]
      rw [count_eq 10 d t w a b c e, rcount_eq 10 (by omega) d t w a b c e]
      simp
  unfold almanackerlaw12_WeekTells.f
  by_cases a : d < -1099511627776
  · rw [if_pos a]; exact hj _ (by simp)
  · by_cases b : d > 1099511627776
    · rw [if_neg a, if_pos b]; exact hj _ (by simp)
    · by_cases c : t < -1099511627776
      · rw [if_neg a, if_neg b, if_pos c]; exact hj _ (by simp)
      · rw [if_neg a, if_neg b, if_neg c]; exact hj _ (by simp; omega)

end Go.Proofs.Ytmeimicphadlpaa.Pure
