/- No year begins on a Sunday, a Wednesday or a Friday, and a year has 353, 354 or 355 days, or 30 more: the walk of the law; every input. -/
import Derived.Test.YtiadghpepnpbgaaAwake45
import Derived.Test.YtiadghpepnpbgaaYears
set_option linter.unusedVariables false
set_option linter.unusedSimpArgs false
namespace Go.Proofs.Ytiadghpepnpbgaa.Walks
open Go Go.RowKit Go.Sort Go.Proofs.Ytiadghpepnpbgaa.Base Go.Proofs.Ytiadghpepnpbgaa.Plain Go.Proofs.Ytiadghpepnpbgaa.Math

theorem first_v (y F : Int) (h0 : 0 ≤ y) (h1 : y ≤ 10001) (h : fy y = F) (w : World) : Calls Try.prog 34 #[.int .i64 y] w fun e w' => e = .returned (.tuple #[.int .i64 F, .int .i64 0]) ∧ Gr w w' := by
  subst h; exact first_in y w h0 h1
theorem ris_v (y : Int) (b : Bool) (h0 : 0 ≤ y) (h1 : y ≤ 10001) (h : lp y = b) (w : World) : Calls Try.prog 39 #[.int .i64 y] w fun e w' => e = .returned (.bool b) ∧ Gr w w' := by
  subst h; exact ris_c y w (by omega) (by omega)

set_option maxHeartbeats 4000000 in
theorem days_core (y k A B : Int) (b : Bool) (w : World) (y0 : 0 ≤ y) (y1 : y ≤ 65535) (hk : y % 10001 = k) (hA : fy k = A) (hB : fy (k + 1) = B) (hb : lp k = b)
    (a0 : -7300000 ≤ A) (a1 : A ≤ 4540000) (d0 : (if b = true then 383 else 353) ≤ B - A) (d1 : B - A ≤ if b = true then 385 else 355) (g0 : (A % 7 == 0) = false) (g3 : (A % 7 == 3) = false) (g5 : (A % 7 == 5) = false) :
    Calls Try.prog 10 #[.int .u16 y] w fun e w' => e = .returned (.bool true) ∧ Gr w w' := by
  have HK := Lib.hid hk
  have C1 := Lib.hid (first_v k A (by omega) (by omega) hA)
  have C2 := Lib.hid (first_v (k + 1) B (by omega) (by omega) hB)
  have C3 := Lib.hid (ris_v k b (by omega) (by omega) hb)
  have E : RowKit.Hid (Int.tmod A 7 % 7 = A % 7) := Lib.hid (by
    by_cases n : 0 ≤ A
    · rw [Int.tmod_eq_emod_of_nonneg n]; omega
    · have := Int.tmod_add_mul_tdiv A 7; have := Int.lt_tmod_of_pos A (b := 7) (by omega); have := Int.tmod_lt_of_pos A (b := 7) (by omega); omega)
  have t0 := Int.lt_tmod_of_pos A (b := 7) (by omega)
  have t1 := Int.tmod_lt_of_pos A (b := 7) (by omega)
  have k0 : 0 ≤ k := by omega
  have k1 : k ≤ 10000 := by omega
  have n0 : (A % 7 != 0) = true := by rw [bne, g0]; rfl
  have n3 : (A % 7 != 3) = true := by rw [bne, g3]; rfl
  have n5 : (A % 7 != 5) = true := by rw [bne, g5]; rfl
  clear hk hA hB hb g0 g3 g5
  cases b
  · simp only [Bool.false_eq_true, if_false] at d0 d1
    go_enter Try.func10, Try.ntmps10
    go_wp2_with fail
    rw [HK.out]
    go_wp2_with (first | (go_at_call 34; (with_reducible refine (C1.out _).mono ?_); rintro e w1 ⟨rfl, hg⟩) | (go_at_call 34; (with_reducible refine (C2.out _).mono ?_); rintro e w1 ⟨rfl, hg⟩) | (go_at_call 39; (with_reducible refine (C3.out _).mono ?_); rintro e w1 ⟨rfl, hg⟩) | (go_at_call 36; rw [E.out]; (with_reducible refine (awake05_c _).mono ?_); rintro e w1 ⟨rfl, hg⟩))
    go_ret
    exact ⟨retb (by first | rfl | (simp; omega)), (by repeat (first | exact Gr.refl _ | refine Gr.setCell ?_ _ _ (by first | exact Nat.le_refl _ | (simp; omega) | (simp; done)) | refine Gr.grown ?_ _ _ | refine Gr.drewN ?_ _ | refine Gr.drew ?_ | refine Gr.alloc ?_ _ | refine Gr.grow ?_ _ | (refine Gr.trans ?_ (by assumption))))⟩
  · simp only [if_true] at d0 d1
    go_enter Try.func10, Try.ntmps10
    go_wp2_with fail
    rw [HK.out]
    go_wp2_with (first | (go_at_call 34; (with_reducible refine (C1.out _).mono ?_); rintro e w1 ⟨rfl, hg⟩) | (go_at_call 34; (with_reducible refine (C2.out _).mono ?_); rintro e w1 ⟨rfl, hg⟩) | (go_at_call 39; (with_reducible refine (C3.out _).mono ?_); rintro e w1 ⟨rfl, hg⟩) | (go_at_call 36; rw [E.out]; (with_reducible refine (awake05_c _).mono ?_); rintro e w1 ⟨rfl, hg⟩))
    go_ret
    exact ⟨retb (by first | rfl | (simp; omega)), (by repeat (first | exact Gr.refl _ | refine Gr.setCell ?_ _ _ (by first | exact Nat.le_refl _ | (simp; omega) | (simp; done)) | refine Gr.grown ?_ _ _ | refine Gr.drewN ?_ _ | refine Gr.drew ?_ | refine Gr.alloc ?_ _ | refine Gr.grow ?_ _ | (refine Gr.trans ?_ (by assumption))))⟩

theorem newyearDays_w (y : Int) (w : World) (w0 : (Lit.int .u16 y).wf = true) :
    Calls Try.prog 10 #[.int .u16 y] w fun e w' => e = .returned (.bool true) ∧ Gr w w' := by
  have b0 := bounds_u16 w0
  have hk : y % 10001 = (((y % 10001).toNat : Nat) : Int) := by omega
  have h := year_facts (y % 10001).toNat (by omega)
  rw [← hk] at h
  obtain ⟨h1, h2, h3, h4, h5⟩ := h
  have r := fy_range (y := y % 10001) (by omega) (by omega)
  exact days_core y _ _ _ _ w b0.1 b0.2 rfl rfl rfl rfl r.1 r.2 h1 h2 h3 h4 h5

end Go.Proofs.Ytiadghpepnpbgaa.Walks
