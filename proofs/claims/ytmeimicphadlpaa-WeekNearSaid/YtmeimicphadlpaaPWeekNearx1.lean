-- PRINTED BY print.sh 35421559b90ae4d0a3588c463048766b98c2df88dd9212a6774a882060cdf62d: not written by this session
import Derived.Test.YtmeimicphadlpaaPWeekNearx0
namespace Go.Proofs.Ytmeimicphadlpaa.PWeekNear
open Go.RowKit Go.Proofs.YtmeimicphadlpaaW.PrintWords Go.Proofs.YtmeimicphadlpaaW.PrintLast Go.Proofs.YtmeimicphadlpaaW.PrintMore
attribute [local go_sem] max2_int min2_int max_two min_two max_three min_three max_four min_four   -- for this text's walks alone
set_option linter.unusedVariables false
set_option linter.unusedSimpArgs false

/-! ### exact_both: function 46 -/
def exact_both.f (a0 : Int) (a1 : Int) : Option (Int × Int) := if a1 = 0 then (none) else (if (Int.tmod a0 a1) < 0 then (some (wrap64 ((wrap64 (Int.tdiv a0 a1)) - 1), wrap64 ((Int.tmod a0 a1) + a1))) else (some (wrap64 (Int.tdiv a0 a1), Int.tmod a0 a1)))
set_option maxHeartbeats 8000000 in
set_option maxRecDepth 100000 in
theorem exact_both.calls (a0 : Int) (a1 : Int) (r1 : Int) (r2 : Int) (w : World) (h : exact_both.f a0 a1 = some (r1, r2)) :
    Calls Try.prog 46 #[.int .i64 a0, .int .i64 a1] w fun e w' => e = .returned (.tuple #[.int .i64 r1, .int .i64 r2]) ∧ Drawn0 w w' := by
  have H : (if a1 = 0 then (none) else (if (Int.tmod a0 a1) < 0 then (some (wrap64 ((wrap64 (Int.tdiv a0 a1)) - 1), wrap64 ((Int.tmod a0 a1) + a1))) else (some (wrap64 (Int.tdiv a0 a1), Int.tmod a0 a1)))) = some (r1, r2) := h
  clear h
  by_cases c3 : a1 = 0
  · rw [if_pos c3] at H
    exact absurd H (by simp)
  · rw [if_neg c3] at H
    have c3b0 : (a1 == 0) = false := beq_eq_false_iff_ne.mpr c3
    have c3b1 : (a1 != 0) = true := bne_iff_ne.mpr c3
    by_cases c4 : (Int.tmod a0 a1) < 0
    · rw [if_pos c4] at H
      have c4b0 : decide ((Int.tmod a0 a1) < 0) = true := decide_eq_true c4
      clear c4
      simp only [Option.some.injEq, Prod.mk.injEq] at H
      obtain ⟨rfl, rfl⟩ := H
      go_enter Try.func46, Try.ntmps46
      go_wp2
      repeat (go_quiet (fail); try go_wp2)
      go_ret2
      exact ⟨by first | rfl | (simp; done) | (simp [*]; done), by repeat (first | exact Drawn0.refl _ | apply Drawn0.step)⟩
    · rw [if_neg c4] at H
      have c4b0 : decide ((Int.tmod a0 a1) < 0) = false := decide_eq_false c4
      clear c4
      simp only [Option.some.injEq, Prod.mk.injEq] at H
      obtain ⟨rfl, rfl⟩ := H
      go_enter Try.func46, Try.ntmps46
      go_wp2
      repeat (go_quiet (fail); try go_wp2)
      go_ret2
      exact ⟨by first | rfl | (simp; done) | (simp [*]; done), by repeat (first | exact Drawn0.refl _ | apply Drawn0.step)⟩

/-! ### exact_Mod: function 34 -/
def exact_Mod.f (a0 : Int) (a1 : Int) : Option (Int × Int) := if a1 < 1 then (some (0, 1)) else ((exact_both.f a0 a1).bind fun bt101 => (some (bt101.2, 0)))
set_option maxHeartbeats 8000000 in
set_option maxRecDepth 100000 in
theorem exact_Mod.calls (a0 : Int) (a1 : Int) (r1 : Int) (r2 : Int) (w : World) (h : exact_Mod.f a0 a1 = some (r1, r2)) :
    Calls Try.prog 34 #[.int .i64 a0, .int .i64 a1] w fun e w' => e = .returned (.tuple #[.int .i64 r1, .int .i64 r2]) ∧ Drawn0 w w' := by
  have H : (if a1 < 1 then (some (0, 1)) else ((exact_both.f a0 a1).bind fun bt101 => (some (bt101.2, 0)))) = some (r1, r2) := h
  clear h
  by_cases c3 : a1 < 1
  · rw [if_pos c3] at H
    have c3b0 : decide (a1 < 1) = true := decide_eq_true c3
    clear c3
    simp only [Option.some.injEq, Prod.mk.injEq] at H
    obtain ⟨rfl, rfl⟩ := H
    go_enter Try.func34, Try.ntmps34
    go_wp2
    go_ret2
    exact ⟨by first | rfl | (simp; done) | (simp [*]; done), by repeat (first | exact Drawn0.refl _ | apply Drawn0.step)⟩
  · rw [if_neg c3] at H
    have c3b0 : decide (a1 < 1) = false := decide_eq_false c3
    clear c3
    replace H := Option.bind_eq_some_iff.mp H
    obtain ⟨⟨t101, t102⟩, A40, H⟩ := H
    replace H : (some (t102, 0)) = some (r1, r2) := H
    have A4 := Aside0.mk A40
    clear A40
    simp only [Option.some.injEq, Prod.mk.injEq] at H
    obtain ⟨rfl, rfl⟩ := H
    go_enter Try.func34, Try.ntmps34
    go_wp2_with (first | ((with_reducible refine gate_callee (f := 46) rfl ?_); refine goesL_ (some 13) rfl rfl Try.func46 (by kernel_rfl) rfl #[.int .i64 a0, .int .i64 a1] rfl (by (try simp only [List.map_toArray, List.map_cons, List.map_nil]); first | done | rfl | (simp only [List.length_drop, List.length_take]; rfl)) ?_; (with_reducible refine (exact_both.calls a0 a1 t101 t102 _ A4.out).mono ?_); rintro e w' ⟨rfl, ⟨nd, rfl⟩⟩; refine ⟨_, rfl, ?_⟩))
    go_ret2
    exact ⟨by first | rfl | (simp; done) | (simp [*]; done), by repeat (first | exact Drawn0.refl _ | apply Drawn0.step)⟩

/-! ### molad_Weekday: function 37 -/
def molad_Weekday.f (a0 : Int) : Option (Int) := (exact_Mod.f a0 7).bind fun bt103 => (some bt103.1)
set_option maxHeartbeats 8000000 in
set_option maxRecDepth 100000 in
theorem molad_Weekday.calls (a0 : Int) (r : Int) (w : World) (h : molad_Weekday.f a0 = some r) :
    Calls Try.prog 37 #[.int .i64 a0] w fun e w' => e = .returned (.int .i64 r) ∧ Drawn0 w w' := by
  have H : ((exact_Mod.f a0 7).bind fun bt103 => (some bt103.1)) = some r := h
  clear h
  replace H := Option.bind_eq_some_iff.mp H
  obtain ⟨⟨t103, t104⟩, A20, H⟩ := H
  replace H : (some t103) = some r := H
  have A2 := Aside0.mk A20
  clear A20
  obtain rfl := Option.some.inj H
  go_enter Try.func37, Try.ntmps37
  go_wp2_with (first | ((with_reducible refine gate_callee (f := 34) rfl ?_); refine goesL_ (some 7) rfl rfl Try.func34 (by kernel_rfl) rfl #[.int .i64 a0, .int .i64 7] rfl (by (try simp only [List.map_toArray, List.map_cons, List.map_nil]); first | done | rfl | (simp only [List.length_drop, List.length_take]; rfl)) ?_; (with_reducible refine (exact_Mod.calls a0 7 t103 t104 _ A2.out).mono ?_); rintro e w' ⟨rfl, ⟨nd, rfl⟩⟩; refine ⟨_, rfl, ?_⟩))
  go_ret
  exact ⟨by first | rfl | (simp; done) | (simp [*]; done), by repeat (first | exact Drawn0.refl _ | apply Drawn0.step)⟩

/-! ### week_From: function 14 -/
def week_From.f (a0 : Int) (a1 : Int) : Option (Int) := if a1 < 0 then (some a0) else (if a1 > 6 then (some a0) else ((molad_Weekday.f (wrap64 (a1 - a0))).bind fun t105 => (some (wrap64 (a0 + t105)))))
set_option maxHeartbeats 8000000 in
set_option maxRecDepth 100000 in
theorem week_From.calls (a0 : Int) (a1 : Int) (r : Int) (w : World) (h : week_From.f a0 a1 = some r) :
    Calls Try.prog 14 #[.int .i64 a0, .int .i64 a1] w fun e w' => e = .returned (.int .i64 r) ∧ Drawn0 w w' := by
  have H : (if a1 < 0 then (some a0) else (if a1 > 6 then (some a0) else ((molad_Weekday.f (wrap64 (a1 - a0))).bind fun t105 => (some (wrap64 (a0 + t105)))))) = some r := h
  clear h
  by_cases c3 : a1 < 0
  · rw [if_pos c3] at H
    have c3b0 : decide (a1 < 0) = true := decide_eq_true c3
    clear c3
    obtain rfl := Option.some.inj H
    go_enter Try.func14, Try.ntmps14
    go_wp2
    go_ret
    exact ⟨by first | rfl | (simp; done) | (simp [*]; done), by repeat (first | exact Drawn0.refl _ | apply Drawn0.step)⟩
  · rw [if_neg c3] at H
    have c3b0 : decide (a1 < 0) = false := decide_eq_false c3
    clear c3
    by_cases c4 : a1 > 6
    · rw [if_pos c4] at H
      have c4b0 : decide (6 < a1) = true := decide_eq_true c4
      clear c4
      obtain rfl := Option.some.inj H
      go_enter Try.func14, Try.ntmps14
      go_wp2
      go_ret
      exact ⟨by first | rfl | (simp; done) | (simp [*]; done), by repeat (first | exact Drawn0.refl _ | apply Drawn0.step)⟩
    · rw [if_neg c4] at H
      have c4b0 : decide (6 < a1) = false := decide_eq_false c4
      clear c4
      replace H := Option.bind_eq_some_iff.mp H
      obtain ⟨t105, A50, H⟩ := H
      replace H : (some (wrap64 (a0 + t105))) = some r := H
      have A5 := Aside0.mk A50
      clear A50
      obtain rfl := Option.some.inj H
      go_enter Try.func14, Try.ntmps14
      go_wp2_with (first | ((with_reducible refine gate_callee (f := 37) rfl ?_); refine goesL_ (some 16) rfl rfl Try.func37 (by kernel_rfl) rfl #[.int .i64 (wrap64 (a1 - a0))] rfl (by (try simp only [List.map_toArray, List.map_cons, List.map_nil]); first | done | rfl | (simp only [List.length_drop, List.length_take]; rfl)) ?_; (with_reducible refine (molad_Weekday.calls (wrap64 (a1 - a0)) t105 _ A5.out).mono ?_); rintro e w' ⟨rfl, ⟨nd, rfl⟩⟩; refine ⟨_, rfl, ?_⟩))
      go_ret
      exact ⟨by first | rfl | (simp; done) | (simp [*]; done), by repeat (first | exact Drawn0.refl _ | apply Drawn0.step)⟩

/-! ### week_Upto: function 16 -/
def week_Upto.f (a0 : Int) (a1 : Int) : Option (Int) := if a1 < 0 then (some a0) else (if a1 > 6 then (some a0) else ((molad_Weekday.f (wrap64 (a0 - a1))).bind fun t106 => (some (wrap64 (a0 - t106)))))
set_option maxHeartbeats 8000000 in
set_option maxRecDepth 100000 in
theorem week_Upto.calls (a0 : Int) (a1 : Int) (r : Int) (w : World) (h : week_Upto.f a0 a1 = some r) :
    Calls Try.prog 16 #[.int .i64 a0, .int .i64 a1] w fun e w' => e = .returned (.int .i64 r) ∧ Drawn0 w w' := by
  have H : (if a1 < 0 then (some a0) else (if a1 > 6 then (some a0) else ((molad_Weekday.f (wrap64 (a0 - a1))).bind fun t106 => (some (wrap64 (a0 - t106)))))) = some r := h
  clear h
  by_cases c3 : a1 < 0
  · rw [if_pos c3] at H
    have c3b0 : decide (a1 < 0) = true := decide_eq_true c3
    clear c3
    obtain rfl := Option.some.inj H
    go_enter Try.func16, Try.ntmps16
    go_wp2
    go_ret
    exact ⟨by first | rfl | (simp; done) | (simp [*]; done), by repeat (first | exact Drawn0.refl _ | apply Drawn0.step)⟩
  · rw [if_neg c3] at H
    have c3b0 : decide (a1 < 0) = false := decide_eq_false c3
    clear c3
    by_cases c4 : a1 > 6
    · rw [if_pos c4] at H
      have c4b0 : decide (6 < a1) = true := decide_eq_true c4
      clear c4
      obtain rfl := Option.some.inj H
      go_enter Try.func16, Try.ntmps16
      go_wp2
      go_ret
      exact ⟨by first | rfl | (simp; done) | (simp [*]; done), by repeat (first | exact Drawn0.refl _ | apply Drawn0.step)⟩
    · rw [if_neg c4] at H
      have c4b0 : decide (6 < a1) = false := decide_eq_false c4
      clear c4
      replace H := Option.bind_eq_some_iff.mp H
      obtain ⟨t106, A50, H⟩ := H
      replace H : (some (wrap64 (a0 - t106))) = some r := H
      have A5 := Aside0.mk A50
      clear A50
      obtain rfl := Option.some.inj H
      go_enter Try.func16, Try.ntmps16
      go_wp2_with (first | ((with_reducible refine gate_callee (f := 37) rfl ?_); refine goesL_ (some 16) rfl rfl Try.func37 (by kernel_rfl) rfl #[.int .i64 (wrap64 (a0 - a1))] rfl (by (try simp only [List.map_toArray, List.map_cons, List.map_nil]); first | done | rfl | (simp only [List.length_drop, List.length_take]; rfl)) ?_; (with_reducible refine (molad_Weekday.calls (wrap64 (a0 - a1)) t106 _ A5.out).mono ?_); rintro e w' ⟨rfl, ⟨nd, rfl⟩⟩; refine ⟨_, rfl, ?_⟩))
      go_ret
      exact ⟨by first | rfl | (simp; done) | (simp [*]; done), by repeat (first | exact Drawn0.refl _ | apply Drawn0.step)⟩

/-! ### week_Count: function 18 -/
def week_Count.j0 : Nat → Int → Int → Int → Bool → Option (Int)
  | 0, _, _, _, _ => none
  | k + 1, x0, x1, x2, x18 => if x18 = true then (some 0) else ((week_From.f x0 x2).bind fun t107 => (if t107 ≤ x1 then (some (wrap64 ((wrap64 (Int.tdiv (wrap64 (x1 - t107)) 7)) + 1))) else (some 0)))
def week_Count.f (k : Nat) (a0 : Int) (a1 : Int) (a2 : Int) : Option (Int) := if a2 < 0 then (week_Count.j0 k a0 a1 a2 true) else (if a2 > 6 then (week_Count.j0 k a0 a1 a2 true) else (week_Count.j0 k a0 a1 a2 (decide (a1 < a0))))
theorem week_Count.mono_l : ∀ k, (∀ y0 y1 y2 y3, LeO (week_Count.j0 k y0 y1 y2 y3) (week_Count.j0 (k + 1) y0 y1 y2 y3))
  | 0 => fun _ _ _ _ r h => by simp [week_Count.j0] at h
  | k + 1 => by
    have ih0 := week_Count.mono_l k
    · intro y0 y1 y2 y3
      unfold week_Count.j0
      repeat' first
      | (with_reducible exact ih0 _ _ _ _)
      | (with_reducible exact LeO.refl _)
      | (with_reducible exact LeO.none _)
      | (with_reducible refine LeO.ite ?_ ?_)
      | (with_reducible refine LeO.bind ?_ (fun _ => ?_))
      | exact ih0 _ _ _ _
      | exact LeO.none _
      | refine LeO.ite ?_ ?_
      | refine LeO.bind ?_ (fun _ => ?_)
theorem week_Count.mono : ∀ a0 a1 a2 k, LeO (week_Count.f k a0 a1 a2) (week_Count.f (k + 1) a0 a1 a2) := by
  intro a0 a1 a2 k
  have ih0 := week_Count.mono_l k
  unfold week_Count.f
  repeat' first
      | (with_reducible exact ih0 _ _ _ _)
      | (with_reducible exact LeO.refl _)
      | (with_reducible exact LeO.none _)
      | (with_reducible refine LeO.ite ?_ ?_)
      | (with_reducible refine LeO.bind ?_ (fun _ => ?_))
      | exact ih0 _ _ _ _
      | exact LeO.none _
      | refine LeO.ite ?_ ?_
      | refine LeO.bind ?_ (fun _ => ?_)
set_option maxHeartbeats 8000000 in
set_option maxRecDepth 100000 in
theorem week_Count.calls (k : Nat) (a0 : Int) (a1 : Int) (a2 : Int) (r : Int) (w : World) (h : week_Count.f k a0 a1 a2 = some r) :
    Calls Try.prog 18 #[.int .i64 a0, .int .i64 a1, .int .i64 a2] w fun e w' => e = .returned (.int .i64 r) ∧ Drawn0 w w' := by
  have H : (if a2 < 0 then (week_Count.j0 k a0 a1 a2 true) else (if a2 > 6 then (week_Count.j0 k a0 a1 a2 true) else (week_Count.j0 k a0 a1 a2 (decide (a1 < a0))))) = some r := h
  clear h
  have HC4 := Aside0.mk H
  clear H
  go_enter Try.func18, Try.ntmps18
  go_upto_region 1 with (fail)
  go_cut [18] (fun v18 wc => ∃ (kq : Nat) (x18_3 : Bool), v18 = .bool x18_3 ∧ Aside0 (week_Count.j0 kq a0 a1 a2 x18_3 = some r) ∧ Aside0 (kq ≤ k) ∧ Drawn0 w wc)
  case first =>
    have H := HC4.out
    clear HC4
    by_cases c5 : a2 < 0
    · rw [if_pos c5] at H
      have c5b0 : decide (a2 < 0) = true := decide_eq_true c5
      clear c5
      (first | rw [c5b0] | (simp only [i64_w, i32_w]; rw [c5b0]) | skip)
      have H' := Aside0.mk H
      clear H
      go_wp2
      go_meet
      case rel => exact ⟨_, (true), (by first | rfl | (simp; done) | (simp [*]; done)), H', ⟨by first | omega | exact Nat.le_refl _⟩, by repeat (first | exact Drawn0.refl _ | apply Drawn0.step)⟩
    · rw [if_neg c5] at H
      have c5b0 : decide (a2 < 0) = false := decide_eq_false c5
      clear c5
      (first | rw [c5b0] | (simp only [i64_w, i32_w]; rw [c5b0]) | skip)
      by_cases c6 : a2 > 6
      · rw [if_pos c6] at H
        have c6b0 : decide (6 < a2) = true := decide_eq_true c6
        clear c6
        have H' := Aside0.mk H
        clear H
        go_wp2
        go_meet
        case rel => exact ⟨_, (true), (by first | rfl | (simp; done) | (simp [*]; done)), H', ⟨by first | omega | exact Nat.le_refl _⟩, by repeat (first | exact Drawn0.refl _ | apply Drawn0.step)⟩
      · rw [if_neg c6] at H
        have c6b0 : decide (6 < a2) = false := decide_eq_false c6
        clear c6
        have H' := Aside0.mk H
        clear H
        go_wp2
        go_meet
        case rel => exact ⟨_, (decide (a1 < a0)), (by first | rfl | (simp; done) | (simp [*]; done)), H', ⟨by first | omega | exact Nat.le_refl _⟩, by repeat (first | exact Drawn0.refl _ | apply Drawn0.step)⟩
  case rest =>
    clear HC4
    try clear c1
    try clear p2
    try clear c5
    try clear c5b0
    try clear c6
    try clear c6b0
    obtain ⟨kq, x18_3, rfl, HA, HJ3, ⟨mc3, rfl⟩⟩ := hcut
    cases kq with
    | zero => exact absurd HA.out (by simp [week_Count.j0])
    | succ kj3 =>
      have H := HA.out
      clear HA
      simp only [week_Count.j0] at H
      by_cases c7 : x18_3 = true
      · subst c7
        have H1 : (some 0) = some r := by rw [if_pos rfl] at H; exact H
        clear H
        have H := H1
        clear H1
        obtain rfl := Option.some.inj H
        go_wp2
        go_ret
        exact ⟨by first | rfl | (simp; done) | (simp [*]; done), by repeat (first | exact Drawn0.refl _ | apply Drawn0.step)⟩
      · replace c7 := Bool.eq_false_iff.mpr c7
        subst c7
        have H1 : ((week_From.f a0 a2).bind fun t107 => (if t107 ≤ a1 then (some (wrap64 ((wrap64 (Int.tdiv (wrap64 (a1 - t107)) 7)) + 1))) else (some 0))) = some r := by rw [if_neg (show ¬ (false = true) by decide)] at H; exact H
        clear H
        have H := H1
        clear H1
        replace H := Option.bind_eq_some_iff.mp H
        obtain ⟨t107, A80, H⟩ := H
        replace H : (if t107 ≤ a1 then (some (wrap64 ((wrap64 (Int.tdiv (wrap64 (a1 - t107)) 7)) + 1))) else (some 0)) = some r := H
        have A8 := Aside0.mk A80
        clear A80
        by_cases c9 : t107 ≤ a1
        · rw [if_pos c9] at H
          have c9b0 : decide (t107 ≤ a1) = true := decide_eq_true c9
          clear c9
          obtain rfl := Option.some.inj H
          go_wp2_with (first | ((with_reducible refine gate_callee (f := 14) rfl ?_); refine goesL_ (some 21) rfl rfl Try.func14 (by kernel_rfl) rfl #[.int .i64 a0, .int .i64 a2] rfl (by (try simp only [List.map_toArray, List.map_cons, List.map_nil]); first | done | rfl | (simp only [List.length_drop, List.length_take]; rfl)) ?_; (with_reducible refine (week_From.calls a0 a2 t107 _ A8.out).mono ?_); rintro e w' ⟨rfl, ⟨nd, rfl⟩⟩; refine ⟨_, rfl, ?_⟩))
          go_ret
          exact ⟨by first | rfl | (simp; done) | (simp [*]; done), by repeat (first | exact Drawn0.refl _ | apply Drawn0.step)⟩
        · rw [if_neg c9] at H
          have c9b0 : decide (t107 ≤ a1) = false := decide_eq_false c9
          clear c9
          obtain rfl := Option.some.inj H
          go_wp2_with (first | ((with_reducible refine gate_callee (f := 14) rfl ?_); refine goesL_ (some 21) rfl rfl Try.func14 (by kernel_rfl) rfl #[.int .i64 a0, .int .i64 a2] rfl (by (try simp only [List.map_toArray, List.map_cons, List.map_nil]); first | done | rfl | (simp only [List.length_drop, List.length_take]; rfl)) ?_; (with_reducible refine (week_From.calls a0 a2 t107 _ A8.out).mono ?_); rintro e w' ⟨rfl, ⟨nd, rfl⟩⟩; refine ⟨_, rfl, ?_⟩))
          go_ret
          exact ⟨by first | rfl | (simp; done) | (simp [*]; done), by repeat (first | exact Drawn0.refl _ | apply Drawn0.step)⟩

/-! ### almanackerlaw12_awake: function 13 -/
def almanackerlaw12_awake.f (k : Nat)  : Option (Bool) := (week_From.f 739162 6).bind fun t108 => (if t108 = 739164 then ((week_Upto.f 739162 6).bind fun t109 => (if t109 = 739157 then ((week_Count.f k 739162 739171 6).bind fun t110 => (some (t110 == 2))) else (some false))) else (some false))
theorem almanackerlaw12_awake.mono : ∀ k, LeO (almanackerlaw12_awake.f k ) (almanackerlaw12_awake.f (k + 1) ) := by
  intro  k
  unfold almanackerlaw12_awake.f
  repeat' first
      | (with_reducible exact week_Count.mono _ _ _ _)
      | (with_reducible exact LeO.refl _)
      | (with_reducible exact LeO.none _)
      | (with_reducible refine LeO.ite ?_ ?_)
      | (with_reducible refine LeO.bind ?_ (fun _ => ?_))
      | exact week_Count.mono _ _ _ _
      | exact LeO.none _
      | refine LeO.ite ?_ ?_
      | refine LeO.bind ?_ (fun _ => ?_)
set_option maxHeartbeats 8000000 in
set_option maxRecDepth 100000 in
theorem almanackerlaw12_awake.calls (k : Nat)  (r : Bool) (w : World) (h : almanackerlaw12_awake.f k  = some r) :
    Calls Try.prog 13 #[] w fun e w' => e = .returned (.bool r) ∧ Drawn0 w w' := by
  have H : ((week_From.f 739162 6).bind fun t108 => (if t108 = 739164 then ((week_Upto.f 739162 6).bind fun t109 => (if t109 = 739157 then ((week_Count.f k 739162 739171 6).bind fun t110 => (some (t110 == 2))) else (some false))) else (some false))) = some r := h
  clear h
  replace H := Option.bind_eq_some_iff.mp H
  obtain ⟨t108, A10, H⟩ := H
  replace H : (if t108 = 739164 then ((week_Upto.f 739162 6).bind fun t109 => (if t109 = 739157 then ((week_Count.f k 739162 739171 6).bind fun t110 => (some (t110 == 2))) else (some false))) else (some false)) = some r := H
  have A1 := Aside0.mk A10
  clear A10
  by_cases c2 : t108 = 739164
  · rw [if_pos c2] at H
    have c2b0 : (t108 == 739164) = true := beq_iff_eq.mpr c2
    have c2b1 : (t108 != 739164) = false := bne_eq_false_iff_eq.mpr c2
    clear c2
    replace H := Option.bind_eq_some_iff.mp H
    obtain ⟨t109, A30, H⟩ := H
    replace H : (if t109 = 739157 then ((week_Count.f k 739162 739171 6).bind fun t110 => (some (t110 == 2))) else (some false)) = some r := H
    have A3 := Aside0.mk A30
    clear A30
    by_cases c4 : t109 = 739157
    · rw [if_pos c4] at H
      have c4b0 : (t109 == 739157) = true := beq_iff_eq.mpr c4
      have c4b1 : (t109 != 739157) = false := bne_eq_false_iff_eq.mpr c4
      clear c4
      replace H := Option.bind_eq_some_iff.mp H
      obtain ⟨t110, A50, H⟩ := H
      replace H : (some (t110 == 2)) = some r := H
      have A5 := Aside0.mk A50
      clear A50
      obtain rfl := Option.some.inj H
      go_enter Try.func13, Try.ntmps13
      go_wp2_with (first | ((with_reducible refine gate_callee (f := 14) rfl ?_); refine goesL_ (some 1) rfl rfl Try.func14 (by kernel_rfl) rfl #[.int .i64 739162, .int .i64 6] rfl (by (try simp only [List.map_toArray, List.map_cons, List.map_nil]); first | done | rfl | (simp only [List.length_drop, List.length_take]; rfl)) ?_; (with_reducible refine (week_From.calls 739162 6 t108 _ A1.out).mono ?_); rintro e w' ⟨rfl, ⟨nd, rfl⟩⟩; refine ⟨_, rfl, ?_⟩) | (go_at_call 16; (with_reducible refine (week_Upto.calls 739162 6 t109 _ A3.out).mono ?_); rintro e w' ⟨rfl, ⟨nd, rfl⟩⟩) | (go_at_call 18; (with_reducible refine (week_Count.calls k 739162 739171 6 t110 _ A5.out).mono ?_); rintro e w' ⟨rfl, ⟨nd, rfl⟩⟩))
      go_ret
      exact ⟨by first | rfl | (simp; done) | (simp [*]; done), by repeat (first | exact Drawn0.refl _ | apply Drawn0.step)⟩
    · rw [if_neg c4] at H
      have c4b0 : (t109 == 739157) = false := beq_eq_false_iff_ne.mpr c4
      have c4b1 : (t109 != 739157) = true := bne_iff_ne.mpr c4
      obtain rfl := Option.some.inj H
      go_enter Try.func13, Try.ntmps13
      go_wp2_with (first | ((with_reducible refine gate_callee (f := 14) rfl ?_); refine goesL_ (some 1) rfl rfl Try.func14 (by kernel_rfl) rfl #[.int .i64 739162, .int .i64 6] rfl (by (try simp only [List.map_toArray, List.map_cons, List.map_nil]); first | done | rfl | (simp only [List.length_drop, List.length_take]; rfl)) ?_; (with_reducible refine (week_From.calls 739162 6 t108 _ A1.out).mono ?_); rintro e w' ⟨rfl, ⟨nd, rfl⟩⟩; refine ⟨_, rfl, ?_⟩) | (go_at_call 16; (with_reducible refine (week_Upto.calls 739162 6 t109 _ A3.out).mono ?_); rintro e w' ⟨rfl, ⟨nd, rfl⟩⟩))
      go_ret
      exact ⟨by first | rfl | (simp; done) | (simp [*]; done), by repeat (first | exact Drawn0.refl _ | apply Drawn0.step)⟩
  · rw [if_neg c2] at H
    have c2b0 : (t108 == 739164) = false := beq_eq_false_iff_ne.mpr c2
    have c2b1 : (t108 != 739164) = true := bne_iff_ne.mpr c2
    obtain rfl := Option.some.inj H
    go_enter Try.func13, Try.ntmps13
    go_wp2_with (first | ((with_reducible refine gate_callee (f := 14) rfl ?_); refine goesL_ (some 1) rfl rfl Try.func14 (by kernel_rfl) rfl #[.int .i64 739162, .int .i64 6] rfl (by (try simp only [List.map_toArray, List.map_cons, List.map_nil]); first | done | rfl | (simp only [List.length_drop, List.length_take]; rfl)) ?_; (with_reducible refine (week_From.calls 739162 6 t108 _ A1.out).mono ?_); rintro e w' ⟨rfl, ⟨nd, rfl⟩⟩; refine ⟨_, rfl, ?_⟩))
    go_ret
    exact ⟨by first | rfl | (simp; done) | (simp [*]; done), by repeat (first | exact Drawn0.refl _ | apply Drawn0.step)⟩

/-! ### almanackerref01_Left: function 39 -/
def almanackerref01_Left.f (a0 : Int) (a1 : Int) : Option (Int) := if a1 = 0 then (none) else (if (Int.tmod a0 a1) < 0 then (some (wrap64 ((Int.tmod a0 a1) + a1))) else (some (Int.tmod a0 a1)))
set_option maxHeartbeats 8000000 in
set_option maxRecDepth 100000 in
theorem almanackerref01_Left.calls (a0 : Int) (a1 : Int) (r : Int) (w : World) (h : almanackerref01_Left.f a0 a1 = some r) :
    Calls Try.prog 39 #[.int .i64 a0, .int .i64 a1] w fun e w' => e = .returned (.int .i64 r) ∧ Drawn0 w w' := by
  have H : (if a1 = 0 then (none) else (if (Int.tmod a0 a1) < 0 then (some (wrap64 ((Int.tmod a0 a1) + a1))) else (some (Int.tmod a0 a1)))) = some r := h
  clear h
  by_cases c3 : a1 = 0
  · rw [if_pos c3] at H
    exact absurd H (by simp)
  · rw [if_neg c3] at H
    have c3b0 : (a1 == 0) = false := beq_eq_false_iff_ne.mpr c3
    have c3b1 : (a1 != 0) = true := bne_iff_ne.mpr c3
    by_cases c4 : (Int.tmod a0 a1) < 0
    · rw [if_pos c4] at H
      have c4b0 : decide ((Int.tmod a0 a1) < 0) = true := decide_eq_true c4
      clear c4
      obtain rfl := Option.some.inj H
      go_enter Try.func39, Try.ntmps39
      go_wp2
      go_ret
      exact ⟨by first | rfl | (simp; done) | (simp [*]; done), by repeat (first | exact Drawn0.refl _ | apply Drawn0.step)⟩
    · rw [if_neg c4] at H
      have c4b0 : decide ((Int.tmod a0 a1) < 0) = false := decide_eq_false c4
      clear c4
      obtain rfl := Option.some.inj H
      go_enter Try.func39, Try.ntmps39
      go_wp2
      go_ret
      exact ⟨by first | rfl | (simp; done) | (simp [*]; done), by repeat (first | exact Drawn0.refl _ | apply Drawn0.step)⟩

/-! ### almanackerref04_Weekday: function 20 -/
def almanackerref04_Weekday.f (a0 : Int) : Option (Int) := (almanackerref01_Left.f a0 7).bind fun t111 => (some t111)
set_option maxHeartbeats 8000000 in
set_option maxRecDepth 100000 in
theorem almanackerref04_Weekday.calls (a0 : Int) (r : Int) (w : World) (h : almanackerref04_Weekday.f a0 = some r) :
    Calls Try.prog 20 #[.int .i64 a0] w fun e w' => e = .returned (.int .i64 r) ∧ Drawn0 w w' := by
  have H : ((almanackerref01_Left.f a0 7).bind fun t111 => (some t111)) = some r := h
  clear h
  replace H := Option.bind_eq_some_iff.mp H
  obtain ⟨t111, A20, H⟩ := H
  replace H : (some t111) = some r := H
  have A2 := Aside0.mk A20
  clear A20
  obtain rfl := Option.some.inj H
  go_enter Try.func20, Try.ntmps20
  go_wp2_with (first | ((with_reducible refine gate_callee (f := 39) rfl ?_); refine goesL_ (some 4) rfl rfl Try.func39 (by kernel_rfl) rfl #[.int .i64 a0, .int .i64 7] rfl (by (try simp only [List.map_toArray, List.map_cons, List.map_nil]); first | done | rfl | (simp only [List.length_drop, List.length_take]; rfl)) ?_; (with_reducible refine (almanackerref01_Left.calls a0 7 t111 _ A2.out).mono ?_); rintro e w' ⟨rfl, ⟨nd, rfl⟩⟩; refine ⟨_, rfl, ?_⟩))
  go_ret
  exact ⟨by first | rfl | (simp; done) | (simp [*]; done), by repeat (first | exact Drawn0.refl _ | apply Drawn0.step)⟩

/-! ### almanackerlaw12_WeekNear: function 4 -/
def almanackerlaw12_WeekNear.f (k : Nat) (a0 : Int) (a1 : Int) (a2 : Int) : Option (Bool) := (week_From.f (wrap64 (a0)) (wrap64 (Int.tmod a1 7))).bind fun t112 => ((week_Upto.f (wrap64 (a0)) (wrap64 (Int.tmod a1 7))).bind fun t113 => ((almanackerlaw12_awake.f k).bind fun t114 => (if t114 = true then ((almanackerref04_Weekday.f t112).bind fun t115 => (if t115 = (wrap64 (Int.tmod a1 7)) then ((almanackerref04_Weekday.f t113).bind fun t116 => (if t116 = (wrap64 (Int.tmod a1 7)) then (if t112 ≥ (wrap64 (a0)) then (if t112 < (wrap64 ((wrap64 (a0)) + 7)) then (if t113 ≤ (wrap64 (a0)) then (if t113 > (wrap64 ((wrap64 (a0)) - 7)) then ((almanackerref04_Weekday.f (wrap64 (a0))).bind fun t117 => (if ((t112 == t113) == (t117 == (wrap64 (Int.tmod a1 7)))) = true then ((week_Count.f k (wrap64 (a0)) (wrap64 ((wrap64 ((wrap64 (a0)) + (wrap64 (7 * (wrap64 (a2)))))) - 1)) (wrap64 (Int.tmod a1 7))).bind fun t118 => (some (t118 == (wrap64 (a2))))) else (some false))) else (some false)) else (some false)) else (some false)) else (some false)) else (some false))) else (some false))) else (some false))))
theorem almanackerlaw12_WeekNear.mono : ∀ a0 a1 a2 k, LeO (almanackerlaw12_WeekNear.f k a0 a1 a2) (almanackerlaw12_WeekNear.f (k + 1) a0 a1 a2) := by
  intro a0 a1 a2 k
  unfold almanackerlaw12_WeekNear.f
  repeat' first
      | (with_reducible exact almanackerlaw12_awake.mono _)
      | (with_reducible exact week_Count.mono _ _ _ _)
      | (with_reducible exact LeO.refl _)
      | (with_reducible exact LeO.none _)
      | (with_reducible refine LeO.ite ?_ ?_)
      | (with_reducible refine LeO.bind ?_ (fun _ => ?_))
      | exact almanackerlaw12_awake.mono _
      | exact week_Count.mono _ _ _ _
      | exact LeO.none _
      | refine LeO.ite ?_ ?_
      | refine LeO.bind ?_ (fun _ => ?_)
set_option maxHeartbeats 8000000 in
set_option maxRecDepth 100000 in
theorem almanackerlaw12_WeekNear.calls (k : Nat) (a0 : Int) (a1 : Int) (a2 : Int) (r : Bool) (w : World) (h : almanackerlaw12_WeekNear.f k a0 a1 a2 = some r) :
    Calls Try.prog 4 #[.int .i32 a0, .int .u8 a1, .int .u8 a2] w fun e w' => e = .returned (.bool r) ∧ Drawn0 w w' := by
  have H : ((week_From.f (wrap64 (a0)) (wrap64 (Int.tmod a1 7))).bind fun t112 => ((week_Upto.f (wrap64 (a0)) (wrap64 (Int.tmod a1 7))).bind fun t113 => ((almanackerlaw12_awake.f k).bind fun t114 => (if t114 = true then ((almanackerref04_Weekday.f t112).bind fun t115 => (if t115 = (wrap64 (Int.tmod a1 7)) then ((almanackerref04_Weekday.f t113).bind fun t116 => (if t116 = (wrap64 (Int.tmod a1 7)) then (if t112 ≥ (wrap64 (a0)) then (if t112 < (wrap64 ((wrap64 (a0)) + 7)) then (if t113 ≤ (wrap64 (a0)) then (if t113 > (wrap64 ((wrap64 (a0)) - 7)) then ((almanackerref04_Weekday.f (wrap64 (a0))).bind fun t117 => (if ((t112 == t113) == (t117 == (wrap64 (Int.tmod a1 7)))) = true then ((week_Count.f k (wrap64 (a0)) (wrap64 ((wrap64 ((wrap64 (a0)) + (wrap64 (7 * (wrap64 (a2)))))) - 1)) (wrap64 (Int.tmod a1 7))).bind fun t118 => (some (t118 == (wrap64 (a2))))) else (some false))) else (some false)) else (some false)) else (some false)) else (some false)) else (some false))) else (some false))) else (some false))))) = some r := h
  clear h
  replace H := Option.bind_eq_some_iff.mp H
  obtain ⟨t112, A40, H⟩ := H
  replace H : ((week_Upto.f (wrap64 (a0)) (wrap64 (Int.tmod a1 7))).bind fun t113 => ((almanackerlaw12_awake.f k).bind fun t114 => (if t114 = true then ((almanackerref04_Weekday.f t112).bind fun t115 => (if t115 = (wrap64 (Int.tmod a1 7)) then ((almanackerref04_Weekday.f t113).bind fun t116 => (if t116 = (wrap64 (Int.tmod a1 7)) then (if t112 ≥ (wrap64 (a0)) then (if t112 < (wrap64 ((wrap64 (a0)) + 7)) then (if t113 ≤ (wrap64 (a0)) then (if t113 > (wrap64 ((wrap64 (a0)) - 7)) then ((almanackerref04_Weekday.f (wrap64 (a0))).bind fun t117 => (if ((t112 == t113) == (t117 == (wrap64 (Int.tmod a1 7)))) = true then ((week_Count.f k (wrap64 (a0)) (wrap64 ((wrap64 ((wrap64 (a0)) + (wrap64 (7 * (wrap64 (a2)))))) - 1)) (wrap64 (Int.tmod a1 7))).bind fun t118 => (some (t118 == (wrap64 (a2))))) else (some false))) else (some false)) else (some false)) else (some false)) else (some false)) else (some false))) else (some false))) else (some false)))) = some r := H
  have A4 := Aside0.mk A40
  clear A40
  replace H := Option.bind_eq_some_iff.mp H
  obtain ⟨t113, A50, H⟩ := H
  replace H : ((almanackerlaw12_awake.f k).bind fun t114 => (if t114 = true then ((almanackerref04_Weekday.f t112).bind fun t115 => (if t115 = (wrap64 (Int.tmod a1 7)) then ((almanackerref04_Weekday.f t113).bind fun t116 => (if t116 = (wrap64 (Int.tmod a1 7)) then (if t112 ≥ (wrap64 (a0)) then (if t112 < (wrap64 ((wrap64 (a0)) + 7)) then (if t113 ≤ (wrap64 (a0)) then (if t113 > (wrap64 ((wrap64 (a0)) - 7)) then ((almanackerref04_Weekday.f (wrap64 (a0))).bind fun t117 => (if ((t112 == t113) == (t117 == (wrap64 (Int.tmod a1 7)))) = true then ((week_Count.f k (wrap64 (a0)) (wrap64 ((wrap64 ((wrap64 (a0)) + (wrap64 (7 * (wrap64 (a2)))))) - 1)) (wrap64 (Int.tmod a1 7))).bind fun t118 => (some (t118 == (wrap64 (a2))))) else (some false))) else (some false)) else (some false)) else (some false)) else (some false)) else (some false))) else (some false))) else (some false))) = some r := H
  have A5 := Aside0.mk A50
  clear A50
  replace H := Option.bind_eq_some_iff.mp H
  obtain ⟨t114, A60, H⟩ := H
  replace H : (if t114 = true then ((almanackerref04_Weekday.f t112).bind fun t115 => (if t115 = (wrap64 (Int.tmod a1 7)) then ((almanackerref04_Weekday.f t113).bind fun t116 => (if t116 = (wrap64 (Int.tmod a1 7)) then (if t112 ≥ (wrap64 (a0)) then (if t112 < (wrap64 ((wrap64 (a0)) + 7)) then (if t113 ≤ (wrap64 (a0)) then (if t113 > (wrap64 ((wrap64 (a0)) - 7)) then ((almanackerref04_Weekday.f (wrap64 (a0))).bind fun t117 => (if ((t112 == t113) == (t117 == (wrap64 (Int.tmod a1 7)))) = true then ((week_Count.f k (wrap64 (a0)) (wrap64 ((wrap64 ((wrap64 (a0)) + (wrap64 (7 * (wrap64 (a2)))))) - 1)) (wrap64 (Int.tmod a1 7))).bind fun t118 => (some (t118 == (wrap64 (a2))))) else (some false))) else (some false)) else (some false)) else (some false)) else (some false)) else (some false))) else (some false))) else (some false)) = some r := H
  have A6 := Aside0.mk A60
  clear A60
  by_cases c7 : t114 = true
  · subst c7
    have H1 : ((almanackerref04_Weekday.f t112).bind fun t115 => (if t115 = (wrap64 (Int.tmod a1 7)) then ((almanackerref04_Weekday.f t113).bind fun t116 => (if t116 = (wrap64 (Int.tmod a1 7)) then (if t112 ≥ (wrap64 (a0)) then (if t112 < (wrap64 ((wrap64 (a0)) + 7)) then (if t113 ≤ (wrap64 (a0)) then (if t113 > (wrap64 ((wrap64 (a0)) - 7)) then ((almanackerref04_Weekday.f (wrap64 (a0))).bind fun t117 => (if ((t112 == t113) == (t117 == (wrap64 (Int.tmod a1 7)))) = true then ((week_Count.f k (wrap64 (a0)) (wrap64 ((wrap64 ((wrap64 (a0)) + (wrap64 (7 * (wrap64 (a2)))))) - 1)) (wrap64 (Int.tmod a1 7))).bind fun t118 => (some (t118 == (wrap64 (a2))))) else (some false))) else (some false)) else (some false)) else (some false)) else (some false)) else (some false))) else (some false))) = some r := by rw [if_pos rfl] at H; exact H
    clear H
    have H := H1
    clear H1
    replace H := Option.bind_eq_some_iff.mp H
    obtain ⟨t115, A80, H⟩ := H
    replace H : (if t115 = (wrap64 (Int.tmod a1 7)) then ((almanackerref04_Weekday.f t113).bind fun t116 => (if t116 = (wrap64 (Int.tmod a1 7)) then (if t112 ≥ (wrap64 (a0)) then (if t112 < (wrap64 ((wrap64 (a0)) + 7)) then (if t113 ≤ (wrap64 (a0)) then (if t113 > (wrap64 ((wrap64 (a0)) - 7)) then ((almanackerref04_Weekday.f (wrap64 (a0))).bind fun t117 => (if ((t112 == t113) == (t117 == (wrap64 (Int.tmod a1 7)))) = true then ((week_Count.f k (wrap64 (a0)) (wrap64 ((wrap64 ((wrap64 (a0)) + (wrap64 (7 * (wrap64 (a2)))))) - 1)) (wrap64 (Int.tmod a1 7))).bind fun t118 => (some (t118 == (wrap64 (a2))))) else (some false))) else (some false)) else (some false)) else (some false)) else (some false)) else (some false))) else (some false)) = some r := H
    have A8 := Aside0.mk A80
    clear A80
    by_cases c9 : t115 = (wrap64 (Int.tmod a1 7))
    · rw [if_pos c9] at H
      have c9b0 : (t115 == (wrap64 (Int.tmod a1 7))) = true := beq_iff_eq.mpr c9
      have c9b1 : (t115 != (wrap64 (Int.tmod a1 7))) = false := bne_eq_false_iff_eq.mpr c9
      clear c9
      replace H := Option.bind_eq_some_iff.mp H
      obtain ⟨t116, A100, H⟩ := H
      replace H : (if t116 = (wrap64 (Int.tmod a1 7)) then (if t112 ≥ (wrap64 (a0)) then (if t112 < (wrap64 ((wrap64 (a0)) + 7)) then (if t113 ≤ (wrap64 (a0)) then (if t113 > (wrap64 ((wrap64 (a0)) - 7)) then ((almanackerref04_Weekday.f (wrap64 (a0))).bind fun t117 => (if ((t112 == t113) == (t117 == (wrap64 (Int.tmod a1 7)))) = true then ((week_Count.f k (wrap64 (a0)) (wrap64 ((wrap64 ((wrap64 (a0)) + (wrap64 (7 * (wrap64 (a2)))))) - 1)) (wrap64 (Int.tmod a1 7))).bind fun t118 => (some (t118 == (wrap64 (a2))))) else (some false))) else (some false)) else (some false)) else (some false)) else (some false)) else (some false)) = some r := H
      have A10 := Aside0.mk A100
      clear A100
      by_cases c11 : t116 = (wrap64 (Int.tmod a1 7))
      · rw [if_pos c11] at H
        have c11b0 : (t116 == (wrap64 (Int.tmod a1 7))) = true := beq_iff_eq.mpr c11
        have c11b1 : (t116 != (wrap64 (Int.tmod a1 7))) = false := bne_eq_false_iff_eq.mpr c11
        clear c11
        by_cases c12 : t112 ≥ (wrap64 (a0))
        · rw [if_pos c12] at H
          have c12b0 : decide ((wrap64 (a0)) ≤ t112) = true := decide_eq_true c12
          clear c12
          by_cases c13 : t112 < (wrap64 ((wrap64 (a0)) + 7))
          · rw [if_pos c13] at H
            have c13b0 : decide (t112 < (wrap64 ((wrap64 (a0)) + 7))) = true := decide_eq_true c13
            clear c13
            by_cases c14 : t113 ≤ (wrap64 (a0))
            · rw [if_pos c14] at H
              have c14b0 : decide (t113 ≤ (wrap64 (a0))) = true := decide_eq_true c14
              clear c14
              by_cases c15 : t113 > (wrap64 ((wrap64 (a0)) - 7))
              · rw [if_pos c15] at H
                have c15b0 : decide ((wrap64 ((wrap64 (a0)) - 7)) < t113) = true := decide_eq_true c15
                clear c15
                replace H := Option.bind_eq_some_iff.mp H
                obtain ⟨t117, A160, H⟩ := H
                replace H : (if ((t112 == t113) == (t117 == (wrap64 (Int.tmod a1 7)))) = true then ((week_Count.f k (wrap64 (a0)) (wrap64 ((wrap64 ((wrap64 (a0)) + (wrap64 (7 * (wrap64 (a2)))))) - 1)) (wrap64 (Int.tmod a1 7))).bind fun t118 => (some (t118 == (wrap64 (a2))))) else (some false)) = some r := H
                have A16 := Aside0.mk A160
                clear A160
                by_cases c17 : ((t112 == t113) == (t117 == (wrap64 (Int.tmod a1 7)))) = true
                · rw [if_pos c17] at H
                  have c17b0 : ((t112 == t113) == (t117 == (wrap64 (Int.tmod a1 7)))) = true := c17
                  (try (have c17b1 : decide ((t112 == t113) = (t117 == (wrap64 (Int.tmod a1 7)))) = true := by simpa using c17))
                  (try (have c17b2 : ((t112 == t113) == (t117 == (wrap64 (Int.tmod a1 7)))) = true := by simpa using c17))
                  clear c17
                  replace H := Option.bind_eq_some_iff.mp H
                  obtain ⟨t118, A180, H⟩ := H
                  replace H : (some (t118 == (wrap64 (a2)))) = some r := H
                  have A18 := Aside0.mk A180
                  clear A180
                  obtain rfl := Option.some.inj H
                  go_enter Try.func4, Try.ntmps4
                  go_wp2_with (first | ((with_reducible refine gate_callee (f := 14) rfl ?_); refine goesL_ (some 21) rfl rfl Try.func14 (by kernel_rfl) rfl #[.int .i64 (wrap64 (a0)), .int .i64 (wrap64 (Int.tmod a1 7))] rfl (by (try simp only [List.map_toArray, List.map_cons, List.map_nil]); first | done | rfl | (simp only [List.length_drop, List.length_take]; rfl)) ?_; (with_reducible refine (week_From.calls (wrap64 (a0)) (wrap64 (Int.tmod a1 7)) t112 _ A4.out).mono ?_); rintro e w' ⟨rfl, ⟨nd, rfl⟩⟩; refine ⟨_, rfl, ?_⟩) | ((with_reducible refine gate_callee (f := 16) rfl ?_); refine goesL_ (some 24) rfl rfl Try.func16 (by kernel_rfl) rfl #[.int .i64 (wrap64 (a0)), .int .i64 (wrap64 (Int.tmod a1 7))] rfl (by (try simp only [List.map_toArray, List.map_cons, List.map_nil]); first | done | rfl | (simp only [List.length_drop, List.length_take]; rfl)) ?_; (with_reducible refine (week_Upto.calls (wrap64 (a0)) (wrap64 (Int.tmod a1 7)) t113 _ A5.out).mono ?_); rintro e w' ⟨rfl, ⟨nd, rfl⟩⟩; refine ⟨_, rfl, ?_⟩) | ((with_reducible refine gate_callee (f := 13) rfl ?_); refine goesL_ (some 25) rfl rfl Try.func13 (by kernel_rfl) rfl #[] rfl (by (try simp only [List.map_toArray, List.map_cons, List.map_nil]); first | done | rfl | (simp only [List.length_drop, List.length_take]; rfl)) ?_; (with_reducible refine (almanackerlaw12_awake.calls k  true _ A6.out).mono ?_); rintro e w' ⟨rfl, ⟨nd, rfl⟩⟩; refine ⟨_, rfl, ?_⟩) | (go_at_call 20; (with_reducible refine (almanackerref04_Weekday.calls t112 t115 _ A8.out).mono ?_); rintro e w' ⟨rfl, ⟨nd, rfl⟩⟩) | (go_at_call 20; (with_reducible refine (almanackerref04_Weekday.calls t113 t116 _ A10.out).mono ?_); rintro e w' ⟨rfl, ⟨nd, rfl⟩⟩) | (go_at_call 20; (with_reducible refine (almanackerref04_Weekday.calls (wrap64 (a0)) t117 _ A16.out).mono ?_); rintro e w' ⟨rfl, ⟨nd, rfl⟩⟩) | (go_at_call 18; (with_reducible refine (week_Count.calls k (wrap64 (a0)) (wrap64 ((wrap64 ((wrap64 (a0)) + (wrap64 (7 * (wrap64 (a2)))))) - 1)) (wrap64 (Int.tmod a1 7)) t118 _ A18.out).mono ?_); rintro e w' ⟨rfl, ⟨nd, rfl⟩⟩))
                  go_ret
                  exact ⟨by first | rfl | (simp; done) | (simp [*]; done), by repeat (first | exact Drawn0.refl _ | apply Drawn0.step)⟩
                · rw [if_neg c17] at H
                  have c17b0 : ((t112 == t113) == (t117 == (wrap64 (Int.tmod a1 7)))) = false := by simpa using c17
                  (try (have c17b1 : decide ((t112 == t113) = (t117 == (wrap64 (Int.tmod a1 7)))) = false := by simpa using c17))
                  (try (have c17b2 : ((t112 == t113) == (t117 == (wrap64 (Int.tmod a1 7)))) = false := by simpa using c17))
                  (try (have c17b3 : ¬ ((t112 == t113) = (t117 == (wrap64 (Int.tmod a1 7)))) := by simpa using c17))
                  clear c17
                  obtain rfl := Option.some.inj H
                  go_enter Try.func4, Try.ntmps4
                  go_wp2_with (first | ((with_reducible refine gate_callee (f := 14) rfl ?_); refine goesL_ (some 21) rfl rfl Try.func14 (by kernel_rfl) rfl #[.int .i64 (wrap64 (a0)), .int .i64 (wrap64 (Int.tmod a1 7))] rfl (by (try simp only [List.map_toArray, List.map_cons, List.map_nil]); first | done | rfl | (simp only [List.length_drop, List.length_take]; rfl)) ?_; (with_reducible refine (week_From.calls (wrap64 (a0)) (wrap64 (Int.tmod a1 7)) t112 _ A4.out).mono ?_); rintro e w' ⟨rfl, ⟨nd, rfl⟩⟩; refine ⟨_, rfl, ?_⟩) | ((with_reducible refine gate_callee (f := 16) rfl ?_); refine goesL_ (some 24) rfl rfl Try.func16 (by kernel_rfl) rfl #[.int .i64 (wrap64 (a0)), .int .i64 (wrap64 (Int.tmod a1 7))] rfl (by (try simp only [List.map_toArray, List.map_cons, List.map_nil]); first | done | rfl | (simp only [List.length_drop, List.length_take]; rfl)) ?_; (with_reducible refine (week_Upto.calls (wrap64 (a0)) (wrap64 (Int.tmod a1 7)) t113 _ A5.out).mono ?_); rintro e w' ⟨rfl, ⟨nd, rfl⟩⟩; refine ⟨_, rfl, ?_⟩) | ((with_reducible refine gate_callee (f := 13) rfl ?_); refine goesL_ (some 25) rfl rfl Try.func13 (by kernel_rfl) rfl #[] rfl (by (try simp only [List.map_toArray, List.map_cons, List.map_nil]); first | done | rfl | (simp only [List.length_drop, List.length_take]; rfl)) ?_; (with_reducible refine (almanackerlaw12_awake.calls k  true _ A6.out).mono ?_); rintro e w' ⟨rfl, ⟨nd, rfl⟩⟩; refine ⟨_, rfl, ?_⟩) | (go_at_call 20; (with_reducible refine (almanackerref04_Weekday.calls t112 t115 _ A8.out).mono ?_); rintro e w' ⟨rfl, ⟨nd, rfl⟩⟩) | (go_at_call 20; (with_reducible refine (almanackerref04_Weekday.calls t113 t116 _ A10.out).mono ?_); rintro e w' ⟨rfl, ⟨nd, rfl⟩⟩) | (go_at_call 20; (with_reducible refine (almanackerref04_Weekday.calls (wrap64 (a0)) t117 _ A16.out).mono ?_); rintro e w' ⟨rfl, ⟨nd, rfl⟩⟩))
                  go_ret
                  exact ⟨by first | rfl | (simp; done) | (simp [*]; done), by repeat (first | exact Drawn0.refl _ | apply Drawn0.step)⟩
              · rw [if_neg c15] at H
                have c15b0 : decide ((wrap64 ((wrap64 (a0)) - 7)) < t113) = false := decide_eq_false c15
                clear c15
                obtain rfl := Option.some.inj H
                go_enter Try.func4, Try.ntmps4
                go_wp2_with (first | ((with_reducible refine gate_callee (f := 14) rfl ?_); refine goesL_ (some 21) rfl rfl Try.func14 (by kernel_rfl) rfl #[.int .i64 (wrap64 (a0)), .int .i64 (wrap64 (Int.tmod a1 7))] rfl (by (try simp only [List.map_toArray, List.map_cons, List.map_nil]); first | done | rfl | (simp only [List.length_drop, List.length_take]; rfl)) ?_; (with_reducible refine (week_From.calls (wrap64 (a0)) (wrap64 (Int.tmod a1 7)) t112 _ A4.out).mono ?_); rintro e w' ⟨rfl, ⟨nd, rfl⟩⟩; refine ⟨_, rfl, ?_⟩) | ((with_reducible refine gate_callee (f := 16) rfl ?_); refine goesL_ (some 24) rfl rfl Try.func16 (by kernel_rfl) rfl #[.int .i64 (wrap64 (a0)), .int .i64 (wrap64 (Int.tmod a1 7))] rfl (by (try simp only [List.map_toArray, List.map_cons, List.map_nil]); first | done | rfl | (simp only [List.length_drop, List.length_take]; rfl)) ?_; (with_reducible refine (week_Upto.calls (wrap64 (a0)) (wrap64 (Int.tmod a1 7)) t113 _ A5.out).mono ?_); rintro e w' ⟨rfl, ⟨nd, rfl⟩⟩; refine ⟨_, rfl, ?_⟩) | ((with_reducible refine gate_callee (f := 13) rfl ?_); refine goesL_ (some 25) rfl rfl Try.func13 (by kernel_rfl) rfl #[] rfl (by (try simp only [List.map_toArray, List.map_cons, List.map_nil]); first | done | rfl | (simp only [List.length_drop, List.length_take]; rfl)) ?_; (with_reducible refine (almanackerlaw12_awake.calls k  true _ A6.out).mono ?_); rintro e w' ⟨rfl, ⟨nd, rfl⟩⟩; refine ⟨_, rfl, ?_⟩) | (go_at_call 20; (with_reducible refine (almanackerref04_Weekday.calls t112 t115 _ A8.out).mono ?_); rintro e w' ⟨rfl, ⟨nd, rfl⟩⟩) | (go_at_call 20; (with_reducible refine (almanackerref04_Weekday.calls t113 t116 _ A10.out).mono ?_); rintro e w' ⟨rfl, ⟨nd, rfl⟩⟩))
                go_ret
                exact ⟨by first | rfl | (simp; done) | (simp [*]; done), by repeat (first | exact Drawn0.refl _ | apply Drawn0.step)⟩
            · rw [if_neg c14] at H
              have c14b0 : decide (t113 ≤ (wrap64 (a0))) = false := decide_eq_false c14
              clear c14
              obtain rfl := Option.some.inj H
              go_enter Try.func4, Try.ntmps4
              go_wp2_with (first | ((with_reducible refine gate_callee (f := 14) rfl ?_); refine goesL_ (some 21) rfl rfl Try.func14 (by kernel_rfl) rfl #[.int .i64 (wrap64 (a0)), .int .i64 (wrap64 (Int.tmod a1 7))] rfl (by (try simp only [List.map_toArray, List.map_cons, List.map_nil]); first | done | rfl | (simp only [List.length_drop, List.length_take]; rfl)) ?_; (with_reducible refine (week_From.calls (wrap64 (a0)) (wrap64 (Int.tmod a1 7)) t112 _ A4.out).mono ?_); rintro e w' ⟨rfl, ⟨nd, rfl⟩⟩; refine ⟨_, rfl, ?_⟩) | ((with_reducible refine gate_callee (f := 16) rfl ?_); refine goesL_ (some 24) rfl rfl Try.func16 (by kernel_rfl) rfl #[.int .i64 (wrap64 (a0)), .int .i64 (wrap64 (Int.tmod a1 7))] rfl (by (try simp only [List.map_toArray, List.map_cons, List.map_nil]); first | done | rfl | (simp only [List.length_drop, List.length_take]; rfl)) ?_; (with_reducible refine (week_Upto.calls (wrap64 (a0)) (wrap64 (Int.tmod a1 7)) t113 _ A5.out).mono ?_); rintro e w' ⟨rfl, ⟨nd, rfl⟩⟩; refine ⟨_, rfl, ?_⟩) | ((with_reducible refine gate_callee (f := 13) rfl ?_); refine goesL_ (some 25) rfl rfl Try.func13 (by kernel_rfl) rfl #[] rfl (by (try simp only [List.map_toArray, List.map_cons, List.map_nil]); first | done | rfl | (simp only [List.length_drop, List.length_take]; rfl)) ?_; (with_reducible refine (almanackerlaw12_awake.calls k  true _ A6.out).mono ?_); rintro e w' ⟨rfl, ⟨nd, rfl⟩⟩; refine ⟨_, rfl, ?_⟩) | (go_at_call 20; (with_reducible refine (almanackerref04_Weekday.calls t112 t115 _ A8.out).mono ?_); rintro e w' ⟨rfl, ⟨nd, rfl⟩⟩) | (go_at_call 20; (with_reducible refine (almanackerref04_Weekday.calls t113 t116 _ A10.out).mono ?_); rintro e w' ⟨rfl, ⟨nd, rfl⟩⟩))
              go_ret
              exact ⟨by first | rfl | (simp; done) | (simp [*]; done), by repeat (first | exact Drawn0.refl _ | apply Drawn0.step)⟩
          · rw [if_neg c13] at H
            have c13b0 : decide (t112 < (wrap64 ((wrap64 (a0)) + 7))) = false := decide_eq_false c13
            clear c13
            obtain rfl := Option.some.inj H
            go_enter Try.func4, Try.ntmps4
            go_wp2_with (first | ((with_reducible refine gate_callee (f := 14) rfl ?_); refine goesL_ (some 21) rfl rfl Try.func14 (by kernel_rfl) rfl #[.int .i64 (wrap64 (a0)), .int .i64 (wrap64 (Int.tmod a1 7))] rfl (by (try simp only [List.map_toArray, List.map_cons, List.map_nil]); first | done | rfl | (simp only [List.length_drop, List.length_take]; rfl)) ?_; (with_reducible refine (week_From.calls (wrap64 (a0)) (wrap64 (Int.tmod a1 7)) t112 _ A4.out).mono ?_); rintro e w' ⟨rfl, ⟨nd, rfl⟩⟩; refine ⟨_, rfl, ?_⟩) | ((with_reducible refine gate_callee (f := 16) rfl ?_); refine goesL_ (some 24) rfl rfl Try.func16 (by kernel_rfl) rfl #[.int .i64 (wrap64 (a0)), .int .i64 (wrap64 (Int.tmod a1 7))] rfl (by (try simp only [List.map_toArray, List.map_cons, List.map_nil]); first | done | rfl | (simp only [List.length_drop, List.length_take]; rfl)) ?_; (with_reducible refine (week_Upto.calls (wrap64 (a0)) (wrap64 (Int.tmod a1 7)) t113 _ A5.out).mono ?_); rintro e w' ⟨rfl, ⟨nd, rfl⟩⟩; refine ⟨_, rfl, ?_⟩) | ((with_reducible refine gate_callee (f := 13) rfl ?_); refine goesL_ (some 25) rfl rfl Try.func13 (by kernel_rfl) rfl #[] rfl (by (try simp only [List.map_toArray, List.map_cons, List.map_nil]); first | done | rfl | (simp only [List.length_drop, List.length_take]; rfl)) ?_; (with_reducible refine (almanackerlaw12_awake.calls k  true _ A6.out).mono ?_); rintro e w' ⟨rfl, ⟨nd, rfl⟩⟩; refine ⟨_, rfl, ?_⟩) | (go_at_call 20; (with_reducible refine (almanackerref04_Weekday.calls t112 t115 _ A8.out).mono ?_); rintro e w' ⟨rfl, ⟨nd, rfl⟩⟩) | (go_at_call 20; (with_reducible refine (almanackerref04_Weekday.calls t113 t116 _ A10.out).mono ?_); rintro e w' ⟨rfl, ⟨nd, rfl⟩⟩))
            go_ret
            exact ⟨by first | rfl | (simp; done) | (simp [*]; done), by repeat (first | exact Drawn0.refl _ | apply Drawn0.step)⟩
        · rw [if_neg c12] at H
          have c12b0 : decide ((wrap64 (a0)) ≤ t112) = false := decide_eq_false c12
          clear c12
          obtain rfl := Option.some.inj H
          go_enter Try.func4, Try.ntmps4
          go_wp2_with (first | ((with_reducible refine gate_callee (f := 14) rfl ?_); refine goesL_ (some 21) rfl rfl Try.func14 (by kernel_rfl) rfl #[.int .i64 (wrap64 (a0)), .int .i64 (wrap64 (Int.tmod a1 7))] rfl (by (try simp only [List.map_toArray, List.map_cons, List.map_nil]); first | done | rfl | (simp only [List.length_drop, List.length_take]; rfl)) ?_; (with_reducible refine (week_From.calls (wrap64 (a0)) (wrap64 (Int.tmod a1 7)) t112 _ A4.out).mono ?_); rintro e w' ⟨rfl, ⟨nd, rfl⟩⟩; refine ⟨_, rfl, ?_⟩) | ((with_reducible refine gate_callee (f := 16) rfl ?_); refine goesL_ (some 24) rfl rfl Try.func16 (by kernel_rfl) rfl #[.int .i64 (wrap64 (a0)), .int .i64 (wrap64 (Int.tmod a1 7))] rfl (by (try simp only [List.map_toArray, List.map_cons, List.map_nil]); first | done | rfl | (simp only [List.length_drop, List.length_take]; rfl)) ?_; (with_reducible refine (week_Upto.calls (wrap64 (a0)) (wrap64 (Int.tmod a1 7)) t113 _ A5.out).mono ?_); rintro e w' ⟨rfl, ⟨nd, rfl⟩⟩; refine ⟨_, rfl, ?_⟩) | ((with_reducible refine gate_callee (f := 13) rfl ?_); refine goesL_ (some 25) rfl rfl Try.func13 (by kernel_rfl) rfl #[] rfl (by (try simp only [List.map_toArray, List.map_cons, List.map_nil]); first | done | rfl | (simp only [List.length_drop, List.length_take]; rfl)) ?_; (with_reducible refine (almanackerlaw12_awake.calls k  true _ A6.out).mono ?_); rintro e w' ⟨rfl, ⟨nd, rfl⟩⟩; refine ⟨_, rfl, ?_⟩) | (go_at_call 20; (with_reducible refine (almanackerref04_Weekday.calls t112 t115 _ A8.out).mono ?_); rintro e w' ⟨rfl, ⟨nd, rfl⟩⟩) | (go_at_call 20; (with_reducible refine (almanackerref04_Weekday.calls t113 t116 _ A10.out).mono ?_); rintro e w' ⟨rfl, ⟨nd, rfl⟩⟩))
          go_ret
          exact ⟨by first | rfl | (simp; done) | (simp [*]; done), by repeat (first | exact Drawn0.refl _ | apply Drawn0.step)⟩
      · rw [if_neg c11] at H
        have c11b0 : (t116 == (wrap64 (Int.tmod a1 7))) = false := beq_eq_false_iff_ne.mpr c11
        have c11b1 : (t116 != (wrap64 (Int.tmod a1 7))) = true := bne_iff_ne.mpr c11
        obtain rfl := Option.some.inj H
        go_enter Try.func4, Try.ntmps4
        go_wp2_with (first | ((with_reducible refine gate_callee (f := 14) rfl ?_); refine goesL_ (some 21) rfl rfl Try.func14 (by kernel_rfl) rfl #[.int .i64 (wrap64 (a0)), .int .i64 (wrap64 (Int.tmod a1 7))] rfl (by (try simp only [List.map_toArray, List.map_cons, List.map_nil]); first | done | rfl | (simp only [List.length_drop, List.length_take]; rfl)) ?_; (with_reducible refine (week_From.calls (wrap64 (a0)) (wrap64 (Int.tmod a1 7)) t112 _ A4.out).mono ?_); rintro e w' ⟨rfl, ⟨nd, rfl⟩⟩; refine ⟨_, rfl, ?_⟩) | ((with_reducible refine gate_callee (f := 16) rfl ?_); refine goesL_ (some 24) rfl rfl Try.func16 (by kernel_rfl) rfl #[.int .i64 (wrap64 (a0)), .int .i64 (wrap64 (Int.tmod a1 7))] rfl (by (try simp only [List.map_toArray, List.map_cons, List.map_nil]); first | done | rfl | (simp only [List.length_drop, List.length_take]; rfl)) ?_; (with_reducible refine (week_Upto.calls (wrap64 (a0)) (wrap64 (Int.tmod a1 7)) t113 _ A5.out).mono ?_); rintro e w' ⟨rfl, ⟨nd, rfl⟩⟩; refine ⟨_, rfl, ?_⟩) | ((with_reducible refine gate_callee (f := 13) rfl ?_); refine goesL_ (some 25) rfl rfl Try.func13 (by kernel_rfl) rfl #[] rfl (by (try simp only [List.map_toArray, List.map_cons, List.map_nil]); first | done | rfl | (simp only [List.length_drop, List.length_take]; rfl)) ?_; (with_reducible refine (almanackerlaw12_awake.calls k  true _ A6.out).mono ?_); rintro e w' ⟨rfl, ⟨nd, rfl⟩⟩; refine ⟨_, rfl, ?_⟩) | (go_at_call 20; (with_reducible refine (almanackerref04_Weekday.calls t112 t115 _ A8.out).mono ?_); rintro e w' ⟨rfl, ⟨nd, rfl⟩⟩) | (go_at_call 20; (with_reducible refine (almanackerref04_Weekday.calls t113 t116 _ A10.out).mono ?_); rintro e w' ⟨rfl, ⟨nd, rfl⟩⟩))
        go_ret
        exact ⟨by first | rfl | (simp; done) | (simp [*]; done), by repeat (first | exact Drawn0.refl _ | apply Drawn0.step)⟩
    · rw [if_neg c9] at H
      have c9b0 : (t115 == (wrap64 (Int.tmod a1 7))) = false := beq_eq_false_iff_ne.mpr c9
      have c9b1 : (t115 != (wrap64 (Int.tmod a1 7))) = true := bne_iff_ne.mpr c9
      obtain rfl := Option.some.inj H
      go_enter Try.func4, Try.ntmps4
      go_wp2_with (first | ((with_reducible refine gate_callee (f := 14) rfl ?_); refine goesL_ (some 21) rfl rfl Try.func14 (by kernel_rfl) rfl #[.int .i64 (wrap64 (a0)), .int .i64 (wrap64 (Int.tmod a1 7))] rfl (by (try simp only [List.map_toArray, List.map_cons, List.map_nil]); first | done | rfl | (simp only [List.length_drop, List.length_take]; rfl)) ?_; (with_reducible refine (week_From.calls (wrap64 (a0)) (wrap64 (Int.tmod a1 7)) t112 _ A4.out).mono ?_); rintro e w' ⟨rfl, ⟨nd, rfl⟩⟩; refine ⟨_, rfl, ?_⟩) | ((with_reducible refine gate_callee (f := 16) rfl ?_); refine goesL_ (some 24) rfl rfl Try.func16 (by kernel_rfl) rfl #[.int .i64 (wrap64 (a0)), .int .i64 (wrap64 (Int.tmod a1 7))] rfl (by (try simp only [List.map_toArray, List.map_cons, List.map_nil]); first | done | rfl | (simp only [List.length_drop, List.length_take]; rfl)) ?_; (with_reducible refine (week_Upto.calls (wrap64 (a0)) (wrap64 (Int.tmod a1 7)) t113 _ A5.out).mono ?_); rintro e w' ⟨rfl, ⟨nd, rfl⟩⟩; refine ⟨_, rfl, ?_⟩) | ((with_reducible refine gate_callee (f := 13) rfl ?_); refine goesL_ (some 25) rfl rfl Try.func13 (by kernel_rfl) rfl #[] rfl (by (try simp only [List.map_toArray, List.map_cons, List.map_nil]); first | done | rfl | (simp only [List.length_drop, List.length_take]; rfl)) ?_; (with_reducible refine (almanackerlaw12_awake.calls k  true _ A6.out).mono ?_); rintro e w' ⟨rfl, ⟨nd, rfl⟩⟩; refine ⟨_, rfl, ?_⟩) | (go_at_call 20; (with_reducible refine (almanackerref04_Weekday.calls t112 t115 _ A8.out).mono ?_); rintro e w' ⟨rfl, ⟨nd, rfl⟩⟩))
      go_ret
      exact ⟨by first | rfl | (simp; done) | (simp [*]; done), by repeat (first | exact Drawn0.refl _ | apply Drawn0.step)⟩
  · replace c7 := Bool.eq_false_iff.mpr c7
    subst c7
    have H1 : (some false) = some r := by rw [if_neg (show ¬ (false = true) by decide)] at H; exact H
    clear H
    have H := H1
    clear H1
    obtain rfl := Option.some.inj H
    go_enter Try.func4, Try.ntmps4
    go_wp2_with (first | ((with_reducible refine gate_callee (f := 14) rfl ?_); refine goesL_ (some 21) rfl rfl Try.func14 (by kernel_rfl) rfl #[.int .i64 (wrap64 (a0)), .int .i64 (wrap64 (Int.tmod a1 7))] rfl (by (try simp only [List.map_toArray, List.map_cons, List.map_nil]); first | done | rfl | (simp only [List.length_drop, List.length_take]; rfl)) ?_; (with_reducible refine (week_From.calls (wrap64 (a0)) (wrap64 (Int.tmod a1 7)) t112 _ A4.out).mono ?_); rintro e w' ⟨rfl, ⟨nd, rfl⟩⟩; refine ⟨_, rfl, ?_⟩) | ((with_reducible refine gate_callee (f := 16) rfl ?_); refine goesL_ (some 24) rfl rfl Try.func16 (by kernel_rfl) rfl #[.int .i64 (wrap64 (a0)), .int .i64 (wrap64 (Int.tmod a1 7))] rfl (by (try simp only [List.map_toArray, List.map_cons, List.map_nil]); first | done | rfl | (simp only [List.length_drop, List.length_take]; rfl)) ?_; (with_reducible refine (week_Upto.calls (wrap64 (a0)) (wrap64 (Int.tmod a1 7)) t113 _ A5.out).mono ?_); rintro e w' ⟨rfl, ⟨nd, rfl⟩⟩; refine ⟨_, rfl, ?_⟩) | ((with_reducible refine gate_callee (f := 13) rfl ?_); refine goesL_ (some 25) rfl rfl Try.func13 (by kernel_rfl) rfl #[] rfl (by (try simp only [List.map_toArray, List.map_cons, List.map_nil]); first | done | rfl | (simp only [List.length_drop, List.length_take]; rfl)) ?_; (with_reducible refine (almanackerlaw12_awake.calls k  false _ A6.out).mono ?_); rintro e w' ⟨rfl, ⟨nd, rfl⟩⟩; refine ⟨_, rfl, ?_⟩))
    go_ret
    exact ⟨by first | rfl | (simp; done) | (simp [*]; done), by repeat (first | exact Drawn0.refl _ | apply Drawn0.step)⟩

/-- THE ONE PURE STATEMENT of almanackerlaw12_WeekNear: yours. -/
def almanackerlaw12_WeekNear.Pure : Prop := ∀ (a0 : Int) (a1 : Int) (a2 : Int), (Lit.int .i32 a0).wf = true → (Lit.int .u8 a1).wf = true → (Lit.int .u8 a2).wf = true → ∃ k, almanackerlaw12_WeekNear.f k a0 a1 a2 = some true
theorem almanackerlaw12_WeekNear.walk (P : almanackerlaw12_WeekNear.Pure) (a0 : Int) (a1 : Int) (a2 : Int) (w : World) (w0 : (Lit.int .i32 a0).wf = true) (w1 : (Lit.int .u8 a1).wf = true) (w2 : (Lit.int .u8 a2).wf = true) :
    Calls Try.prog 4 #[.int .i32 a0, .int .u8 a1, .int .u8 a2] w fun e w' => e = .returned (.bool true) ∧ Below w.heap.size w w' := by
  obtain ⟨k, h⟩ := P a0 a1 a2 w0 w1 w2
  refine (almanackerlaw12_WeekNear.calls k a0 a1 a2 true w h).mono ?_
  rintro e w' ⟨rfl, hd⟩
  exact ⟨rfl, hd.below⟩

end Go.Proofs.Ytmeimicphadlpaa.PWeekNear
