-- PRINTED BY print.sh 35421559b90ae4d0a3588c463048766b98c2df88dd9212a6774a882060cdf62d: not written by this session
import Derived.Test.YtmeimicphadlpaaPWeekTellsx0
import Derived.Test.YtmeimicphadlpaaPWeekTellsx1
namespace Go.Proofs.Ytmeimicphadlpaa.PWeekTells
open Go.RowKit Go.Proofs.YtmeimicphadlpaaW.PrintWords Go.Proofs.YtmeimicphadlpaaW.PrintLast Go.Proofs.YtmeimicphadlpaaW.PrintMore
attribute [local go_sem] max2_int min2_int max_two min_two max_three min_three max_four min_four   -- for this text's walks alone
set_option linter.unusedVariables false
set_option linter.unusedSimpArgs false

/-! ### almanackerlaw12_WeekTells: function 3 -/
def almanackerlaw12_WeekTells.j0 : Nat → Int → Int → Int → Bool → Option (Bool)
  | 0, _, _, _, _ => none
  | k + 1, x0, x1, x2, x20 => if x20 = true then ((almanackerlaw12_awake.f k).bind fun t119 => (some t119)) else ((almanackerlaw12_awake.f k).bind fun t120 => (if t120 = true then ((week_From.f x0 x2).bind fun t121 => ((almanackerref12_From.f k x0 x2).bind fun t122 => (if t121 = t122 then ((week_Upto.f x0 x2).bind fun t123 => ((almanackerref12_Upto.f k x0 x2).bind fun t124 => (if t123 = t124 then ((week_Count.f k x0 x1 x2).bind fun t125 => ((almanackerref12_Count.f k x0 x1 x2).bind fun t126 => (some (t125 == t126)))) else (some false)))) else (some false)))) else (some false)))
def almanackerlaw12_WeekTells.f (k : Nat) (a0 : Int) (a1 : Int) (a2 : Int) : Option (Bool) := if a0 < (-1099511627776) then (almanackerlaw12_WeekTells.j0 k a0 a1 a2 true) else (if a0 > 1099511627776 then (almanackerlaw12_WeekTells.j0 k a0 a1 a2 true) else (if a1 < (-1099511627776) then (almanackerlaw12_WeekTells.j0 k a0 a1 a2 true) else (almanackerlaw12_WeekTells.j0 k a0 a1 a2 (decide (a1 > 1099511627776)))))
theorem almanackerlaw12_WeekTells.mono_l : ∀ k, (∀ y0 y1 y2 y3, LeO (almanackerlaw12_WeekTells.j0 k y0 y1 y2 y3) (almanackerlaw12_WeekTells.j0 (k + 1) y0 y1 y2 y3))
  | 0 => fun _ _ _ _ r h => by simp [almanackerlaw12_WeekTells.j0] at h
  | k + 1 => by
    have ih0 := almanackerlaw12_WeekTells.mono_l k
    · intro y0 y1 y2 y3
      unfold almanackerlaw12_WeekTells.j0
      repeat' first
      | (with_reducible exact ih0 _ _ _ _)
      | (with_reducible exact almanackerlaw12_awake.mono _)
      | (with_reducible exact almanackerref12_Count.mono _ _ _ _)
      | (with_reducible exact almanackerref12_From.mono _ _ _)
      | (with_reducible exact almanackerref12_Upto.mono _ _ _)
      | (with_reducible exact week_Count.mono _ _ _ _)
      | (with_reducible exact LeO.refl _)
      | (with_reducible exact LeO.none _)
      | (with_reducible refine LeO.ite ?_ ?_)
      | (with_reducible refine LeO.bind ?_ (fun _ => ?_))
      | exact ih0 _ _ _ _
      | exact almanackerlaw12_awake.mono _
      | exact almanackerref12_Count.mono _ _ _ _
      | exact almanackerref12_From.mono _ _ _
      | exact almanackerref12_Upto.mono _ _ _
      | exact week_Count.mono _ _ _ _
      | exact LeO.none _
      | refine LeO.ite ?_ ?_
      | refine LeO.bind ?_ (fun _ => ?_)
theorem almanackerlaw12_WeekTells.mono : ∀ a0 a1 a2 k, LeO (almanackerlaw12_WeekTells.f k a0 a1 a2) (almanackerlaw12_WeekTells.f (k + 1) a0 a1 a2) := by
  intro a0 a1 a2 k
  have ih0 := almanackerlaw12_WeekTells.mono_l k
  unfold almanackerlaw12_WeekTells.f
  repeat' first
      | (with_reducible exact ih0 _ _ _ _)
      | (with_reducible exact almanackerlaw12_awake.mono _)
      | (with_reducible exact almanackerref12_Count.mono _ _ _ _)
      | (with_reducible exact almanackerref12_From.mono _ _ _)
      | (with_reducible exact almanackerref12_Upto.mono _ _ _)
      | (with_reducible exact week_Count.mono _ _ _ _)
      | (with_reducible exact LeO.refl _)
      | (with_reducible exact LeO.none _)
      | (with_reducible refine LeO.ite ?_ ?_)
      | (with_reducible refine LeO.bind ?_ (fun _ => ?_))
      | exact ih0 _ _ _ _
      | exact almanackerlaw12_awake.mono _
      | exact almanackerref12_Count.mono _ _ _ _
      | exact almanackerref12_From.mono _ _ _
      | exact almanackerref12_Upto.mono _ _ _
      | exact week_Count.mono _ _ _ _
      | exact LeO.none _
      | refine LeO.ite ?_ ?_
      | refine LeO.bind ?_ (fun _ => ?_)
set_option maxHeartbeats 8000000 in
set_option maxRecDepth 100000 in
theorem almanackerlaw12_WeekTells.calls (k : Nat) (a0 : Int) (a1 : Int) (a2 : Int) (r : Bool) (w : World) (h : almanackerlaw12_WeekTells.f k a0 a1 a2 = some r) :
    Calls Try.prog 3 #[.int .i64 a0, .int .i64 a1, .int .i64 a2] w fun e w' => e = .returned (.bool r) ∧ Drawn0 w w' := by
  have H : (if a0 < (-1099511627776) then (almanackerlaw12_WeekTells.j0 k a0 a1 a2 true) else (if a0 > 1099511627776 then (almanackerlaw12_WeekTells.j0 k a0 a1 a2 true) else (if a1 < (-1099511627776) then (almanackerlaw12_WeekTells.j0 k a0 a1 a2 true) else (almanackerlaw12_WeekTells.j0 k a0 a1 a2 (decide (a1 > 1099511627776)))))) = some r := h
  clear h
  have HC4 := Aside0.mk H
  clear H
  go_enter Try.func3, Try.ntmps3
  go_upto_region 1 with (fail)
  go_cut [20] (fun v20 wc => ∃ (kq : Nat) (x20_3 : Bool), v20 = .bool x20_3 ∧ Aside0 (almanackerlaw12_WeekTells.j0 kq a0 a1 a2 x20_3 = some r) ∧ Aside0 (kq ≤ k) ∧ Drawn0 w wc)
  case first =>
    have H := HC4.out
    clear HC4
    by_cases c5 : a0 < (-1099511627776)
    · rw [if_pos c5] at H
      have c5b0 : decide (a0 < (-1099511627776)) = true := decide_eq_true c5
      clear c5
      (first | rw [c5b0] | (simp only [i64_w, i32_w]; rw [c5b0]) | skip)
      have H' := Aside0.mk H
      clear H
      go_wp2
      go_meet
      case rel => exact ⟨_, (true), (by first | rfl | (simp; done) | (simp [*]; done)), H', ⟨by first | omega | exact Nat.le_refl _⟩, by repeat (first | exact Drawn0.refl _ | apply Drawn0.step)⟩
    · rw [if_neg c5] at H
      have c5b0 : decide (a0 < (-1099511627776)) = false := decide_eq_false c5
      clear c5
      (first | rw [c5b0] | (simp only [i64_w, i32_w]; rw [c5b0]) | skip)
      by_cases c6 : a0 > 1099511627776
      · rw [if_pos c6] at H
        have c6b0 : decide (1099511627776 < a0) = true := decide_eq_true c6
        clear c6
        have H' := Aside0.mk H
        clear H
        go_wp2
        go_meet
        case rel => exact ⟨_, (true), (by first | rfl | (simp; done) | (simp [*]; done)), H', ⟨by first | omega | exact Nat.le_refl _⟩, by repeat (first | exact Drawn0.refl _ | apply Drawn0.step)⟩
      · rw [if_neg c6] at H
        have c6b0 : decide (1099511627776 < a0) = false := decide_eq_false c6
        clear c6
        by_cases c7 : a1 < (-1099511627776)
        · rw [if_pos c7] at H
          have c7b0 : decide (a1 < (-1099511627776)) = true := decide_eq_true c7
          clear c7
          have H' := Aside0.mk H
          clear H
          go_wp2
          go_meet
          case rel => exact ⟨_, (true), (by first | rfl | (simp; done) | (simp [*]; done)), H', ⟨by first | omega | exact Nat.le_refl _⟩, by repeat (first | exact Drawn0.refl _ | apply Drawn0.step)⟩
        · rw [if_neg c7] at H
          have c7b0 : decide (a1 < (-1099511627776)) = false := decide_eq_false c7
          clear c7
          have H' := Aside0.mk H
          clear H
          go_wp2
          go_meet
          case rel => exact ⟨_, (decide (a1 > 1099511627776)), (by first | rfl | (simp; done) | (simp [*]; done)), H', ⟨by first | omega | exact Nat.le_refl _⟩, by repeat (first | exact Drawn0.refl _ | apply Drawn0.step)⟩
  case rest =>
    clear HC4
    try clear p2
    try clear c3
    try clear c5
    try clear c5b0
    try clear c6
    try clear c6b0
    try clear c7
    try clear c7b0
    obtain ⟨kq, x20_3, rfl, HA, HJ3, ⟨mc3, rfl⟩⟩ := hcut
    cases kq with
    | zero => exact absurd HA.out (by simp [almanackerlaw12_WeekTells.j0])
    | succ kj3 =>
      have H := HA.out
      clear HA
      simp only [almanackerlaw12_WeekTells.j0] at H
      by_cases c8 : x20_3 = true
      · subst c8
        have H1 : ((almanackerlaw12_awake.f kj3).bind fun t119 => (some t119)) = some r := by rw [if_pos rfl] at H; exact H
        clear H
        have H := H1
        clear H1
        replace H := Option.bind_eq_some_iff.mp H
        obtain ⟨t119, A90, H⟩ := H
        replace H : (some t119) = some r := H
        have A9 := Aside0.mk A90
        clear A90
        obtain rfl := Option.some.inj H
        go_wp2_with (first | ((with_reducible refine gate_callee (f := 13) rfl ?_); refine goesL_ (some 21) rfl rfl Try.func13 (by kernel_rfl) rfl #[] rfl (by (try simp only [List.map_toArray, List.map_cons, List.map_nil]); first | done | rfl | (simp only [List.length_drop, List.length_take]; rfl)) ?_; (with_reducible refine (almanackerlaw12_awake.calls kj3  t119 _ A9.out).mono ?_); rintro e w' ⟨rfl, ⟨nd, rfl⟩⟩; refine ⟨_, rfl, ?_⟩))
        go_ret
        exact ⟨by first | rfl | (simp; done) | (simp [*]; done), by repeat (first | exact Drawn0.refl _ | apply Drawn0.step)⟩
      · replace c8 := Bool.eq_false_iff.mpr c8
        subst c8
        have H1 : ((almanackerlaw12_awake.f kj3).bind fun t120 => (if t120 = true then ((week_From.f a0 a2).bind fun t121 => ((almanackerref12_From.f kj3 a0 a2).bind fun t122 => (if t121 = t122 then ((week_Upto.f a0 a2).bind fun t123 => ((almanackerref12_Upto.f kj3 a0 a2).bind fun t124 => (if t123 = t124 then ((week_Count.f kj3 a0 a1 a2).bind fun t125 => ((almanackerref12_Count.f kj3 a0 a1 a2).bind fun t126 => (some (t125 == t126)))) else (some false)))) else (some false)))) else (some false))) = some r := by rw [if_neg (show ¬ (false = true) by decide)] at H; exact H
        clear H
        have H := H1
        clear H1
        replace H := Option.bind_eq_some_iff.mp H
        obtain ⟨t120, A100, H⟩ := H
        replace H : (if t120 = true then ((week_From.f a0 a2).bind fun t121 => ((almanackerref12_From.f kj3 a0 a2).bind fun t122 => (if t121 = t122 then ((week_Upto.f a0 a2).bind fun t123 => ((almanackerref12_Upto.f kj3 a0 a2).bind fun t124 => (if t123 = t124 then ((week_Count.f kj3 a0 a1 a2).bind fun t125 => ((almanackerref12_Count.f kj3 a0 a1 a2).bind fun t126 => (some (t125 == t126)))) else (some false)))) else (some false)))) else (some false)) = some r := H
        have A10 := Aside0.mk A100
        clear A100
        by_cases c11 : t120 = true
        · subst c11
          have H1 : ((week_From.f a0 a2).bind fun t121 => ((almanackerref12_From.f kj3 a0 a2).bind fun t122 => (if t121 = t122 then ((week_Upto.f a0 a2).bind fun t123 => ((almanackerref12_Upto.f kj3 a0 a2).bind fun t124 => (if t123 = t124 then ((week_Count.f kj3 a0 a1 a2).bind fun t125 => ((almanackerref12_Count.f kj3 a0 a1 a2).bind fun t126 => (some (t125 == t126)))) else (some false)))) else (some false)))) = some r := by rw [if_pos rfl] at H; exact H
          clear H
          have H := H1
          clear H1
          replace H := Option.bind_eq_some_iff.mp H
          obtain ⟨t121, A120, H⟩ := H
          replace H : ((almanackerref12_From.f kj3 a0 a2).bind fun t122 => (if t121 = t122 then ((week_Upto.f a0 a2).bind fun t123 => ((almanackerref12_Upto.f kj3 a0 a2).bind fun t124 => (if t123 = t124 then ((week_Count.f kj3 a0 a1 a2).bind fun t125 => ((almanackerref12_Count.f kj3 a0 a1 a2).bind fun t126 => (some (t125 == t126)))) else (some false)))) else (some false))) = some r := H
          have A12 := Aside0.mk A120
          clear A120
          replace H := Option.bind_eq_some_iff.mp H
          obtain ⟨t122, A130, H⟩ := H
          replace H : (if t121 = t122 then ((week_Upto.f a0 a2).bind fun t123 => ((almanackerref12_Upto.f kj3 a0 a2).bind fun t124 => (if t123 = t124 then ((week_Count.f kj3 a0 a1 a2).bind fun t125 => ((almanackerref12_Count.f kj3 a0 a1 a2).bind fun t126 => (some (t125 == t126)))) else (some false)))) else (some false)) = some r := H
          have A13 := Aside0.mk A130
          clear A130
          by_cases c14 : t121 = t122
          · rw [if_pos c14] at H
            have c14b0 : (t121 == t122) = true := beq_iff_eq.mpr c14
            have c14b1 : (t121 != t122) = false := bne_eq_false_iff_eq.mpr c14
            clear c14
            replace H := Option.bind_eq_some_iff.mp H
            obtain ⟨t123, A150, H⟩ := H
            replace H : ((almanackerref12_Upto.f kj3 a0 a2).bind fun t124 => (if t123 = t124 then ((week_Count.f kj3 a0 a1 a2).bind fun t125 => ((almanackerref12_Count.f kj3 a0 a1 a2).bind fun t126 => (some (t125 == t126)))) else (some false))) = some r := H
            have A15 := Aside0.mk A150
            clear A150
            replace H := Option.bind_eq_some_iff.mp H
            obtain ⟨t124, A160, H⟩ := H
            replace H : (if t123 = t124 then ((week_Count.f kj3 a0 a1 a2).bind fun t125 => ((almanackerref12_Count.f kj3 a0 a1 a2).bind fun t126 => (some (t125 == t126)))) else (some false)) = some r := H
            have A16 := Aside0.mk A160
            clear A160
            by_cases c17 : t123 = t124
            · rw [if_pos c17] at H
              have c17b0 : (t123 == t124) = true := beq_iff_eq.mpr c17
              have c17b1 : (t123 != t124) = false := bne_eq_false_iff_eq.mpr c17
              clear c17
              replace H := Option.bind_eq_some_iff.mp H
              obtain ⟨t125, A180, H⟩ := H
              replace H : ((almanackerref12_Count.f kj3 a0 a1 a2).bind fun t126 => (some (t125 == t126))) = some r := H
              have A18 := Aside0.mk A180
              clear A180
              replace H := Option.bind_eq_some_iff.mp H
              obtain ⟨t126, A190, H⟩ := H
              replace H : (some (t125 == t126)) = some r := H
              have A19 := Aside0.mk A190
              clear A190
              obtain rfl := Option.some.inj H
              go_wp2_with (first | ((with_reducible refine gate_callee (f := 13) rfl ?_); refine goesL_ (some 22) rfl rfl Try.func13 (by kernel_rfl) rfl #[] rfl (by (try simp only [List.map_toArray, List.map_cons, List.map_nil]); first | done | rfl | (simp only [List.length_drop, List.length_take]; rfl)) ?_; (with_reducible refine (almanackerlaw12_awake.calls kj3  true _ A10.out).mono ?_); rintro e w' ⟨rfl, ⟨nd, rfl⟩⟩; refine ⟨_, rfl, ?_⟩) | (go_at_call 14; (with_reducible refine (week_From.calls a0 a2 t121 _ A12.out).mono ?_); rintro e w' ⟨rfl, ⟨nd, rfl⟩⟩) | (go_at_call 15; (with_reducible refine (almanackerref12_From.calls kj3 a0 a2 t122 _ A13.out).mono ?_); rintro e w' ⟨rfl, ⟨nd, rfl⟩⟩) | (go_at_call 16; (with_reducible refine (week_Upto.calls a0 a2 t123 _ A15.out).mono ?_); rintro e w' ⟨rfl, ⟨nd, rfl⟩⟩) | (go_at_call 17; (with_reducible refine (almanackerref12_Upto.calls kj3 a0 a2 t124 _ A16.out).mono ?_); rintro e w' ⟨rfl, ⟨nd, rfl⟩⟩) | (go_at_call 18; (with_reducible refine (week_Count.calls kj3 a0 a1 a2 t125 _ A18.out).mono ?_); rintro e w' ⟨rfl, ⟨nd, rfl⟩⟩) | (go_at_call 19; (with_reducible refine (almanackerref12_Count.calls kj3 a0 a1 a2 t126 _ A19.out).mono ?_); rintro e w' ⟨rfl, ⟨nd, rfl⟩⟩))
              go_ret
              exact ⟨by first | rfl | (simp; done) | (simp [*]; done), by repeat (first | exact Drawn0.refl _ | apply Drawn0.step)⟩
            · rw [if_neg c17] at H
              have c17b0 : (t123 == t124) = false := beq_eq_false_iff_ne.mpr c17
              have c17b1 : (t123 != t124) = true := bne_iff_ne.mpr c17
              obtain rfl := Option.some.inj H
              go_wp2_with (first | ((with_reducible refine gate_callee (f := 13) rfl ?_); refine goesL_ (some 22) rfl rfl Try.func13 (by kernel_rfl) rfl #[] rfl (by (try simp only [List.map_toArray, List.map_cons, List.map_nil]); first | done | rfl | (simp only [List.length_drop, List.length_take]; rfl)) ?_; (with_reducible refine (almanackerlaw12_awake.calls kj3  true _ A10.out).mono ?_); rintro e w' ⟨rfl, ⟨nd, rfl⟩⟩; refine ⟨_, rfl, ?_⟩) | (go_at_call 14; (with_reducible refine (week_From.calls a0 a2 t121 _ A12.out).mono ?_); rintro e w' ⟨rfl, ⟨nd, rfl⟩⟩) | (go_at_call 15; (with_reducible refine (almanackerref12_From.calls kj3 a0 a2 t122 _ A13.out).mono ?_); rintro e w' ⟨rfl, ⟨nd, rfl⟩⟩) | (go_at_call 16; (with_reducible refine (week_Upto.calls a0 a2 t123 _ A15.out).mono ?_); rintro e w' ⟨rfl, ⟨nd, rfl⟩⟩) | (go_at_call 17; (with_reducible refine (almanackerref12_Upto.calls kj3 a0 a2 t124 _ A16.out).mono ?_); rintro e w' ⟨rfl, ⟨nd, rfl⟩⟩))
              go_ret
              exact ⟨by first | rfl | (simp; done) | (simp [*]; done), by repeat (first | exact Drawn0.refl _ | apply Drawn0.step)⟩
          · rw [if_neg c14] at H
            have c14b0 : (t121 == t122) = false := beq_eq_false_iff_ne.mpr c14
            have c14b1 : (t121 != t122) = true := bne_iff_ne.mpr c14
            obtain rfl := Option.some.inj H
            go_wp2_with (first | ((with_reducible refine gate_callee (f := 13) rfl ?_); refine goesL_ (some 22) rfl rfl Try.func13 (by kernel_rfl) rfl #[] rfl (by (try simp only [List.map_toArray, List.map_cons, List.map_nil]); first | done | rfl | (simp only [List.length_drop, List.length_take]; rfl)) ?_; (with_reducible refine (almanackerlaw12_awake.calls kj3  true _ A10.out).mono ?_); rintro e w' ⟨rfl, ⟨nd, rfl⟩⟩; refine ⟨_, rfl, ?_⟩) | (go_at_call 14; (with_reducible refine (week_From.calls a0 a2 t121 _ A12.out).mono ?_); rintro e w' ⟨rfl, ⟨nd, rfl⟩⟩) | (go_at_call 15; (with_reducible refine (almanackerref12_From.calls kj3 a0 a2 t122 _ A13.out).mono ?_); rintro e w' ⟨rfl, ⟨nd, rfl⟩⟩))
            go_ret
            exact ⟨by first | rfl | (simp; done) | (simp [*]; done), by repeat (first | exact Drawn0.refl _ | apply Drawn0.step)⟩
        · replace c11 := Bool.eq_false_iff.mpr c11
          subst c11
          have H1 : (some false) = some r := by rw [if_neg (show ¬ (false = true) by decide)] at H; exact H
          clear H
          have H := H1
          clear H1
          obtain rfl := Option.some.inj H
          go_wp2_with (first | ((with_reducible refine gate_callee (f := 13) rfl ?_); refine goesL_ (some 22) rfl rfl Try.func13 (by kernel_rfl) rfl #[] rfl (by (try simp only [List.map_toArray, List.map_cons, List.map_nil]); first | done | rfl | (simp only [List.length_drop, List.length_take]; rfl)) ?_; (with_reducible refine (almanackerlaw12_awake.calls kj3  false _ A10.out).mono ?_); rintro e w' ⟨rfl, ⟨nd, rfl⟩⟩; refine ⟨_, rfl, ?_⟩))
          go_ret
          exact ⟨by first | rfl | (simp; done) | (simp [*]; done), by repeat (first | exact Drawn0.refl _ | apply Drawn0.step)⟩

/-- THE ONE PURE STATEMENT of almanackerlaw12_WeekTells: yours. -/
def almanackerlaw12_WeekTells.Pure : Prop := ∀ (a0 : Int) (a1 : Int) (a2 : Int), (Lit.int .i64 a0).wf = true → (Lit.int .i64 a1).wf = true → (Lit.int .i64 a2).wf = true → ∃ k, almanackerlaw12_WeekTells.f k a0 a1 a2 = some true
theorem almanackerlaw12_WeekTells.walk (P : almanackerlaw12_WeekTells.Pure) (a0 : Int) (a1 : Int) (a2 : Int) (w : World) (w0 : (Lit.int .i64 a0).wf = true) (w1 : (Lit.int .i64 a1).wf = true) (w2 : (Lit.int .i64 a2).wf = true) :
    Calls Try.prog 3 #[.int .i64 a0, .int .i64 a1, .int .i64 a2] w fun e w' => e = .returned (.bool true) ∧ Below w.heap.size w w' := by
  obtain ⟨k, h⟩ := P a0 a1 a2 w0 w1 w2
  refine (almanackerlaw12_WeekTells.calls k a0 a1 a2 true w h).mono ?_
  rintro e w' ⟨rfl, hd⟩
  exact ⟨rfl, hd.below⟩

end Go.Proofs.Ytmeimicphadlpaa.PWeekTells
