/- The date behind and the date ahead, of every date: the contracts of count.Next and count.Ahead. -/
import Derived.Test.YtbalbkkimlbecaaDoorCount2
set_option linter.unusedVariables false
set_option linter.unusedSimpArgs false
namespace Go.Proofs.YtbalbkkimlbecaaDoor.Walks
open Go Go.RowKit Go.Sort Go.Proofs.YtbalbkkimlbecaaDoor.Base Go.Proofs.YtbalbkkimlbecaaDoor.Plain Go.Proofs.YtbalbkkimlbecaaDoor.Math

/-- A date may be, or it may not, for one of three reasons. -/
theorem cdate_cases (y n : Int) (c : Bool) (d : Int) : (∃ j, n = cN (lp y) j ∧ c = cL (lp y) j ∧ HV y j d) ∨ (y < 1 ∨ 9999 < y) ∨ (1 ≤ y ∧ y ≤ 9999 ∧ cHas (lp y) n c = false) ∨
    (1 ≤ y ∧ y ≤ 9999 ∧ ∃ j, j < mct (lp y) ∧ n = cN (lp y) j ∧ c = cL (lp y) j ∧ (d < 1 ∨ mlen (kk y) (lp y) j < d)) := by
  by_cases h : y < 1 ∨ 9999 < y
  · exact .inr (.inl h)
  · cases hc : cHas (lp y) n c
    · exact .inr (.inr (.inl ⟨by omega, by omega, rfl⟩))
    · obtain ⟨j, hj, e1, e2⟩ := code_in hc
      by_cases g : d < 1 ∨ mlen (kk y) (lp y) j < d
      · exact .inr (.inr (.inr ⟨by omega, by omega, j, hj, e1, e2, g⟩))
      · exact .inl ⟨j, e1, e2, by omega, by omega, hj, by omega, by omega⟩
/-- A date that may not be: all tell the same error. -/
theorem cdate_bad (y n : Int) (c : Bool) (d : Int) (h : ¬ ∃ j, n = cN (lp y) j ∧ c = cL (lp y) j ∧ HV y j d) : ∃ E : Int, 2 ≤ E ∧ E ≤ 4 ∧
    (∀ w, GT w → Calls Tryd.prog 37 #[.agg #[.int .i64 y, .int .i64 n, .bool c, .int .i64 d]] w fun e w' => e = .returned (.int .i64 E) ∧ Gr w w') ∧
    (∀ w, Calls Tryd.prog 14 #[.agg #[.int .i64 y, .int .i64 n, .bool c, .int .i64 d]] w fun e w' => e = .returned (.int .i64 E) ∧ Gr w w') := by
  rcases cdate_cases y n c d with g | g | ⟨h0, h1, g⟩ | ⟨h0, h1, j, hj, rfl, rfl, g⟩
  · exact absurd g h
  · exact ⟨2, by decide, by decide, fun w G => hcheck_of _ _ _ _ _ _ _ _ _ w fun W hW => look_e _ _ _ _ _ W (by decide) fun w => find_y y n c w g, fun w => r10check_e _ _ _ _ _ w (by decide) fun w => r10last_y y n c w g⟩
  · exact ⟨3, by decide, by decide, fun w G => hcheck_of _ _ _ _ _ _ _ _ _ w fun W hW => look_e _ _ _ _ _ W (by decide) fun w => find_m y n c w h0 h1 g, fun w => r10check_e _ _ _ _ _ w (by decide) fun w => r10last_m y n c w h0 h1 g⟩
  · exact ⟨4, by decide, by decide, fun w G => hcheck_of _ _ _ _ _ _ _ _ _ w fun W hW => look_d y j d W (G.gr hW) h0 h1 hj g, fun w => r10check_d y j d w h0 h1 hj g⟩
theorem cfirst_zero (l : Bool) : cN l 0 = 1 ∧ cL l 0 = false := by cases l <;> decide
theorem fy_top : fy 10000 = 2278651 := by decide +kernel
theorem fy_low : fy 1 = -1373427 := by decide +kernel

theorem cnext_c (y : Int) (j : Nat) (d : Int) (h : HV y j d) : (∃ (Y : Int) (J : Nat) (D : Int), HV Y J D ∧ hd Y J D = hd y j d + 1 ∧ ∀ w, GT w → Calls Tryd.prog 12 #[.agg #[.int .i64 y, .int .i64 (cN (lp y) j), .bool (cL (lp y) j), .int .i64 d]] w fun e w' => e = .returned (.tuple #[.agg #[.int .i64 Y, .int .i64 (cN (lp Y) J), .bool (cL (lp Y) J), .int .i64 D], .int .i64 0]) ∧ Gr w w') ∨
    ((∀ Y J D, HV Y J D → hd Y J D ≠ hd y j d + 1) ∧ ∀ w, GT w → Calls Tryd.prog 12 #[.agg #[.int .i64 y, .int .i64 (cN (lp y) j), .bool (cL (lp y) j), .int .i64 d]] w fun e w' => e = .returned (.tuple #[.agg #[.int .i64 0, .int .i64 0, .bool false, .int .i64 0], .int .i64 2]) ∧ Gr w w') := by
  have j1 := h.j1
  have hm := mct_le (lp y)
  have l := mlen_range (kk y) (lp y) j
  have nY := mN_year h.y0 h.y1
  have dd := h.d1
  have y1 := h.y1
  have core := fun (R1 R2 R4 RE : Int) (R3 : Bool) (w : World) (G : GT w) => cnext_core y (cN (lp y) j) d (kb y) (kk y) (mlen (kk y) (lp y) j) ((j : Int) + 1) (mct (lp y) : Int) (cL (lp y) j) (lp y) R1 R2 R4 RE R3 w h.y0 h.y1 h.d0 (by omega) (by omega) (by omega)
    (fun W hW => hcheck_in y j d W (G.gr hW) h) (fun w => ctplace_in y j d w h.y0 h.y1 h.j1) (fun W hW => mdays_in (kb y) (kk y) (lp y) j W (G.gr hW) (by omega)) (fun W hW => by have := mcount_c (kb y) (kk y) (lp y) W (G.gr hW); rwa [nY] at this)
  by_cases a : d < mlen (kk y) (lp y) j
  · obtain ⟨h2, e2⟩ := hd_next_day h a
    exact .inl ⟨y, j, d + 1, h2, e2, fun w G => core _ _ _ _ _ w G (.inl ⟨a, rfl, rfl, rfl, rfl, rfl⟩)⟩
  · by_cases b : j + 1 < mct (lp y)
    · obtain ⟨h2, e2⟩ := hd_next_month h (by omega) b
      exact .inl ⟨y, j + 1, 1, h2, e2, fun w G => core _ _ _ _ _ w G (.inr (.inl ⟨by omega, by omega, rfl, fun w => by have := ctfirst_in y (kb y) (kk y) (lp y) (j + 1) w b; push_cast at this; exact this⟩))⟩
    · have e2 := hd_next_year h (by omega) (by omega)
      by_cases g : y < 9999
      · obtain ⟨h3, e3⟩ := HV_first (y := y + 1) (by have := h.y0; omega) (by omega)
        refine .inl ⟨y + 1, 0, 1, h3, by omega, fun w G => core _ _ _ _ _ w G (.inr (.inr (.inl ⟨by omega, by omega, g, rfl, fun w => ?_⟩)))⟩
        have := ctfirst_in (y + 1) (kb y) (kk y) (lp y) 0 w (by omega)
        rw [(cfirst_zero (lp y)).1, (cfirst_zero (lp y)).2] at this
        rw [(cfirst_zero (lp (y + 1))).1, (cfirst_zero (lp (y + 1))).2]
        exact this
      · refine .inr ⟨fun Y J D hv => ?_, fun w G => core _ _ _ _ _ w G (.inr (.inr (.inr ⟨by omega, by omega, by omega, rfl, rfl, rfl, rfl, rfl⟩)))⟩
        have := hd_range hv
        have e : y = 9999 := by omega
        subst e
        have t := fy_top
        have e2' : hd 9999 j d + 1 = fy 10000 := e2
        omega

theorem cahead_c (y : Int) (j : Nat) (d : Int) (h : HV y j d) : (∃ (Y : Int) (J : Nat) (D : Int), HV Y J D ∧ hd Y J D + 1 = hd y j d ∧ ∀ w, GT w → Calls Tryd.prog 13 #[.agg #[.int .i64 y, .int .i64 (cN (lp y) j), .bool (cL (lp y) j), .int .i64 d]] w fun e w' => e = .returned (.tuple #[.agg #[.int .i64 Y, .int .i64 (cN (lp Y) J), .bool (cL (lp Y) J), .int .i64 D], .int .i64 0]) ∧ Gr w w') ∨
    ((∀ Y J D, HV Y J D → hd Y J D + 1 ≠ hd y j d) ∧ ∀ w, GT w → Calls Tryd.prog 13 #[.agg #[.int .i64 y, .int .i64 (cN (lp y) j), .bool (cL (lp y) j), .int .i64 d]] w fun e w' => e = .returned (.tuple #[.agg #[.int .i64 0, .int .i64 0, .bool false, .int .i64 0], .int .i64 2]) ∧ Gr w w') := by
  have j1 := h.j1
  have hm := mct_le (lp y)
  have l := mlen_range (kk y) (lp y) j
  have nY := mN_year h.y0 h.y1
  have dd := h.d1
  have d0 := h.d0
  have y0 := h.y0
  have y1 := h.y1
  have core := fun (b' k' K L F1 F2 : Int) (l' F3 : Bool) (R1 R2 R4 RE : Int) (R3 : Bool) (w : World) (G : GT w) => cahead_core y (cN (lp y) j) d (kb y) (kk y) ((j : Int) + 1) b' k' K L F1 F2 (cL (lp y) j) (lp y) l' F3 R1 R2 R4 RE R3 w h.y0 h.y1 h.d0 (by omega) (by omega) (by omega)
    (fun W hW => hcheck_in y j d W (G.gr hW) h) (fun w => ctplace_in y j d w h.y0 h.y1 h.j1)
  by_cases a : 1 < d
  · have h2 : HV y j (d - 1) := ⟨h.y0, h.y1, h.j1, by omega, by omega⟩
    exact .inl ⟨y, j, d - 1, h2, by unfold hd; omega, fun w G => core 0 0 0 0 0 0 false false _ _ _ _ _ w G (.inl ⟨a, rfl, rfl, rfl, rfl, rfl⟩)⟩
  · obtain rfl : d = 1 := by omega
    cases j with
    | succ i =>
      have lr := mlen_range (kk y) (lp y) i
      have h2 : HV y i (mlen (kk y) (lp y) i) := ⟨h.y0, h.y1, by omega, by omega, by omega⟩
      have e2 := (hd_next_month h2 rfl (by omega)).2
      have q : (((i + 1 : Nat) : Int) + 1 - 1) = (i : Int) + 1 := by omega
      refine .inl ⟨y, i, _, h2, by omega, fun w G => core 0 0 0 _ _ _ false _ _ _ _ _ _ w G (.inr (.inl ⟨by omega, by omega, rfl, rfl, rfl, rfl, rfl, fun w => ?_, fun W hW => ?_⟩))⟩
      · rw [q]; exact ctfirst_in y (kb y) (kk y) (lp y) i w (by omega)
      · rw [q]; exact mdays_in (kb y) (kk y) (lp y) i W (G.gr hW) (by omega)
    | zero =>
      by_cases g : y = 1
      · refine .inr ⟨fun Y J D hv => ?_, fun w G => core 0 0 0 0 0 0 false false _ _ _ _ _ w G (.inr (.inr (.inr ⟨by omega, by omega, g, rfl, rfl, rfl, rfl, rfl⟩)))⟩
        have := hd_range hv
        subst g
        have t := fy_low
        have e := (HV_first (y := 1) (by omega) (by omega)).2
        omega
      · have hm2 := mct_le (lp (y - 1))
        obtain ⟨i, hi⟩ : ∃ i, mct (lp (y - 1)) = i + 1 := ⟨mct (lp (y - 1)) - 1, by omega⟩
        have lr := mlen_range (kk (y - 1)) (lp (y - 1)) i
        have nZ := mN_year (y := y - 1) (by omega) (by omega)
        have h2 : HV (y - 1) i (mlen (kk (y - 1)) (lp (y - 1)) i) := ⟨by omega, by omega, by omega, by omega, by omega⟩
        have e2 := hd_next_year h2 rfl (by omega)
        have e3 := (HV_first (y := y) (by omega) (by omega)).2
        rw [show y - 1 + 1 = y by omega] at e2
        refine .inl ⟨y - 1, i, _, h2, by omega, fun w G => core (kb (y - 1)) (kk (y - 1)) ((i : Int) + 1) _ _ _ (lp (y - 1)) _ _ _ _ _ _ w G (.inr (.inr (.inl ⟨by omega, by omega, g, rfl, rfl, rfl, rfl, rfl, fun w => kof_in (y - 1) w (by omega) (by omega), fun W hW => ?_, fun w => ctfirst_in (y - 1) (kb (y - 1)) (kk (y - 1)) (lp (y - 1)) i w (by omega), fun W hW => mdays_in (kb (y - 1)) (kk (y - 1)) (lp (y - 1)) i W (G.gr hW) (by omega)⟩)))⟩
        have := mcount_c (kb (y - 1)) (kk (y - 1)) (lp (y - 1)) W (G.gr hW)
        rw [nZ, hi] at this
        push_cast at this
        exact this

end Go.Proofs.YtbalbkkimlbecaaDoor.Walks
