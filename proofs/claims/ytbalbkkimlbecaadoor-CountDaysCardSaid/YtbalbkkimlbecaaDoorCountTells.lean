/- The dates behind and ahead of any date, any steps away, and how many days any date is behind another one, are the document's: the walk of the law; every input. -/
import Derived.Test.YtbalbkkimlbecaaDoorCountBt3
import Derived.Test.YtbalbkkimlbecaaDoorCountBack
set_option linter.unusedVariables false
set_option linter.unusedSimpArgs false
namespace Go.Proofs.YtbalbkkimlbecaaDoor.Walks
open Go Go.RowKit Go.Sort Go.Proofs.YtbalbkkimlbecaaDoor.Base Go.Proofs.YtbalbkkimlbecaaDoor.Plain Go.Proofs.YtbalbkkimlbecaaDoor.Math

theorem cnext_both (y n d : Int) (c : Bool) : ∃ (R1 R2 R4 E : Int) (R3 : Bool), (∀ w, GT w → Calls Tryd.prog 12 #[.agg #[.int .i64 y, .int .i64 n, .bool c, .int .i64 d]] w fun e w' => e = .returned (.tuple #[.agg #[.int .i64 R1, .int .i64 R2, .bool R3, .int .i64 R4], .int .i64 E]) ∧ Gr w w') ∧
    (∀ w, Calls Tryd.prog 16 #[.agg #[.int .i64 y, .int .i64 n, .bool c, .int .i64 d]] w fun e w' => e = .returned (.tuple #[.agg #[.int .i64 R1, .int .i64 R2, .bool R3, .int .i64 R4], .int .i64 E]) ∧ Gr w w') := by
  by_cases h : ∃ j, n = cN (lp y) j ∧ c = cL (lp y) j ∧ HV y j d
  · obtain ⟨j, rfl, rfl, hv⟩ := h
    rcases cnext_c y j d hv with ⟨Y, J, D, x1, x2, x3⟩ | ⟨x1, x2⟩
    · rcases r27next_c y j d hv with ⟨Y', J', D', u1, u2, u3⟩ | ⟨u1, u2⟩
      · obtain ⟨rfl, rfl, rfl⟩ := hd_inj x1 u1 (by omega)
        exact ⟨_, _, _, _, _, x3, u3⟩
      · have := hd_range x1; omega
    · rcases r27next_c y j d hv with ⟨Y', J', D', u1, u2, u3⟩ | ⟨u1, u2⟩
      · exact absurd u2 (x1 _ _ _ u1)
      · exact ⟨_, _, _, _, _, x2, u2⟩
  · obtain ⟨E, e0, e1, c1, c2⟩ := cdate_bad y n c d h
    exact ⟨_, _, _, _, _, fun w G => cnext_e y n d E c w (by omega) fun W hW => c1 W (G.gr hW), fun w => r27next_e y n d E c w (by omega) c2⟩
theorem cahead_both (y n d : Int) (c : Bool) : ∃ (R1 R2 R4 E : Int) (R3 : Bool), (∀ w, GT w → Calls Tryd.prog 13 #[.agg #[.int .i64 y, .int .i64 n, .bool c, .int .i64 d]] w fun e w' => e = .returned (.tuple #[.agg #[.int .i64 R1, .int .i64 R2, .bool R3, .int .i64 R4], .int .i64 E]) ∧ Gr w w') ∧
    (∀ w, Calls Tryd.prog 17 #[.agg #[.int .i64 y, .int .i64 n, .bool c, .int .i64 d]] w fun e w' => e = .returned (.tuple #[.agg #[.int .i64 R1, .int .i64 R2, .bool R3, .int .i64 R4], .int .i64 E]) ∧ Gr w w') := by
  by_cases h : ∃ j, n = cN (lp y) j ∧ c = cL (lp y) j ∧ HV y j d
  · obtain ⟨j, rfl, rfl, hv⟩ := h
    rcases cahead_c y j d hv with ⟨Y, J, D, x1, x2, x3⟩ | ⟨x1, x2⟩
    · rcases r27ahead_c y j d hv with ⟨Y', J', D', u1, u2, u3⟩ | ⟨u1, u2⟩
      · obtain ⟨rfl, rfl, rfl⟩ := hd_inj x1 u1 (by omega)
        exact ⟨_, _, _, _, _, x3, u3⟩
      · have := hd_range x1; omega
    · rcases r27ahead_c y j d hv with ⟨Y', J', D', u1, u2, u3⟩ | ⟨u1, u2⟩
      · exact absurd u2 (x1 _ _ _ u1)
      · exact ⟨_, _, _, _, _, x2, u2⟩
  · obtain ⟨E, e0, e1, c1, c2⟩ := cdate_bad y n c d h
    exact ⟨_, _, _, _, _, fun w G => cahead_e y n d E c w (by omega) fun W hW => c1 W (G.gr hW), fun w => r27ahead_e y n d E c w (by omega) c2⟩
theorem r27steps_in {y : Int} {j : Nat} {d : Int} (h : HV y j d) (q : Int) : ∃ (R1 R2 R4 : Int) (R3 : Bool),
    ((stE (hd y j d) q = 0 ∧ ∃ J, HV R1 J R4 ∧ hd R1 J R4 = hd y j d + q ∧ R2 = cN (lp R1) J ∧ R3 = cL (lp R1) J) ∨ (stE (hd y j d) q ≠ 0 ∧ R1 = 0 ∧ R2 = 0 ∧ R3 = false ∧ R4 = 0)) ∧
    ∀ w, Calls Tryd.prog 19 #[.agg #[.int .i64 y, .int .i64 (cN (lp y) j), .bool (cL (lp y) j), .int .i64 d], .int .i64 q] w fun e w' => e = .returned (.tuple #[.agg #[.int .i64 R1, .int .i64 R2, .bool R3, .int .i64 R4], .int .i64 (stE (hd y j d) q)]) ∧ Gr w w' := by
  have r := hd_range h
  by_cases a : q < -3000 ∨ 3000 < q
  · have e : stE (hd y j d) q = 1 := by unfold stE; rw [if_pos a]
    rw [e]
    exact ⟨0, 0, 0, false, .inr ⟨by decide, rfl, rfl, rfl, rfl⟩, fun w => r27steps_q _ _ _ _ _ w a fun W => r10check_in y j d W h⟩
  · by_cases b : 0 ≤ q
    · obtain ⟨Y, N, D, C, hD⟩ := days_of (2278650 - hd y j d).toNat (fun k => hd y j d + (k : Int)) (fun k hk => by omega)
      obtain ⟨J0, v0, x1, x2, x3⟩ := hD.at' 0 (by omega)
      obtain ⟨z1, z2, z3⟩ := hd_inj v0 h (by rw [x1]; simp)
      rw [z1, z2] at x2 x3
      have hM : (((2278650 - hd y j d).toNat : Nat) : Int) ≤ 4000000 := by omega
      have st := fun R1 R2 R4 RE R3 w => r27steps_up y _ d q q _ _ Y N D C w hM b (by omega) rfl z1 x2 x3 z3 (rdates_up (a := hd y j d) (by omega) hD) R1 R2 R4 RE R3 (fun W => r10check_in y j d W h)
      by_cases c : hd y j d + q ≤ 2278650
      · have e : stE (hd y j d) q = 0 := by unfold stE; rw [if_neg a, if_pos (by omega)]
        rw [e]
        obtain ⟨J, v, u1, u2, u3⟩ := hD.at' q.toNat (by omega)
        exact ⟨_, _, _, _, .inl ⟨rfl, J, v, by rw [u1]; omega, u2, u3⟩, fun w => st _ _ _ _ _ w (.inl ⟨by omega, rfl, rfl, rfl, rfl, rfl⟩)⟩
      · have e : stE (hd y j d) q = 2 := by unfold stE; rw [if_neg a, if_neg (by omega)]
        rw [e]
        exact ⟨0, 0, 0, false, .inr ⟨by decide, rfl, rfl, rfl, rfl⟩, fun w => st _ _ _ _ _ w (.inr ⟨by omega, rfl, rfl, rfl, rfl, rfl⟩)⟩
    · obtain ⟨Y, N, D, C, hD⟩ := days_of (hd y j d + 1373427).toNat (fun k => hd y j d - (k : Int)) (fun k hk => by omega)
      obtain ⟨J0, v0, x1, x2, x3⟩ := hD.at' 0 (by omega)
      obtain ⟨z1, z2, z3⟩ := hd_inj v0 h (by rw [x1]; simp)
      rw [z1, z2] at x2 x3
      have hM : (((hd y j d + 1373427).toNat : Nat) : Int) ≤ 4000000 := by omega
      have st := fun R1 R2 R4 RE R3 w => r27steps_down y _ d q (-q) _ _ Y N D C w hM (by omega) (by omega) rfl z1 x2 x3 z3 (rdates_down (a := hd y j d) (by omega) hD) R1 R2 R4 RE R3 (fun W => r10check_in y j d W h)
      by_cases c : -1373427 ≤ hd y j d + q
      · have e : stE (hd y j d) q = 0 := by unfold stE; rw [if_neg a, if_pos (by omega)]
        rw [e]
        obtain ⟨J, v, u1, u2, u3⟩ := hD.at' (-q).toNat (by omega)
        exact ⟨_, _, _, _, .inl ⟨rfl, J, v, by rw [u1]; omega, u2, u3⟩, fun w => st _ _ _ _ _ w (.inl ⟨by omega, rfl, rfl, rfl, rfl, rfl⟩)⟩
      · have e : stE (hd y j d) q = 2 := by unfold stE; rw [if_neg a, if_neg (by omega)]
        rw [e]
        exact ⟨0, 0, 0, false, .inr ⟨by decide, rfl, rfl, rfl, rfl⟩, fun w => st _ _ _ _ _ w (.inr ⟨by omega, rfl, rfl, rfl, rfl, rfl⟩)⟩
theorem csteps_both (y n d q : Int) (c : Bool) : ∃ (R1 R2 R4 E : Int) (R3 : Bool), (∀ w, GT w → Calls Tryd.prog 18 #[.agg #[.int .i64 y, .int .i64 n, .bool c, .int .i64 d], .int .i64 q] w fun e w' => e = .returned (.tuple #[.agg #[.int .i64 R1, .int .i64 R2, .bool R3, .int .i64 R4], .int .i64 E]) ∧ Gr w w') ∧
    (∀ w, Calls Tryd.prog 19 #[.agg #[.int .i64 y, .int .i64 n, .bool c, .int .i64 d], .int .i64 q] w fun e w' => e = .returned (.tuple #[.agg #[.int .i64 R1, .int .i64 R2, .bool R3, .int .i64 R4], .int .i64 E]) ∧ Gr w w') := by
  by_cases h : ∃ j, n = cN (lp y) j ∧ c = cL (lp y) j ∧ HV y j d
  · obtain ⟨j, rfl, rfl, hv⟩ := h
    obtain ⟨R1, R2, R4, R3, hr, c1⟩ := steps_in hv q
    obtain ⟨S1, S2, S4, S3, hs, c2⟩ := r27steps_in hv q
    have : R1 = S1 ∧ R2 = S2 ∧ R3 = S3 ∧ R4 = S4 := by
      rcases hr with ⟨a, J, b1, b2, b3, b4⟩ | ⟨a, b1, b2, b3, b4⟩
      · rcases hs with ⟨-, J', f1, f2, f3, f4⟩ | ⟨f, -⟩
        · obtain ⟨rfl, rfl, rfl⟩ := hd_inj b1 f1 (by omega)
          exact ⟨rfl, by rw [b3, f3], by rw [b4, f4], rfl⟩
        · exact absurd a f
      · rcases hs with ⟨f, -⟩ | ⟨-, f1, f2, f3, f4⟩
        · exact absurd f a
        · exact ⟨by rw [b1, f1], by rw [b2, f2], by rw [b3, f3], by rw [b4, f4]⟩
    obtain ⟨rfl, rfl, rfl, rfl⟩ := this
    exact ⟨_, _, _, _, _, c1, c2⟩
  · obtain ⟨E, e0, e1, c1, c2⟩ := cdate_bad y n c d h
    exact ⟨_, _, _, _, _, fun w G => steps_e y n d q E c w (by omega) fun W hW => c1 W (G.gr hW), fun w => r27steps_e y n d q E c w (by omega) c2⟩
/-- Between, of dates that may be. -/
theorem between_in {y : Int} {j : Nat} {d y' : Int} {j' : Nat} {d' : Int} (h : HV y j d) (h' : HV y' j' d') (q : Int) (hq : 0 ≤ q ∧ q ≤ 3000) :
    (∀ w, GT w → Calls Tryd.prog 20 #[.agg #[.int .i64 y, .int .i64 (cN (lp y) j), .bool (cL (lp y) j), .int .i64 d], .agg #[.int .i64 y', .int .i64 (cN (lp y') j'), .bool (cL (lp y') j'), .int .i64 d'], .int .i64 q] w fun e w' => e = .returned (.tuple #[.int .i64 (btN (hd y' j' d' - hd y j d) q), .int .i64 (btE (hd y' j' d' - hd y j d) q)]) ∧ Gr w w') ∧
    (∀ w, Calls Tryd.prog 21 #[.agg #[.int .i64 y, .int .i64 (cN (lp y) j), .bool (cL (lp y) j), .int .i64 d], .agg #[.int .i64 y', .int .i64 (cN (lp y') j'), .bool (cL (lp y') j'), .int .i64 d'], .int .i64 q] w fun e w' => e = .returned (.tuple #[.int .i64 (btN (hd y' j' d' - hd y j d) q), .int .i64 (btE (hd y' j' d' - hd y j d) q)]) ∧ Gr w w') := by
  have r := hd_range h
  have r' := hd_range h'
  obtain ⟨Y, N, D, C, hD⟩ := days_of (2278650 - hd y j d).toNat (fun k => hd y j d + (k : Int)) (fun k hk => by omega)
  obtain ⟨J0, v0, x1, x2, x3⟩ := hD.at' 0 (by omega)
  obtain ⟨z1, z2, z3⟩ := hd_inj v0 h (by rw [x1]; simp)
  rw [z1, z2] at x2 x3
  have hM : (((2278650 - hd y j d).toNat : Nat) : Int) ≤ 4000000 := by omega
  have hx := meets_of (x := hd y' j' d' - hd y j d) hD h' (fun k hk => by omega)
  exact ⟨fun w G => between_c y _ d y' _ d' q _ _ _ _ Y N D C w G hM hq.1 hq.2 z1 x2 x3 z3 (dates_up (a := hd y j d) (by omega) hD) hx (by omega) (fun W hW => hcheck_in y j d W (G.gr hW) h) (fun W hW => hcheck_in y' j' d' W (G.gr hW) h'),
    fun w => r27between_c y _ d y' _ d' q _ _ _ _ Y N D C w hM hq.1 hq.2 z1 x2 x3 z3 (rdates_up (a := hd y j d) (by omega) hD) hx (by omega) (fun W => r10check_in y j d W h) (fun W => r10check_in y' j' d' W h')⟩
theorem cbetween_both (y n d y' n' d' q : Int) (c c' : Bool) : ∃ (X E : Int), (∀ w, GT w → Calls Tryd.prog 20 #[.agg #[.int .i64 y, .int .i64 n, .bool c, .int .i64 d], .agg #[.int .i64 y', .int .i64 n', .bool c', .int .i64 d'], .int .i64 q] w fun e w' => e = .returned (.tuple #[.int .i64 X, .int .i64 E]) ∧ Gr w w') ∧
    (∀ w, Calls Tryd.prog 21 #[.agg #[.int .i64 y, .int .i64 n, .bool c, .int .i64 d], .agg #[.int .i64 y', .int .i64 n', .bool c', .int .i64 d'], .int .i64 q] w fun e w' => e = .returned (.tuple #[.int .i64 X, .int .i64 E]) ∧ Gr w w') := by
  by_cases h : ∃ j, n = cN (lp y) j ∧ c = cL (lp y) j ∧ HV y j d
  · obtain ⟨j, rfl, rfl, hv⟩ := h
    by_cases h' : ∃ j, n' = cN (lp y') j ∧ c' = cL (lp y') j ∧ HV y' j d'
    · obtain ⟨j', rfl, rfl, hv'⟩ := h'
      by_cases hq : 0 ≤ q ∧ q ≤ 3000
      · exact ⟨_, _, (between_in hv hv' q hq).1, (between_in hv hv' q hq).2⟩
      · exact ⟨_, _, fun w G => between_q _ _ _ _ _ _ _ _ _ w (by omega) (fun W hW => hcheck_in y j d W (G.gr hW) hv) (fun W hW => hcheck_in y' j' d' W (G.gr hW) hv'), fun w => r27between_q _ _ _ _ _ _ _ _ _ w (by omega) (fun W => r10check_in y j d W hv) (fun W => r10check_in y' j' d' W hv')⟩
    · obtain ⟨E, e0, e1, c1, c2⟩ := cdate_bad y' n' c' d' h'
      refine ⟨0, E, fun w G => ?_, fun w => r27between_eb _ _ _ _ _ _ _ E _ _ w (by omega) (fun W => r10check_in y j d W hv) c2⟩
      have := between_e y _ d y' n' d' q 0 E _ c' w (.inr ⟨rfl, by omega⟩) (fun W hW => hcheck_in y j d W (G.gr hW) hv) (fun W hW => c1 W (G.gr hW))
      rwa [if_pos rfl] at this
  · obtain ⟨E, e0, e1, c1, c2⟩ := cdate_bad y n c d h
    obtain ⟨F, f1⟩ : ∃ F, ∀ w, GT w → Calls Tryd.prog 37 #[.agg #[.int .i64 y', .int .i64 n', .bool c', .int .i64 d']] w fun e w' => e = .returned (.int .i64 F) ∧ Gr w w' := by
      by_cases h' : ∃ j, n' = cN (lp y') j ∧ c' = cL (lp y') j ∧ HV y' j d'
      · obtain ⟨j', rfl, rfl, hv'⟩ := h'
        exact ⟨0, fun w G => hcheck_in y' j' d' w G hv'⟩
      · obtain ⟨E', -, -, c1', -⟩ := cdate_bad y' n' c' d' h'
        exact ⟨E', c1'⟩
    refine ⟨0, E, fun w G => ?_, fun w => r27between_ea _ _ _ _ _ _ _ E _ _ w (by omega) c2⟩
    have := between_e y n d y' n' d' q E F c c' w (.inl (by omega)) (fun W hW => c1 W (G.gr hW)) (fun W hW => f1 W (G.gr hW))
    rwa [if_neg (by omega)] at this

set_option maxRecDepth 20000 in
set_option maxHeartbeats 16000000 in
theorem tells_core (y n d y' n' d' q N1 N2 N4 E1 A1 A2 A4 E2 S1 S2 S4 E3 X E4 : Int) (c c' N3 A3 S3 : Bool) (w : World) (G : GT w)
    (c1 : ∀ W, Gr w W → Calls Tryd.prog 12 #[.agg #[.int .i64 y, .int .i64 n, .bool c, .int .i64 d]] W fun e w' => e = .returned (.tuple #[.agg #[.int .i64 N1, .int .i64 N2, .bool N3, .int .i64 N4], .int .i64 E1]) ∧ Gr W w')
    (c2 : ∀ W, Calls Tryd.prog 16 #[.agg #[.int .i64 y, .int .i64 n, .bool c, .int .i64 d]] W fun e w' => e = .returned (.tuple #[.agg #[.int .i64 N1, .int .i64 N2, .bool N3, .int .i64 N4], .int .i64 E1]) ∧ Gr W w')
    (c3 : ∀ W, Gr w W → Calls Tryd.prog 13 #[.agg #[.int .i64 y, .int .i64 n, .bool c, .int .i64 d]] W fun e w' => e = .returned (.tuple #[.agg #[.int .i64 A1, .int .i64 A2, .bool A3, .int .i64 A4], .int .i64 E2]) ∧ Gr W w')
    (c4 : ∀ W, Calls Tryd.prog 17 #[.agg #[.int .i64 y, .int .i64 n, .bool c, .int .i64 d]] W fun e w' => e = .returned (.tuple #[.agg #[.int .i64 A1, .int .i64 A2, .bool A3, .int .i64 A4], .int .i64 E2]) ∧ Gr W w')
    (c5 : ∀ W, Gr w W → Calls Tryd.prog 18 #[.agg #[.int .i64 y, .int .i64 n, .bool c, .int .i64 d], .int .i64 q] W fun e w' => e = .returned (.tuple #[.agg #[.int .i64 S1, .int .i64 S2, .bool S3, .int .i64 S4], .int .i64 E3]) ∧ Gr W w')
    (c6 : ∀ W, Calls Tryd.prog 19 #[.agg #[.int .i64 y, .int .i64 n, .bool c, .int .i64 d], .int .i64 q] W fun e w' => e = .returned (.tuple #[.agg #[.int .i64 S1, .int .i64 S2, .bool S3, .int .i64 S4], .int .i64 E3]) ∧ Gr W w')
    (c7 : ∀ W, Gr w W → Calls Tryd.prog 20 #[.agg #[.int .i64 y, .int .i64 n, .bool c, .int .i64 d], .agg #[.int .i64 y', .int .i64 n', .bool c', .int .i64 d'], .int .i64 q] W fun e w' => e = .returned (.tuple #[.int .i64 X, .int .i64 E4]) ∧ Gr W w')
    (c8 : ∀ W, Calls Tryd.prog 21 #[.agg #[.int .i64 y, .int .i64 n, .bool c, .int .i64 d], .agg #[.int .i64 y', .int .i64 n', .bool c', .int .i64 d'], .int .i64 q] W fun e w' => e = .returned (.tuple #[.int .i64 X, .int .i64 E4]) ∧ Gr W w') :
    Calls Tryd.prog 4 #[.agg #[.int .i64 y, .int .i64 n, .bool c, .int .i64 d], .agg #[.int .i64 y', .int .i64 n', .bool c', .int .i64 d'], .int .i64 q] w fun e w' => e = .returned (.bool true) ∧ Gr w w' := by
  have C1 := Lib.hid c1
  have C2 := Lib.hid c2
  have C3 := Lib.hid c3
  have C4 := Lib.hid c4
  have C5 := Lib.hid c5
  have C6 := Lib.hid c6
  have C7 := Lib.hid c7
  have C8 := Lib.hid c8
  have C9 := Lib.hid fun W (hW : Gr w W) => awake27_c W (G.gr hW)
  clear c1 c2 c3 c4 c5 c6 c7 c8 G
  go_enter Tryd.func4, Tryd.ntmps4
  go_wp2_with (first |
    ((go_at_call 12; (with_reducible refine (C1.out _ ((by repeat (first | exact Gr.refl _ | refine Gr.setCell ?_ _ _ (by first | exact Nat.le_refl _ | (simp; omega) | (simp; done)) | refine Gr.grown ?_ _ _ | refine Gr.drewN ?_ _ | refine Gr.drew ?_ | refine Gr.alloc ?_ _ | refine Gr.grow ?_ _ | (refine Gr.trans ?_ (by assumption)))))).mono ?_); rintro e wA ⟨rfl, hgwA⟩); have DA := ((D4.at (w := w) rfl y n d c).gr ((Gr.refl _).alloc (.cells #[.int .i64 y', .int .i64 n', .bool c', .int .i64 d'] 25))).gr hgwA; have DB := (D4.at (w := w.alloc (.cells #[.int .i64 y, .int .i64 n, .bool c, .int .i64 d] 25)) (b := w.heap.size + 1) (by simp) y' n' d' c').gr hgwA; have GA : Gr w wA := (by repeat (first | exact Gr.refl _ | refine Gr.setCell ?_ _ _ (by first | exact Nat.le_refl _ | (simp; omega) | (simp; done)) | refine Gr.grown ?_ _ _ | refine Gr.drewN ?_ _ | refine Gr.drew ?_ | refine Gr.alloc ?_ _ | refine Gr.grow ?_ _ | (refine Gr.trans ?_ (by assumption)))); have nA := DA.lt; have nA1 := DB.lt; clear hgwA; have D2 := DA; obtain ⟨lt, c0, c1, c2, c3, z0, z1, z2, z3⟩ := D2) |
    ((go_at_call 16; (with_reducible refine (C2.out _).mono ?_); rintro e wB ⟨rfl, hgwB⟩); have g1 := ((Gr.refl wA).alloc _).trans hgwB; have DA := DA.gr g1; have DB := DB.gr g1; have P7 := (D4.at (w := wA) rfl N1 N2 N4 N3).gr hgwB; have GB := GA.trans g1; have nB := P7.lt; clear g1 hgwB GA lt c0 c1 c2 c3 z0 z1 z2 z3; have D2 := DA; obtain ⟨lt, c0, c1, c2, c3, z0, z1, z2, z3⟩ := D2) |
    ((go_at_call 13; (with_reducible refine (C3.out _ ((by repeat (first | exact Gr.refl _ | refine Gr.setCell ?_ _ _ (by first | exact Nat.le_refl _ | (simp; omega) | (simp; done)) | refine Gr.grown ?_ _ _ | refine Gr.drewN ?_ _ | refine Gr.drew ?_ | refine Gr.alloc ?_ _ | refine Gr.grow ?_ _ | (refine Gr.trans ?_ (by assumption)))))).mono ?_); rintro e wC ⟨rfl, hgwC⟩); have g1 := ((Gr.refl wB).alloc _).trans hgwC; have DA := DA.gr g1; have DB := DB.gr g1; have P7 := P7.gr g1; have P9 := (D4.at (w := wB) rfl N1 N2 N4 N3).gr hgwC; have GC := GB.trans g1; clear g1 hgwC GB lt c0 c1 c2 c3 z0 z1 z2 z3; have D2 := DA; obtain ⟨lt, c0, c1, c2, c3, z0, z1, z2, z3⟩ := D2) |
    ((go_at_call 17; (with_reducible refine (C4.out _).mono ?_); rintro e wD ⟨rfl, hgwD⟩); have g1 := ((Gr.refl wC).alloc _).trans hgwD; have DA := DA.gr g1; have DB := DB.gr g1; have P7 := P7.gr g1; have P9 := P9.gr g1; have P11 := (D4.at (w := wC) rfl A1 A2 A4 A3).gr hgwD; have GD := GC.trans g1; clear g1 hgwD GC lt c0 c1 c2 c3 z0 z1 z2 z3; have D2 := DA; obtain ⟨lt, c0, c1, c2, c3, z0, z1, z2, z3⟩ := D2; have L2 := P7; have L3 := P9; have L4 := P11; obtain ⟨l2, p0, p1, p2, p3, f0, f1, f2, f3⟩ := L2; obtain ⟨l3, t0, t1, t2, t3, h0, h1, h2, h3⟩ := L3; obtain ⟨l4, u0, u1, u2, u3, i0, i1, i2, i3⟩ := L4) |
    ((go_at_call 18; (with_reducible refine (C5.out _ ((by repeat (first | exact Gr.refl _ | refine Gr.setCell ?_ _ _ (by first | exact Nat.le_refl _ | (simp; omega) | (simp; done)) | refine Gr.grown ?_ _ _ | refine Gr.drewN ?_ _ | refine Gr.drew ?_ | refine Gr.alloc ?_ _ | refine Gr.grow ?_ _ | (refine Gr.trans ?_ (by assumption)))))).mono ?_); rintro e wE ⟨rfl, hgwE⟩); have g1 := ((Gr.refl wD).alloc _).trans hgwE; have DA := DA.gr g1; have DB := DB.gr g1; have P7 := P7.gr g1; have P9 := P9.gr g1; have GE := GD.trans g1; clear P11 g1 hgwE GD lt c0 c1 c2 c3 z0 z1 z2 z3 l2 p0 p1 p2 p3 f0 f1 f2 f3 l3 t0 t1 t2 t3 h0 h1 h2 h3 l4 u0 u1 u2 u3 i0 i1 i2 i3; have Vlt := DA; obtain ⟨lt, c0, c1, c2, c3, z0, z1, z2, z3⟩ := Vlt; have Vl2 := P7; obtain ⟨l2, p0, p1, p2, p3, f0, f1, f2, f3⟩ := Vl2) |
    ((go_at_call 19; (with_reducible refine (C6.out _).mono ?_); rintro e wF ⟨rfl, hgwF⟩); have DA := (DA.four (b' := wA.heap.size) (by omega) S1 S2 S4 S3).gr hgwF; have DB := (DB.four (b' := wA.heap.size) (by omega) S1 S2 S4 S3).gr hgwF; have P9 := (P9.four (b' := wA.heap.size) (by omega) S1 S2 S4 S3).gr hgwF; have P7 := (P7.put S1 S2 S4 S3).gr hgwF; have GF : Gr w wF := ((by repeat (first | exact Gr.refl _ | refine Gr.setCell ?_ _ _ (by first | exact Nat.le_refl _ | (simp; omega) | (simp; done)) | refine Gr.grown ?_ _ _ | refine Gr.drewN ?_ _ | refine Gr.drew ?_ | refine Gr.alloc ?_ _ | refine Gr.grow ?_ _ | (refine Gr.trans ?_ (by assumption))))); clear hgwF GE lt c0 c1 c2 c3 z0 z1 z2 z3 l2 p0 p1 p2 p3 f0 f1 f2 f3; have Vlt := DA; obtain ⟨lt, c0, c1, c2, c3, z0, z1, z2, z3⟩ := Vlt; have Vmt := DB; obtain ⟨mt, d0, d1, d2, d3, y0, y1, y2, y3⟩ := Vmt; have Vl3 := P9; obtain ⟨l3, t0, t1, t2, t3, h0, h1, h2, h3⟩ := Vl3) |
    ((go_at_call 20; (with_reducible refine (C7.out _ ((by repeat (first | exact Gr.refl _ | refine Gr.setCell ?_ _ _ (by first | exact Nat.le_refl _ | (simp; omega) | (simp; done)) | refine Gr.grown ?_ _ _ | refine Gr.drewN ?_ _ | refine Gr.drew ?_ | refine Gr.alloc ?_ _ | refine Gr.grow ?_ _ | (refine Gr.trans ?_ (by assumption)))))).mono ?_); rintro e wG ⟨rfl, hgwG⟩); have DA := (DA.four (b' := wB.heap.size) (by omega) S1 S2 S4 S3).gr hgwG; have DB := (DB.four (b' := wB.heap.size) (by omega) S1 S2 S4 S3).gr hgwG; have P7 := (P7.four (b' := wB.heap.size) (by omega) S1 S2 S4 S3).gr hgwG; have P9 := (P9.put S1 S2 S4 S3).gr hgwG; have GG : Gr w wG := ((by repeat (first | exact Gr.refl _ | refine Gr.setCell ?_ _ _ (by first | exact Nat.le_refl _ | (simp; omega) | (simp; done)) | refine Gr.grown ?_ _ _ | refine Gr.drewN ?_ _ | refine Gr.drew ?_ | refine Gr.alloc ?_ _ | refine Gr.grow ?_ _ | (refine Gr.trans ?_ (by assumption))))); clear hgwG GF lt c0 c1 c2 c3 z0 z1 z2 z3 mt d0 d1 d2 d3 y0 y1 y2 y3 l3 t0 t1 t2 t3 h0 h1 h2 h3; have Vlt := DA; obtain ⟨lt, c0, c1, c2, c3, z0, z1, z2, z3⟩ := Vlt; have Vmt := DB; obtain ⟨mt, d0, d1, d2, d3, y0, y1, y2, y3⟩ := Vmt) |
    ((go_at_call 21; (with_reducible refine (C8.out _).mono ?_); rintro e wH ⟨rfl, hgwH⟩); have P7 := P7.gr hgwH; have P9 := P9.gr hgwH; have GH := GG.trans hgwH; clear hgwH GG DA DB lt c0 c1 c2 c3 z0 z1 z2 z3 mt d0 d1 d2 d3 y0 y1 y2 y3) |
    ((go_at_call 15; (with_reducible refine (C9.out _ ((by repeat (first | exact Gr.refl _ | refine Gr.setCell ?_ _ _ (by first | exact Nat.le_refl _ | (simp; omega) | (simp; done)) | refine Gr.grown ?_ _ _ | refine Gr.drewN ?_ _ | refine Gr.drew ?_ | refine Gr.alloc ?_ _ | refine Gr.grow ?_ _ | (refine Gr.trans ?_ (by assumption)))))).mono ?_); rintro e wI ⟨rfl, hgwI⟩); have P7 := P7.gr hgwI; have P9 := P9.gr hgwI; have Vl2 := P7; obtain ⟨l2, p0, p1, p2, p3, f0, f1, f2, f3⟩ := Vl2; have Vl3 := P9; obtain ⟨l3, t0, t1, t2, t3, h0, h1, h2, h3⟩ := Vl3))
  go_ret
  exact ⟨rfl, (by repeat (first | exact Gr.refl _ | refine Gr.setCell ?_ _ _ (by first | exact Nat.le_refl _ | (simp; omega) | (simp; done)) | refine Gr.grown ?_ _ _ | refine Gr.drewN ?_ _ | refine Gr.drew ?_ | refine Gr.alloc ?_ _ | refine Gr.grow ?_ _ | (refine Gr.trans ?_ (by assumption))))⟩

theorem countTells_t (y n : Int) (c : Bool) (d y' n' : Int) (c' : Bool) (d' q : Int) (w : World) (G : GT w) :
    Calls Tryd.prog 4 #[.agg #[.int .i64 y, .int .i64 n, .bool c, .int .i64 d], .agg #[.int .i64 y', .int .i64 n', .bool c', .int .i64 d'], .int .i64 q] w fun e w' => e = .returned (.bool true) ∧ Gr w w' := by
  obtain ⟨N1, N2, N4, E1, N3, a1, a2⟩ := cnext_both y n d c
  obtain ⟨A1, A2, A4, E2, A3, a3, a4⟩ := cahead_both y n d c
  obtain ⟨S1, S2, S4, E3, S3, a5, a6⟩ := csteps_both y n d q c
  obtain ⟨X, E4, a7, a8⟩ := cbetween_both y n d y' n' d' q c c'
  exact tells_core y n d y' n' d' q _ _ _ _ _ _ _ _ _ _ _ _ _ _ _ _ _ _ _ w G (fun W hW => a1 W (G.gr hW)) a2 (fun W hW => a3 W (G.gr hW)) a4 (fun W hW => a5 W (G.gr hW)) a6 (fun W hW => a7 W (G.gr hW)) a8

end Go.Proofs.YtbalbkkimlbecaaDoor.Walks
