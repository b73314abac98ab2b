/- count.Steps, where it tells an error; count.Between. -/
import Derived.Test.YtbalbkkimlbecaaDoorCountSteps
set_option linter.unusedVariables false
set_option linter.unusedSimpArgs false
namespace Go.Proofs.YtbalbkkimlbecaaDoor.Walks
open Go Go.RowKit Go.Sort Go.Proofs.YtbalbkkimlbecaaDoor.Base Go.Proofs.YtbalbkkimlbecaaDoor.Plain Go.Proofs.YtbalbkkimlbecaaDoor.Math
attribute [local go_sem] Oper.semAt_some

set_option maxHeartbeats 4000000 in
theorem steps_e (y n d q E : Int) (c : Bool) (w : World) (hE : E ≠ 0)
    (c1 : ∀ W, Gr w W → Calls Tryd.prog 37 #[.agg #[.int .i64 y, .int .i64 n, .bool c, .int .i64 d]] W fun e w' => e = .returned (.int .i64 E) ∧ Gr W w') :
    Calls Tryd.prog 18 #[.agg #[.int .i64 y, .int .i64 n, .bool c, .int .i64 d], .int .i64 q] w fun e w' => e = .returned (.tuple #[.agg #[.int .i64 0, .int .i64 0, .bool false, .int .i64 0], .int .i64 E]) ∧ Gr w w' := by
  have C1 := Lib.hid c1
  have q1 : (E == 0) = false := beq_eq_false_iff_ne.2 hE
  have q2 : (E != 0) = true := by simp [bne_iff_ne, hE]
  clear c1
  refine (callsIn_wide (n := 10)).1 (callsIn_of_wp_marks Tryd.func18 rfl trivial (wpIn_wide.2 ?_) rfl)
  simp only [Tryd.ntmps18, List.size_toArray, List.length_cons, List.length_nil, Nat.reduceAdd, Nat.reduceSub, Array.replicate_succ, Array.replicate_zero, List.push_toArray, List.append_toArray, List.nil_append, List.cons_append]
  go_wp2_with (first | ((go_at_call 37; (with_reducible refine (C1.out _ ((by repeat (first | exact Gr.refl _ | refine Gr.setCell ?_ _ _ (by first | exact Nat.le_refl _ | (simp; omega) | (simp; done)) | refine Gr.grown ?_ _ _ | refine Gr.drewN ?_ _ | refine Gr.drew ?_ | refine Gr.alloc ?_ _ | refine Gr.grow ?_ _ | (refine Gr.trans ?_ (by assumption)))))).mono ?_); rintro e wA ⟨rfl, hgwA⟩); have SA := (SBx.new w y n d q c).1.gr hgwA; have P := SA.put rfl 0 0 0 E false; obtain ⟨lr, r0, r1, r2, r3, x0, x1, x2, x3⟩ := SA.r; have y0 := SA.e0; have y1 := SA.ef; have y2 := SA.lt; clear hgwA))
  clear lr r0 r1 r2 r3 x0 x1 x2 x3 y0 y1 y2
  obtain ⟨lr, r0, r1, r2, r3, x0, x1, x2, x3⟩ := P.r
  have y0 := P.e0
  exact leave0 (v := .tuple #[.agg #[.int .i64 0, .int .i64 0, .bool false, .int .i64 0], .int .i64 E]) (by simp [results, Tryd.results18, go_sem, r0, r1, r2, r3, y0]) ⟨rfl, P.g⟩
set_option maxHeartbeats 4000000 in
theorem steps_q (y n d q : Int) (c : Bool) (w : World) (hq : q < -3000 ∨ 3000 < q)
    (c1 : ∀ W, Gr w W → Calls Tryd.prog 37 #[.agg #[.int .i64 y, .int .i64 n, .bool c, .int .i64 d]] W fun e w' => e = .returned (.int .i64 0) ∧ Gr W w') :
    Calls Tryd.prog 18 #[.agg #[.int .i64 y, .int .i64 n, .bool c, .int .i64 d], .int .i64 q] w fun e w' => e = .returned (.tuple #[.agg #[.int .i64 0, .int .i64 0, .bool false, .int .i64 0], .int .i64 1]) ∧ Gr w w' := by
  have C1 := Lib.hid c1
  clear c1
  refine (callsIn_wide (n := 10)).1 (callsIn_of_wp_marks Tryd.func18 rfl trivial (wpIn_wide.2 ?_) rfl)
  simp only [Tryd.ntmps18, List.size_toArray, List.length_cons, List.length_nil, Nat.reduceAdd, Nat.reduceSub, Array.replicate_succ, Array.replicate_zero, List.push_toArray, List.append_toArray, List.nil_append, List.cons_append]
  by_cases a : q < -3000
  · go_wp2_with (first | ((go_at_call 37; (with_reducible refine (C1.out _ ((by repeat (first | exact Gr.refl _ | refine Gr.setCell ?_ _ _ (by first | exact Nat.le_refl _ | (simp; omega) | (simp; done)) | refine Gr.grown ?_ _ _ | refine Gr.drewN ?_ _ | refine Gr.drew ?_ | refine Gr.alloc ?_ _ | refine Gr.grow ?_ _ | (refine Gr.trans ?_ (by assumption)))))).mono ?_); rintro e wA ⟨rfl, hgwA⟩); have SA := (SBx.new w y n d q c).1.gr hgwA; have P := SA.put rfl 0 0 0 1 false; obtain ⟨lr, r0, r1, r2, r3, x0, x1, x2, x3⟩ := SA.r; have n0 := SA.n0; have y0 := SA.e0; have y1 := SA.ef; have y2 := SA.lt; clear hgwA))
    clear lr r0 r1 r2 r3 x0 x1 x2 x3 y0 y1 y2
    obtain ⟨lr, r0, r1, r2, r3, x0, x1, x2, x3⟩ := P.r
    have y0 := P.e0
    exact leave0 (v := .tuple #[.agg #[.int .i64 0, .int .i64 0, .bool false, .int .i64 0], .int .i64 1]) (by simp [results, Tryd.results18, go_sem, r0, r1, r2, r3, y0]) ⟨rfl, P.g⟩
  · have b : 3000 < q := by omega
    go_wp2_with (first | ((go_at_call 37; (with_reducible refine (C1.out _ ((by repeat (first | exact Gr.refl _ | refine Gr.setCell ?_ _ _ (by first | exact Nat.le_refl _ | (simp; omega) | (simp; done)) | refine Gr.grown ?_ _ _ | refine Gr.drewN ?_ _ | refine Gr.drew ?_ | refine Gr.alloc ?_ _ | refine Gr.grow ?_ _ | (refine Gr.trans ?_ (by assumption)))))).mono ?_); rintro e wA ⟨rfl, hgwA⟩); have SA := (SBx.new w y n d q c).1.gr hgwA; have P := SA.put rfl 0 0 0 1 false; obtain ⟨lr, r0, r1, r2, r3, x0, x1, x2, x3⟩ := SA.r; have n0 := SA.n0; have y0 := SA.e0; have y1 := SA.ef; have y2 := SA.lt; clear hgwA))
    clear lr r0 r1 r2 r3 x0 x1 x2 x3 y0 y1 y2
    obtain ⟨lr, r0, r1, r2, r3, x0, x1, x2, x3⟩ := P.r
    have y0 := P.e0
    exact leave0 (v := .tuple #[.agg #[.int .i64 0, .int .i64 0, .bool false, .int .i64 0], .int .i64 1]) (by simp [results, Tryd.results18, go_sem, r0, r1, r2, r3, y0]) ⟨rfl, P.g⟩

/-- What so many steps lead to. -/
def stE (a q : Int) : Int := if q < -3000 ∨ 3000 < q then 1 else if -1373427 ≤ a + q ∧ a + q ≤ 2278650 then 0 else 2
/-- Steps of a date: the date of the day so many days away. -/
theorem steps_in {y : Int} {j : Nat} {d : Int} (h : HV y j d) (q : Int) : ∃ (R1 R2 R4 : Int) (R3 : Bool),
    ((stE (hd y j d) q = 0 ∧ ∃ J, HV R1 J R4 ∧ hd R1 J R4 = hd y j d + q ∧ R2 = cN (lp R1) J ∧ R3 = cL (lp R1) J) ∨ (stE (hd y j d) q ≠ 0 ∧ R1 = 0 ∧ R2 = 0 ∧ R3 = false ∧ R4 = 0)) ∧
    ∀ w, GT w → Calls Tryd.prog 18 #[.agg #[.int .i64 y, .int .i64 (cN (lp y) j), .bool (cL (lp y) j), .int .i64 d], .int .i64 q] w fun e w' => e = .returned (.tuple #[.agg #[.int .i64 R1, .int .i64 R2, .bool R3, .int .i64 R4], .int .i64 (stE (hd y j d) q)]) ∧ Gr w w' := by
  have r := hd_range h
  by_cases a : q < -3000 ∨ 3000 < q
  · have e : stE (hd y j d) q = 1 := by unfold stE; rw [if_pos a]
    rw [e]
    exact ⟨0, 0, 0, false, .inr ⟨by decide, rfl, rfl, rfl, rfl⟩, fun w G => steps_q _ _ _ _ _ w a fun W hW => hcheck_in y j d W (G.gr hW) h⟩
  · by_cases b : 0 ≤ q
    · obtain ⟨Y, N, D, C, hD⟩ := days_of (2278650 - hd y j d).toNat (fun k => hd y j d + (k : Int)) (fun k hk => by omega)
      obtain ⟨J0, v0, x1, x2, x3⟩ := hD.at' 0 (by omega)
      obtain ⟨z1, z2, z3⟩ := hd_inj v0 h (by rw [x1]; simp)
      rw [z1, z2] at x2 x3
      have hM : (((2278650 - hd y j d).toNat : Nat) : Int) ≤ 4000000 := by omega
      have st := fun R1 R2 R4 RE R3 w (G : GT w) => steps_up y _ d q _ _ Y N D C w G hM b (by omega) z1 x2 x3 z3 (dates_up (a := hd y j d) (by omega) hD) R1 R2 R4 RE R3 (fun W hW => hcheck_in y j d W (G.gr hW) h)
      by_cases c : hd y j d + q ≤ 2278650
      · have e : stE (hd y j d) q = 0 := by unfold stE; rw [if_neg a, if_pos (by omega)]
        rw [e]
        obtain ⟨J, v, u1, u2, u3⟩ := hD.at' q.toNat (by omega)
        exact ⟨_, _, _, _, .inl ⟨rfl, J, v, by rw [u1]; omega, u2, u3⟩, fun w G => st _ _ _ _ _ w G (.inl ⟨by omega, rfl, rfl, rfl, rfl, rfl⟩)⟩
      · have e : stE (hd y j d) q = 2 := by unfold stE; rw [if_neg a, if_neg (by omega)]
        rw [e]
        exact ⟨0, 0, 0, false, .inr ⟨by decide, rfl, rfl, rfl, rfl⟩, fun w G => st _ _ _ _ _ w G (.inr ⟨by omega, rfl, rfl, rfl, rfl, rfl⟩)⟩
    · obtain ⟨Y, N, D, C, hD⟩ := days_of (hd y j d + 1373427).toNat (fun k => hd y j d - (k : Int)) (fun k hk => by omega)
      obtain ⟨J0, v0, x1, x2, x3⟩ := hD.at' 0 (by omega)
      obtain ⟨z1, z2, z3⟩ := hd_inj v0 h (by rw [x1]; simp)
      rw [z1, z2] at x2 x3
      have hM : (((hd y j d + 1373427).toNat : Nat) : Int) ≤ 4000000 := by omega
      have st := fun R1 R2 R4 RE R3 w (G : GT w) => steps_down y _ d q (-q) _ _ Y N D C w G hM (by omega) (by omega) rfl z1 x2 x3 z3 (dates_down (a := hd y j d) (by omega) hD) R1 R2 R4 RE R3 (fun W hW => hcheck_in y j d W (G.gr hW) h)
      by_cases c : -1373427 ≤ hd y j d + q
      · have e : stE (hd y j d) q = 0 := by unfold stE; rw [if_neg a, if_pos (by omega)]
        rw [e]
        obtain ⟨J, v, u1, u2, u3⟩ := hD.at' (-q).toNat (by omega)
        exact ⟨_, _, _, _, .inl ⟨rfl, J, v, by rw [u1]; omega, u2, u3⟩, fun w G => st _ _ _ _ _ w G (.inl ⟨by omega, rfl, rfl, rfl, rfl, rfl⟩)⟩
      · have e : stE (hd y j d) q = 2 := by unfold stE; rw [if_neg a, if_neg (by omega)]
        rw [e]
        exact ⟨0, 0, 0, false, .inr ⟨by decide, rfl, rfl, rfl, rfl⟩, fun w G => st _ _ _ _ _ w G (.inr ⟨by omega, rfl, rfl, rfl, rfl, rfl⟩)⟩

end Go.Proofs.YtbalbkkimlbecaaDoor.Walks
