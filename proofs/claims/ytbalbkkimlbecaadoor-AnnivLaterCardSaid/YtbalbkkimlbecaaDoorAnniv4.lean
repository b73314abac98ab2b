/- Days of remembrance: both sides answer alike, for every date that may be; and what they tell of every other date. -/
import Derived.Test.YtbalbkkimlbecaaDoorAnniv3
set_option linter.unusedVariables false
set_option linter.unusedSimpArgs false
namespace Go.Proofs.YtbalbkkimlbecaaDoor.Walks
open Go Go.RowKit Go.Sort Go.Proofs.YtbalbkkimlbecaaDoor.Base Go.Proofs.YtbalbkkimlbecaaDoor.Plain Go.Proofs.YtbalbkkimlbecaaDoor.Math

theorem code_23 : ∀ l : Bool, (cN l 1 = 2 ∧ cL l 1 = false) ∧ (cN l 2 = 3 ∧ cL l 2 = false) := by decide
/-- What both tell a day of remembrance to be. -/
def DeathIs (y n : Int) (c : Bool) (d t : Int) : Prop := ∃ (R1 R2 R4 : Int) (R3 : Bool),
    (∀ w, GT w → Calls Tryd.prog 34 #[.agg #[.int .i64 y, .int .i64 n, .bool c, .int .i64 d], .int .i64 t] w fun e w' => e = .returned (.tuple #[.agg #[.int .i64 R1, .int .i64 R2, .bool R3, .int .i64 R4], .int .i64 0]) ∧ Gr w w') ∧
    (∀ w, Calls Tryd.prog 35 #[.agg #[.int .i64 y, .int .i64 n, .bool c, .int .i64 d], .int .i64 t] w fun e w' => e = .returned (.tuple #[.agg #[.int .i64 R1, .int .i64 R2, .bool R3, .int .i64 R4], .int .i64 0]) ∧ Gr w w')
theorem hlast_n {t : Int} (t0 : 1 ≤ t) (t1 : t ≤ 9999) (p : Nat) (n : Int) (c : Bool) (L : Int) (hp : p < mct (lp t)) (e1 : cN (lp t) p = n) (e2 : cL (lp t) p = c) (e3 : mlen (kk t) (lp t) p = L) :
    (∀ w, GT w → Calls Tryd.prog 97 #[.int .i64 t, .agg #[.int .i64 n, .bool c]] w fun e w' => e = .returned (.tuple #[.int .i64 L, .int .i64 0]) ∧ Gr w w') ∧
    (∀ w, Calls Tryd.prog 43 #[.int .i64 t, .agg #[.int .i64 n, .bool c]] w fun e w' => e = .returned (.tuple #[.int .i64 L, .int .i64 0]) ∧ Gr w w') := by
  subst e1 e2 e3
  exact ⟨fun w G => hlast_in t p w G t0 t1 hp, fun w => r10last_in t p w t0 t1 hp⟩

theorem death_23 {y n d t L M : Int} {S : Bool} (y0 : 1 ≤ y) (ht : y < t) (t1 : t ≤ 9999) (hn : n = 2 ∨ n = 3) (hL : 29 ≤ L ∧ L ≤ 30)
    (N R1 R2 R4 : Int) (C R3 : Bool) (d0 : 1 ≤ d)
    (k1 : ∀ w, GT w → Calls Tryd.prog 59 #[.agg #[.int .i64 y, .int .i64 n, .bool false, .int .i64 d], .int .i64 t] w fun e w' => e = .returned (.int .i64 0) ∧ Gr w w')
    (k2 : ∀ w, Calls Tryd.prog 62 #[.agg #[.int .i64 y, .int .i64 n, .bool false, .int .i64 d], .int .i64 t] w fun e w' => e = .returned (.int .i64 0) ∧ Gr w w')
    (l1 : ∀ w, GT w → Calls Tryd.prog 97 #[.int .i64 (y + 1), .agg #[.int .i64 n, .bool false]] w fun e w' => e = .returned (.tuple #[.int .i64 L, .int .i64 0]) ∧ Gr w w')
    (l2 : ∀ w, Calls Tryd.prog 43 #[.int .i64 (y + 1), .agg #[.int .i64 n, .bool false]] w fun e w' => e = .returned (.tuple #[.int .i64 L, .int .i64 0]) ∧ Gr w w')
    (m1 : ∀ w, GT w → Calls Tryd.prog 97 #[.int .i64 t, .agg #[.int .i64 n, .bool false]] w fun e w' => e = .returned (.tuple #[.int .i64 M, .int .i64 0]) ∧ Gr w w')
    (m2 : ∀ w, Calls Tryd.prog 43 #[.int .i64 t, .agg #[.int .i64 n, .bool false]] w fun e w' => e = .returned (.tuple #[.int .i64 M, .int .i64 0]) ∧ Gr w w')
    (b1 : ∀ w, GT w → Calls Tryd.prog 32 #[.agg #[.int .i64 y, .int .i64 n, .bool false, .int .i64 d], .int .i64 t] w fun e w' => e = .returned (.tuple #[.agg #[.int .i64 R1, .int .i64 R2, .bool R3, .int .i64 R4], .int .i64 0]) ∧ Gr w w')
    (i2 : ∀ w, Calls Tryd.prog 63 #[.int .i64 t, .agg #[.int .i64 n, .bool false], .int .i64 0] w fun e w' => e = .returned (.tuple #[.agg #[.int .i64 N, .bool C], .int .i64 0]) ∧ Gr w w')
    (o2 : ∀ w, Calls Tryd.prog 64 #[.int .i64 t, .agg #[.int .i64 N, .bool C], .int .i64 d] w fun e w' => e = .returned (.agg #[.int .i64 R1, .int .i64 R2, .bool R3, .int .i64 R4]) ∧ Gr w w') :
    DeathIs y n false d t := by
  have y1 : y ≤ 9999 := by omega
  have v := fun (w : World) (G : GT w) => anwanes_c y n d L false w y0 y1 fun _ => ⟨0, fun W hW => l1 W (G.gr hW)⟩
  have a1 := fun w => aleap_in t w (by omega) (by omega)
  have a2 := fun w => aleap_in y w (by omega) (by omega)
  have r1 := fun w => ris_c t w (by omega) (by omega)
  have s := fun w => r18short_c (y + 1) n L 0 w l2
  have n6 : n ≠ 6 := by omega
  by_cases h30 : d = 30
  · subst h30
    by_cases hl : L < 30
    · have e : decide ((30 : Int) = 30 ∧ (n = 2 ∨ n = 3) ∧ L < 30) = true := decide_eq_true ⟨rfl, hn, hl⟩
      have e2 : (L == 29) = true := by rw [beq_iff_eq]; omega
      rw [e] at v
      rw [e2] at s
      refine ⟨t, n, M, false, fun w G => death_core y n 30 t t n M false _ _ true false w (fun W hW => k1 W (G.gr hW)) (fun W hW => v W (G.gr hW)) a1 a2 (.inl ⟨rfl, fun W hW => anlast_c t n M 0 false W fun V hV => m1 V ((G.gr hW).gr hV)⟩), fun w => ?_⟩
      rcases hn with rfl | rfl
      · exact rdeath_a2 y 2 30 t M 0 0 0 0 false false false false w y0 y1 k2 s m2
      · exact rdeath_a3 y 3 30 t M 0 0 0 0 false false false false w y0 y1 k2 s m2
    · have e : decide ((30 : Int) = 30 ∧ (n = 2 ∨ n = 3) ∧ L < 30) = false := decide_eq_false fun z => hl z.2.2
      have e2 : (L == 29) = false := beq_eq_false_iff_ne.2 (by omega)
      rw [e] at v
      rw [e2] at s
      refine ⟨R1, R2, R4, R3, fun w G => death_core y n 30 t R1 R2 R4 false _ _ false R3 w (fun W hW => k1 W (G.gr hW)) (fun W hW => v W (G.gr hW)) a1 a2 (.inr (.inr (.inr ⟨rfl, .inr (.inr (.inl ⟨rfl, n6⟩)), fun W hW => b1 W (G.gr hW)⟩))), fun w => ?_⟩
      rcases hn with rfl | rfl
      · exact rdeath_d42 y 2 30 t 0 N R1 R2 R4 C _ false R3 w y0 y1 k2 s r1 i2 o2
      · exact rdeath_d43 y 3 30 t 0 N R1 R2 R4 C _ false R3 w y0 y1 k2 s r1 i2 o2
  · have e : decide (d = 30 ∧ (n = 2 ∨ n = 3) ∧ L < 30) = false := decide_eq_false fun z => h30 z.1
    rw [e] at v
    refine ⟨R1, R2, R4, R3, fun w G => death_core y n d t R1 R2 R4 false _ _ false R3 w (fun W hW => k1 W (G.gr hW)) (fun W hW => v W (G.gr hW)) a1 a2 (.inr (.inr (.inr ⟨rfl, .inr (.inr (.inl ⟨rfl, n6⟩)), fun W hW => b1 W (G.gr hW)⟩))), fun w => ?_⟩
    rcases hn with rfl | rfl
    · exact rdeath_d32 y 2 d t 0 N R1 R2 R4 C _ false R3 w y0 y1 h30 k2 r1 i2 o2
    · exact rdeath_d33 y 3 d t 0 N R1 R2 R4 C _ false R3 w y0 y1 h30 k2 r1 i2 o2

theorem death_both {y : Int} {j : Nat} {d t : Int} (h : HV y j d) (ht : y < t) (t1 : t ≤ 9999) : DeathIs y (cN (lp y) j) (cL (lp y) j) d t := by
  have y0 := h.y0
  have y1 := h.y1
  have t0 : 1 ≤ t := by omega
  have hR := cR_at (lp y) h.j1
  have k1 := fun w G => ancheck_in h ht t1 w G
  have k2 := fun w => r18check_in h ht t1 w
  obtain ⟨i, hi, e0, e1, e2, hl⟩ := into_at t h t0 t1
  obtain ⟨Y, J, D, hu, eu, c1, c2⟩ := count_both t0 t1 hi (hv_day h).1 (hv_day h).2 hl
  have b1 := fun w (G : GT w) => birth_in y _ d t _ _ _ _ _ _ _ w (fun W hW => k1 W (G.gr hW)) (fun w => sinto_in e0 e1 e2 w) (fun W hW => c1 W (G.gr hW))
  have i2 := fun w => rinto_in e0 e1 e2 w
  have hd0 := hv_day h
  have a1 := fun w => aleap_in t w (by omega) (by omega)
  have a2 := fun w => aleap_in y w (by omega) (by omega)
  have r1 := fun w => ris_c t w (by omega) (by omega)
  have r2 := fun w => ris_c y w (by omega) (by omega)
  obtain ⟨n, hn⟩ : ∃ n, cN (lp y) j = n := ⟨_, rfl⟩
  obtain ⟨c, hc⟩ : ∃ c, cL (lp y) j = c := ⟨_, rfl⟩
  rw [hn, hc] at hR k1 k2 b1 i2 ⊢
  clear hn hc e0 e1 e2 hl h hu eu
  obtain ⟨N, hN⟩ : ∃ N, cN (lp t) i = N := ⟨_, rfl⟩
  obtain ⟨C, hC⟩ : ∃ C, cL (lp t) i = C := ⟨_, rfl⟩
  rw [hN, hC] at i2 c2
  clear hN hC c1 hi
  cases c
  · by_cases n2 : n = 2 ∨ n = 3
    · have lt := mct_le (lp t)
      have ly := mct_le (lp (y + 1))
      obtain ⟨p, hp, q1, q2⟩ : ∃ p : Nat, p < 12 ∧ (∀ l, cN l p = n) ∧ ∀ l, cL l p = false := by
        rcases n2 with rfl | rfl
        · exact ⟨1, by decide, fun l => (code_23 l).1.1, fun l => (code_23 l).1.2⟩
        · exact ⟨2, by decide, fun l => (code_23 l).2.1, fun l => (code_23 l).2.2⟩
      obtain ⟨l1, l2⟩ := hlast_n (t := y + 1) (by omega) (by omega) p n false _ (by omega) (q1 _) (q2 _) rfl
      obtain ⟨m1, m2⟩ := hlast_n t0 t1 p n false _ (by omega) (q1 _) (q2 _) rfl
      exact death_23 (S := false) y0 ht t1 n2 (mlen_range _ _ _) N _ _ _ C _ hd0.1 k1 k2 l1 l2 m1 m2 b1 i2 c2
    · have v := fun (w : World) (G : GT w) => anwanes_c y n d 0 false w y0 y1 fun z => absurd z.2 n2
      have e : decide (d = 30 ∧ (n = 2 ∨ n = 3) ∧ (0 : Int) < 30) = false := decide_eq_false fun z => n2 z.2.1
      rw [e] at v
      by_cases n6 : n = 6
      · subst n6
        cases hy : lp y
        · cases htl : lp t
          · rw [htl] at a1 r1
            rw [hy] at a2 r2
            exact ⟨_, _, _, _, fun w G => death_core y 6 d t _ _ _ false _ _ false _ w (fun W hW => k1 W (G.gr hW)) (fun W hW => v W (G.gr hW)) a1 a2 (.inr (.inr (.inr ⟨rfl, .inr (.inr (.inr (.inl ⟨rfl, rfl, rfl⟩))), fun W hW => b1 W (G.gr hW)⟩))), fun w => rdeath_d5 y 6 d t 0 N _ _ _ C false false _ w y0 y1 (.inl rfl) k2 r1 r2 i2 c2⟩
          · have g5 : 5 < mct (lp t) := by rw [htl]; decide
            obtain ⟨Y', J', D', hu', eu', x1, x2⟩ := count_both t0 t1 g5 hd0.1 hd0.2 (fun z => by rw [htl] at z; exact absurd z (by decide))
            have f1 : cN (lp t) 5 = 5 := by rw [htl]; decide
            have f2 : cL (lp t) 5 = true := by rw [htl]; decide
            rw [f1, f2] at x1 x2
            rw [htl] at a1 r1
            rw [hy] at a2 r2
            exact ⟨_, _, _, _, fun w G => death_core y 6 d t _ _ _ false _ _ false _ w (fun W hW => k1 W (G.gr hW)) (fun W hW => v W (G.gr hW)) a1 a2 (.inr (.inr (.inl ⟨rfl, rfl, rfl, rfl, rfl, fun W hW => x1 W (G.gr hW)⟩))), fun w => rdeath_c y 6 d t 0 N _ _ _ C true false _ w y0 y1 k2 r1 r2 i2 x2⟩
        · rw [hy] at a2 r2
          refine ⟨_, _, _, _, fun w G => death_core y 6 d t _ _ _ false _ _ false _ w (fun W hW => k1 W (G.gr hW)) (fun W hW => v W (G.gr hW)) a1 a2 (.inr (.inr (.inr ⟨rfl, ?_, fun W hW => b1 W (G.gr hW)⟩))), fun w => rdeath_d5 y 6 d t 0 N _ _ _ C _ true _ w y0 y1 (.inr rfl) k2 r1 r2 i2 c2⟩
          cases lp t
          · exact .inr (.inr (.inr (.inl ⟨rfl, rfl, rfl⟩)))
          · exact .inr (.inr (.inr (.inr ⟨rfl, rfl, rfl, rfl⟩)))
      · exact ⟨_, _, _, _, fun w G => death_core y n d t _ _ _ false _ _ false _ w (fun W hW => k1 W (G.gr hW)) (fun W hW => v W (G.gr hW)) a1 a2 (.inr (.inr (.inr ⟨rfl, .inr (.inr (.inl ⟨rfl, n6⟩)), fun W hW => b1 W (G.gr hW)⟩))),
          fun w => rdeath_d3 y n d t 0 N _ _ _ C _ false _ w y0 y1 (fun z => n2 (.inl z)) (fun z => n2 (.inr z)) n6 k2 r1 i2 c2⟩
  · have n5 : n = 5 := by
      unfold cR at hR
      have := (of_decide_eq_true hR).2.2
      simpa using this
    subst n5
    have v := fun (w : World) (G : GT w) => anwanes_c y 5 d 0 true w y0 y1 fun z => absurd z.2 (by decide)
    have e : decide (d = 30 ∧ ((5 : Int) = 2 ∨ (5 : Int) = 3) ∧ (0 : Int) < 30) = false := decide_eq_false fun z => absurd z.2.1 (by decide)
    rw [e] at v
    by_cases h30 : d = 30
    · subst h30
      cases htl : lp t
      · have g4 : 4 < mct (lp t) := by rw [htl]; decide
        obtain ⟨m1, m2⟩ := hlast_n t0 t1 4 5 false 30 g4 (by rw [htl]; decide) (by rw [htl]; decide) (by rw [htl]; simp [mlen])
        rw [htl] at a1 r1
        exact ⟨_, _, _, _, fun w G => death_core y 5 30 t _ _ _ true _ _ false _ w (fun W hW => k1 W (G.gr hW)) (fun W hW => v W (G.gr hW)) a1 a2 (.inr (.inl ⟨rfl, rfl, rfl, rfl, fun W hW => anlast_c t 5 30 0 false W fun V hV => m1 V ((G.gr hW).gr hV)⟩)), fun w => rdeath_b y 5 30 t 0 0 0 0 0 false false false false w y0 y1 k2 r1⟩
      · rw [htl] at a1 r1
        exact ⟨_, _, _, _, fun w G => death_core y 5 30 t _ _ _ true _ _ false _ w (fun W hW => k1 W (G.gr hW)) (fun W hW => v W (G.gr hW)) a1 a2 (.inr (.inr (.inr ⟨rfl, .inr (.inl ⟨rfl, rfl, rfl, rfl⟩), fun W hW => b1 W (G.gr hW)⟩))), fun w => rdeath_d2 y 5 30 t 0 N _ _ _ C true false _ w y0 y1 k2 r1 i2 c2⟩
    · exact ⟨_, _, _, _, fun w G => death_core y 5 d t _ _ _ true _ _ false _ w (fun W hW => k1 W (G.gr hW)) (fun W hW => v W (G.gr hW)) a1 a2 (.inr (.inr (.inr ⟨rfl, .inl ⟨rfl, rfl, h30⟩, fun W hW => b1 W (G.gr hW)⟩))), fun w => rdeath_d1 y 5 d t 0 N _ _ _ C _ false _ w y0 y1 h30 k2 r1 i2 c2⟩

end Go.Proofs.YtbalbkkimlbecaaDoor.Walks
