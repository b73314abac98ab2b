/- Later years' anniversaries come later: the place of the code in plain and in leap years, and the walk of the law. -/
import Derived.Test.YtbalbkkimlbecaaDoorAnnivTells
set_option linter.unusedVariables false
set_option linter.unusedSimpArgs false
namespace Go.Proofs.YtbalbkkimlbecaaDoor.Walks
open Go Go.RowKit Go.Sort Go.Proofs.YtbalbkkimlbecaaDoor.Base Go.Proofs.YtbalbkkimlbecaaDoor.Plain Go.Proofs.YtbalbkkimlbecaaDoor.Math


theorem count_year {t : Int} {i : Nat} {d : Int} {Y : Int} {J : Nat} {D : Int} (t0 : 1 ≤ t) (t1 : t ≤ 9999) (hi : i < mct (lp t)) (d0 : 1 ≤ d) (d1 : d ≤ 30) (hl : i + 1 = mct (lp t) → d ≤ 29) (hu : HV Y J D) (e : hd Y J D = hd t i 1 + d - 1) :
    Y = t ∧ (d ≤ 29 → J = i ∧ D = d) := by
  have lr := mlen_range (kk t) (lp t) i
  by_cases z : d ≤ mlen (kk t) (lp t) i
  · have hv : HV t i d := ⟨t0, t1, hi, d0, z⟩
    have := hd_lin t i d
    obtain ⟨a, b, c⟩ := hd_inj hu hv (by omega)
    exact ⟨a, fun _ => ⟨b, c⟩⟩
  · have hv : HV t i (mlen (kk t) (lp t) i) := ⟨t0, t1, hi, by omega, by omega⟩
    have z2 : i + 1 ≠ mct (lp t) := fun q => by have := hl q; omega
    obtain ⟨hn, en⟩ := hd_next_month hv rfl (by omega)
    have := hd_lin t i (mlen (kk t) (lp t) i)
    obtain ⟨a, -, -⟩ := hd_inj hu hn (by omega)
    exact ⟨a, fun q => absurd q (by omega)⟩

/-- May an anniversary be asked; if not, both tell the same error. -/
theorem anniv_key (y n : Int) (c : Bool) (d t : Int) : (∃ j, n = cN (lp y) j ∧ c = cL (lp y) j ∧ HV y j d ∧ y < t ∧ t ≤ 9999) ∨ ∃ E : Int, E ≠ 0 ∧
    (∀ w, GT w → Calls Tryd.prog 32 #[.agg #[.int .i64 y, .int .i64 n, .bool c, .int .i64 d], .int .i64 t] w fun e w' => e = .returned (.tuple #[.agg #[.int .i64 0, .int .i64 0, .bool false, .int .i64 0], .int .i64 E]) ∧ Gr w w') ∧
    (∀ w, GT w → Calls Tryd.prog 34 #[.agg #[.int .i64 y, .int .i64 n, .bool c, .int .i64 d], .int .i64 t] w fun e w' => e = .returned (.tuple #[.agg #[.int .i64 0, .int .i64 0, .bool false, .int .i64 0], .int .i64 E]) ∧ Gr w w') := by
  have bad : ∀ E : Int, anE y t E ≠ 0 → (∀ w, GT w → Calls Tryd.prog 37 #[.agg #[.int .i64 y, .int .i64 n, .bool c, .int .i64 d]] w fun e w' => e = .returned (.int .i64 E) ∧ Gr w w') → ∃ E : Int, E ≠ 0 ∧
    (∀ w, GT w → Calls Tryd.prog 32 #[.agg #[.int .i64 y, .int .i64 n, .bool c, .int .i64 d], .int .i64 t] w fun e w' => e = .returned (.tuple #[.agg #[.int .i64 0, .int .i64 0, .bool false, .int .i64 0], .int .i64 E]) ∧ Gr w w') ∧
    (∀ w, GT w → Calls Tryd.prog 34 #[.agg #[.int .i64 y, .int .i64 n, .bool c, .int .i64 d], .int .i64 t] w fun e w' => e = .returned (.tuple #[.agg #[.int .i64 0, .int .i64 0, .bool false, .int .i64 0], .int .i64 E]) ∧ Gr w w') := fun E hE c1 =>
    ⟨anE y t E, hE, fun w G => birth_e y n d t _ c w hE fun W hW => ancheck_c y n d t E c W fun V hV => c1 V ((G.gr hW).gr hV), fun w G => death_e y n d t _ c w hE fun W hW => ancheck_c y n d t E c W fun V hV => c1 V ((G.gr hW).gr hV)⟩
  by_cases h : ∃ j, n = cN (lp y) j ∧ c = cL (lp y) j ∧ HV y j d
  · obtain ⟨j, rfl, rfl, hv⟩ := h
    by_cases ht : y < t ∧ t ≤ 9999
    · exact .inl ⟨j, rfl, rfl, hv, ht.1, ht.2⟩
    · refine .inr (bad 0 ?_ fun w G => hcheck_in y j d w G hv)
      unfold anE
      rw [if_pos rfl]
      split
      · decide
      · rw [if_pos (by omega)]; decide
  · obtain ⟨E, e0, e1, c1, -⟩ := cdate_bad y n c d h
    refine .inr (bad E ?_ c1)
    unfold anE
    rw [if_neg (by omega)]
    omega


/-- The place of a code, brought into a plain or a leap year. -/
def bP (l : Bool) (n : Int) (c : Bool) : Nat := if c = true then 5 else if l = true ∧ 6 ≤ n then n.toNat else (n - 1).toNat
theorem bP_at (l : Bool) {n : Int} {c : Bool} (h : cR n c = true) : bP l n c < mct l ∧ cN l (bP l n c) = (if cHas l n c = true then n else n + 1) ∧ cL l (bP l n c) = (if cHas l n c = true then c else false) := by
  have k : ∀ l c : Bool, ∀ m : Nat, m < 13 → cR (m : Int) c = true → bP l m c < mct l ∧ cN l (bP l m c) = (if cHas l m c = true then (m : Int) else (m : Int) + 1) ∧ cL l (bP l m c) = (if cHas l m c = true then c else false) := by decide
  have r : 1 ≤ n ∧ n ≤ 12 := by
    unfold cR at h
    have := of_decide_eq_true h
    exact ⟨this.1, this.2.1⟩
  have := k l c n.toNat (by omega)
  rw [show ((n.toNat : Nat) : Int) = n from by omega] at this
  exact this h
theorem bP_le {n : Int} (c : Bool) (h : 1 ≤ n) : bP false n c ≤ bP true n c ∧ bP true n c ≤ bP false n c + 1 := by
  unfold bP
  cases c <;> simp
  split <;> omega
/-- The place of a day of remembrance's code. -/
def dP (l : Bool) (n : Int) (c : Bool) (d : Int) (ly : Bool) : Nat := if c = true ∧ d = 30 ∧ l = false then 4 else if c = false ∧ n = 6 ∧ ly = false then 5 else bP l n c
theorem dP_le {n : Int} {c : Bool} (d : Int) (ly : Bool) (h : cR n c = true) : dP false n c d ly ≤ dP true n c d ly ∧ dP true n c d ly ≤ dP false n c d ly + 1 := by
  have r : 1 ≤ n ∧ (n = 5 ∨ c = false) := by
    unfold cR at h
    have := of_decide_eq_true h
    exact ⟨this.1, this.2.2⟩
  have b := bP_le c r.1
  unfold dP
  cases c
  · simp only [Bool.false_eq_true, false_and, if_false, true_and]
    split
    · omega
    · exact b
  · have h5 : bP true n true = 5 := by unfold bP; simp
    have h6 : bP false n true = 5 := by unfold bP; simp
    simp only [true_and, Bool.true_eq_false, false_and, if_false, and_true, h5, h6, and_false]
    split <;> omega
theorem dP_in (l : Bool) {n : Int} {c : Bool} (d : Int) (ly : Bool) (h : cR n c = true) : dP l n c d ly ≤ mct l := by
  have b := (bP_at l h).1
  have m := mct_le l
  unfold dP
  split
  · omega
  · split <;> omega
/-- Years apart: the same place (or the next, in leap years) is 347 days later at least. -/
theorem later_gap {P : Bool → Nat} (p0 : P false ≤ P true) (p1 : P true ≤ P false + 1) {t t' : Int} (h0 : 1 ≤ t) (h : t < t') (h1 : t' ≤ 9999) (k : P (lp t) ≤ mct (lp t)) {e e' d : Int} (e0 : e ≤ d) (e1 : d - 1 ≤ e') :
    hd t (P (lp t)) 1 + e - 1 + 320 ≤ hd t' (P (lp t')) 1 + e' - 1 := by
  have a := fy_mono (a := t + 1) (b := t') (by omega) (by omega) (by omega)
  have b := kln_mah h0 (by omega : t ≤ 9999)
  have c := mah_le (kk t) (lp t) k
  have g := (mah_range (kk t') (lp t') (P (lp t'))).1
  unfold kln at b
  unfold hd
  have q : (12 : Int) ≤ (mct (lp t) : Int) - P (lp t) + P (lp t') := by
    cases h2 : lp t <;> cases h3 : lp t' <;> simp only [mct, Bool.false_eq_true, if_false, if_true] <;> omega
  omega

/-- An anniversary's day: of a date of the year asked, at the place p and the day e of its month. -/
def DayAt (t : Int) (p : Nat) (d : Int) (J : Nat) (D : Int) : Prop := HV t J D ∧ ∃ e, hd t J D = hd t p 1 + e - 1 ∧ d - 1 ≤ e ∧ e ≤ d
theorem birth_day {y : Int} {j : Nat} {d t : Int} (h : HV y j d) (ht : y < t) (t1 : t ≤ 9999) : ∃ (J : Nat) (D : Int), DayAt t (bP (lp t) (cN (lp y) j) (cL (lp y) j)) d J D ∧
    ∀ w, GT w → Calls Tryd.prog 32 #[.agg #[.int .i64 y, .int .i64 (cN (lp y) j), .bool (cL (lp y) j), .int .i64 d], .int .i64 t] w fun e w' => e = .returned (.tuple #[.agg #[.int .i64 t, .int .i64 (cN (lp t) J), .bool (cL (lp t) J), .int .i64 D], .int .i64 0]) ∧ Gr w w' := by
  have y0 := h.y0
  have t0 : 1 ≤ t := by omega
  obtain ⟨i, hi, e0, e1, e2, hl⟩ := into_at t h t0 t1
  obtain ⟨Y, J, D, hu, eu, c1, -⟩ := count_both t0 t1 hi (hv_day h).1 (hv_day h).2 hl
  obtain ⟨rfl, hp⟩ := count_year t0 t1 hi (hv_day h).1 (hv_day h).2 hl hu eu
  refine ⟨J, D, ⟨hu, d, ?_, by omega, by omega⟩, fun w G => birth_in y _ d _ _ _ _ _ _ _ _ w (fun W hW => ancheck_in h ht t1 W (G.gr hW)) (fun w => sinto_in e0 e1 e2 w) (fun W hW => c1 W (G.gr hW))⟩
  obtain ⟨b0, b1, b2⟩ := bP_at (lp Y) (cR_at (lp y) h.j1)
  unfold inNum at e1
  unfold inLp at e2
  rw [e0, if_pos rfl] at e1 e2
  have : i = bP (lp Y) (cN (lp y) j) (cL (lp y) j) := code_inj hi b0 (by rw [b1, e1]) (by rw [b2, e2])
  rw [← this]
  exact eu
/-- A day of remembrance: its day. -/
def DeathAt (y n : Int) (c : Bool) (d t : Int) : Prop := ∃ (J : Nat) (D : Int), DayAt t (dP (lp t) n c d (lp y)) d J D ∧
    ∀ w, GT w → Calls Tryd.prog 34 #[.agg #[.int .i64 y, .int .i64 n, .bool c, .int .i64 d], .int .i64 t] w fun e w' => e = .returned (.tuple #[.agg #[.int .i64 t, .int .i64 (cN (lp t) J), .bool (cL (lp t) J), .int .i64 D], .int .i64 0]) ∧ Gr w w'
theorem death_day {y : Int} {j : Nat} {d t : Int} (h : HV y j d) (ht : y < t) (t1 : t ≤ 9999) : DeathAt y (cN (lp y) j) (cL (lp y) j) d t := by
  obtain ⟨J, D, hu, b1⟩ := birth_day h ht t1
  have y0 := h.y0
  have y1 := h.y1
  have t0 : 1 ≤ t := by omega
  have hR := cR_at (lp y) h.j1
  have k1 := fun w G => ancheck_in h ht t1 w G
  have hd0 := hv_day h
  have a1 := fun w => aleap_in t w (by omega) (by omega)
  have a2 := fun w => aleap_in y w (by omega) (by omega)
  obtain ⟨n, hn⟩ : ∃ n, cN (lp y) j = n := ⟨_, rfl⟩
  obtain ⟨c, hc⟩ : ∃ c, cL (lp y) j = c := ⟨_, rfl⟩
  rw [hn, hc] at hR k1 b1 hu ⊢
  clear hn hc h
  cases c
  · by_cases n2 : n = 2 ∨ n = 3
    · have lt := mct_le (lp t)
      have ly := mct_le (lp (y + 1))
      obtain ⟨p, hp12, q1, q2, q3⟩ : ∃ p : Nat, p < 12 ∧ (∀ l, cN l p = n) ∧ (∀ l, cL l p = false) ∧ ∀ l, bP l n false = p := by
        rcases n2 with rfl | rfl
        · exact ⟨1, by decide, fun l => (code_23 l).1.1, fun l => (code_23 l).1.2, by decide⟩
        · exact ⟨2, by decide, fun l => (code_23 l).2.1, fun l => (code_23 l).2.2, by decide⟩
      have hP : dP (lp t) n false d (lp y) = p := by
        unfold dP
        rw [if_neg (by simp), if_neg (by omega), q3]
      obtain ⟨l1, -⟩ := hlast_n (t := y + 1) (by omega) (by omega) p n false _ (by omega) (q1 _) (q2 _) rfl
      obtain ⟨m1, -⟩ := hlast_n t0 t1 p n false _ (by omega) (q1 _) (q2 _) rfl
      have v := fun (w : World) (G : GT w) => anwanes_c y n d _ false w y0 y1 fun _ => ⟨0, fun W hW => l1 W (G.gr hW)⟩
      unfold DeathAt
      rw [hP]
      rw [q3] at hu
      by_cases hv : d = 30 ∧ (n = 2 ∨ n = 3) ∧ mlen (kk (y + 1)) (lp (y + 1)) p < 30
      · rw [decide_eq_true hv] at v
        have lr := mlen_range (kk t) (lp t) p
        refine ⟨p, mlen (kk t) (lp t) p, ⟨⟨t0, t1, by omega, by omega, by omega⟩, mlen (kk t) (lp t) p, ?_, by omega, by omega⟩, fun w G => ?_⟩
        · have := hd_lin t p (mlen (kk t) (lp t) p); omega
        · rw [q1, q2]
          exact death_core y n d t _ _ _ false _ _ true _ w (fun W hW => k1 W (G.gr hW)) (fun W hW => v W (G.gr hW)) a1 a2 (.inl ⟨rfl, fun W hW => anlast_c t n _ 0 false W fun V hV => m1 V ((G.gr hW).gr hV)⟩)
      · rw [decide_eq_false hv] at v
        exact ⟨J, D, hu, fun w G => death_core y n d t _ _ _ false _ _ false _ w (fun W hW => k1 W (G.gr hW)) (fun W hW => v W (G.gr hW)) a1 a2 (.inr (.inr (.inr ⟨rfl, .inr (.inr (.inl ⟨rfl, by omega⟩)), fun W hW => b1 W (G.gr hW)⟩)))⟩
    · have v := fun (w : World) (G : GT w) => anwanes_c y n d 0 false w y0 y1 fun z => absurd z.2 n2
      have e : decide (d = 30 ∧ (n = 2 ∨ n = 3) ∧ (0 : Int) < 30) = false := decide_eq_false fun z => n2 z.2.1
      rw [e] at v
      by_cases n6 : n = 6
      · subst n6
        by_cases hq : lp t = true ∧ lp y = false
        · have g5 : 5 < mct (lp t) := by rw [hq.1]; decide
          have hl5 : 5 + 1 = mct (lp t) → d ≤ 29 := fun z => by rw [hq.1] at z; exact absurd z (by decide)
          obtain ⟨Y', J', D', hu', eu', x1, -⟩ := count_both t0 t1 g5 hd0.1 hd0.2 hl5
          obtain ⟨rfl, -⟩ := count_year t0 t1 g5 hd0.1 hd0.2 hl5 hu' eu'
          have f1 : cN (lp Y') 5 = 5 := by rw [hq.1]; decide
          have f2 : cL (lp Y') 5 = true := by rw [hq.1]; decide
          rw [f1, f2] at x1
          have hP : dP (lp Y') 6 false d (lp y) = 5 := by unfold dP; rw [if_neg (by simp), if_pos ⟨rfl, rfl, hq.2⟩]
          unfold DeathAt
          rw [hP]
          exact ⟨J', D', ⟨hu', d, eu', by omega, by omega⟩, fun w G => death_core y 6 d _ _ _ _ false _ _ false _ w (fun W hW => k1 W (G.gr hW)) (fun W hW => v W (G.gr hW)) a1 a2 (.inr (.inr (.inl ⟨rfl, rfl, rfl, hq.1, hq.2, fun W hW => x1 W (G.gr hW)⟩)))⟩
        · have hP : dP (lp t) 6 false d (lp y) = bP (lp t) 6 false := by
            unfold dP
            rw [if_neg (by simp)]
            cases hyl : lp y
            · cases htl : lp t
              · rw [if_pos ⟨rfl, rfl, rfl⟩]; decide
              · exact absurd ⟨htl, hyl⟩ hq
            · rw [if_neg (by simp)]
          unfold DeathAt
          rw [hP]
          refine ⟨J, D, hu, fun w G => death_core y 6 d t _ _ _ false _ _ false _ w (fun W hW => k1 W (G.gr hW)) (fun W hW => v W (G.gr hW)) a1 a2 (.inr (.inr (.inr ⟨rfl, ?_, fun W hW => b1 W (G.gr hW)⟩)))⟩
          cases htl : lp t
          · exact .inr (.inr (.inr (.inl ⟨rfl, rfl, rfl⟩)))
          · refine .inr (.inr (.inr (.inr ⟨rfl, rfl, rfl, ?_⟩)))
            cases hyl : lp y
            · exact absurd ⟨htl, hyl⟩ hq
            · rfl
      · have hP : dP (lp t) n false d (lp y) = bP (lp t) n false := by unfold dP; rw [if_neg (by simp), if_neg (by omega)]
        unfold DeathAt
        rw [hP]
        exact ⟨J, D, hu, fun w G => death_core y n d t _ _ _ false _ _ false _ w (fun W hW => k1 W (G.gr hW)) (fun W hW => v W (G.gr hW)) a1 a2 (.inr (.inr (.inr ⟨rfl, .inr (.inr (.inl ⟨rfl, n6⟩)), fun W hW => b1 W (G.gr hW)⟩)))⟩
  · have n5 : n = 5 := by
      unfold cR at hR
      have := (of_decide_eq_true hR).2.2
      simpa using this
    subst n5
    have v := fun (w : World) (G : GT w) => anwanes_c y 5 d 0 true w y0 y1 fun z => absurd z.2 (by decide)
    have e : decide (d = 30 ∧ ((5 : Int) = 2 ∨ (5 : Int) = 3) ∧ (0 : Int) < 30) = false := decide_eq_false fun z => absurd z.2.1 (by decide)
    rw [e] at v
    unfold DeathAt
    by_cases hq : d = 30 ∧ lp t = false
    · have g4 : 4 < mct (lp t) := by rw [hq.2]; decide
      have f1 : cN (lp t) 4 = 5 := by rw [hq.2]; decide
      have f2 : cL (lp t) 4 = false := by rw [hq.2]; decide
      have f3 : mlen (kk t) (lp t) 4 = 30 := by rw [hq.2]; simp [mlen]
      have hP : dP (lp t) 5 true d (lp y) = 4 := by unfold dP; rw [if_pos ⟨rfl, hq.1, hq.2⟩]
      rw [hP]
      obtain ⟨m1, -⟩ := hlast_n t0 t1 4 5 false 30 g4 f1 f2 f3
      refine ⟨4, 30, ⟨⟨t0, t1, g4, by decide, by omega⟩, 30, by have := hd_lin t 4 30; omega, by omega, by omega⟩, fun w G => ?_⟩
      rw [f1, f2]
      exact death_core y 5 d t _ _ _ true _ _ false _ w (fun W hW => k1 W (G.gr hW)) (fun W hW => v W (G.gr hW)) a1 a2 (.inr (.inl ⟨rfl, rfl, hq.1, hq.2, fun W hW => anlast_c t 5 30 0 false W fun V hV => m1 V ((G.gr hW).gr hV)⟩))
    · have hP : dP (lp t) 5 true d (lp y) = bP (lp t) 5 true := by unfold dP; rw [if_neg (fun z => hq z.2), if_neg (by simp)]
      rw [hP]
      refine ⟨J, D, hu, fun w G => death_core y 5 d t _ _ _ true _ _ false _ w (fun W hW => k1 W (G.gr hW)) (fun W hW => v W (G.gr hW)) a1 a2 (.inr (.inr (.inr ⟨rfl, ?_, fun W hW => b1 W (G.gr hW)⟩)))⟩
      by_cases h30 : d = 30
      · cases htl : lp t
        · exact absurd ⟨h30, htl⟩ hq
        · exact .inr (.inl ⟨rfl, rfl, h30, rfl⟩)
      · exact .inl ⟨rfl, rfl, h30⟩

set_option maxRecDepth 20000 in
set_option maxHeartbeats 16000000 in
theorem later_e (y n d u m A1 A2 A4 E B1 B2 B4 F S1 S2 S4 X1 X2 X4 : Int) (c A3 B3 S3 X3 : Bool) (w : World) (G : GT w) (u0 : 0 ≤ u) (u1 : u ≤ 65535) (m0 : 0 ≤ m) (m1 : m ≤ 255) (hE : E ≠ 0 ∨ (E = 0 ∧ F ≠ 0))
    (c1 : ∀ W, Gr w W → Calls Tryd.prog 32 #[.agg #[.int .i64 y, .int .i64 n, .bool c, .int .i64 d], .int .i64 (1 + u % 9999)] W fun e w' => e = .returned (.tuple #[.agg #[.int .i64 A1, .int .i64 A2, .bool A3, .int .i64 A4], .int .i64 E]) ∧ Gr W w')
    (c2 : ∀ W, Gr w W → Calls Tryd.prog 32 #[.agg #[.int .i64 y, .int .i64 n, .bool c, .int .i64 d], .int .i64 (1 + u % 9999 + 1 + m)] W fun e w' => e = .returned (.tuple #[.agg #[.int .i64 B1, .int .i64 B2, .bool B3, .int .i64 B4], .int .i64 F]) ∧ Gr W w')
    (c3 : ∀ W, Gr w W → Calls Tryd.prog 34 #[.agg #[.int .i64 y, .int .i64 n, .bool c, .int .i64 d], .int .i64 (1 + u % 9999)] W fun e w' => e = .returned (.tuple #[.agg #[.int .i64 S1, .int .i64 S2, .bool S3, .int .i64 S4], .int .i64 E]) ∧ Gr W w')
    (c4 : ∀ W, Gr w W → Calls Tryd.prog 34 #[.agg #[.int .i64 y, .int .i64 n, .bool c, .int .i64 d], .int .i64 (1 + u % 9999 + 1 + m)] W fun e w' => e = .returned (.tuple #[.agg #[.int .i64 X1, .int .i64 X2, .bool X3, .int .i64 X4], .int .i64 F]) ∧ Gr W w') :
    Calls Tryd.prog 11 #[.agg #[.int .i64 y, .int .i64 n, .bool c, .int .i64 d], .int .u16 u, .int .u8 m] w fun e w' => e = .returned (.bool true) ∧ Gr w w' := by
  have C1 := Lib.hid c1
  have C2 := Lib.hid c2
  have C3 := Lib.hid c3
  have C4 := Lib.hid c4
  have C9 := Lib.hid fun W (hW : Gr w W) => awake18_c W (G.gr hW)
  clear c1 c2 c3 c4 G
  rcases hE with hE | ⟨rfl, hE⟩
  · have q : (E == 0) = false := beq_eq_false_iff_ne.2 hE
    have q2 : (E != 0) = true := by simp [bne_iff_ne, hE]
    go_enter Tryd.func11, Tryd.ntmps11
    go_wp2_with (first | (go_at_call 32; (with_reducible refine (C1.out _ ((by repeat (first | exact Gr.refl _ | refine Gr.setCell ?_ _ _ (by first | exact Nat.le_refl _ | (simp; omega) | (simp; done)) | refine Gr.grown ?_ _ _ | refine Gr.drewN ?_ _ | refine Gr.drew ?_ | refine Gr.alloc ?_ _ | refine Gr.grow ?_ _ | (refine Gr.trans ?_ (by assumption)))))).mono ?_); rintro e wA ⟨rfl, hgwA⟩; obtain ⟨hclwA, hfzwA, hszwA⟩ := gcell hgwA; (try simp [Nat.add_one_le_iff] at hszwA); have hlwA_w : w.heap.size < wA.heap.size := (by omega)) | (go_at_call 32; (with_reducible refine (C2.out _ ((by repeat (first | exact Gr.refl _ | refine Gr.setCell ?_ _ _ (by first | exact Nat.le_refl _ | (simp; omega) | (simp; done)) | refine Gr.grown ?_ _ _ | refine Gr.drewN ?_ _ | refine Gr.drew ?_ | refine Gr.alloc ?_ _ | refine Gr.grow ?_ _ | (refine Gr.trans ?_ (by assumption)))))).mono ?_); rintro e wB ⟨rfl, hgwB⟩; obtain ⟨hclwB, hfzwB, hszwB⟩ := gcell hgwB; (try simp [Nat.add_one_le_iff] at hszwB); have hlwB_w : w.heap.size < wB.heap.size := (by omega); have hlwB_wA : wA.heap.size < wB.heap.size := (by omega)) | (go_at_call 34; (with_reducible refine (C3.out _ ((by repeat (first | exact Gr.refl _ | refine Gr.setCell ?_ _ _ (by first | exact Nat.le_refl _ | (simp; omega) | (simp; done)) | refine Gr.grown ?_ _ _ | refine Gr.drewN ?_ _ | refine Gr.drew ?_ | refine Gr.alloc ?_ _ | refine Gr.grow ?_ _ | (refine Gr.trans ?_ (by assumption)))))).mono ?_); rintro e wC ⟨rfl, hgwC⟩; obtain ⟨hclwC, hfzwC, hszwC⟩ := gcell hgwC; (try simp [Nat.add_one_le_iff] at hszwC); have hlwC_w : w.heap.size < wC.heap.size := (by omega); have hlwC_wA : wA.heap.size < wC.heap.size := (by omega); have hlwC_wB : wB.heap.size < wC.heap.size := (by omega)) | (go_at_call 34; (with_reducible refine (C4.out _ ((by repeat (first | exact Gr.refl _ | refine Gr.setCell ?_ _ _ (by first | exact Nat.le_refl _ | (simp; omega) | (simp; done)) | refine Gr.grown ?_ _ _ | refine Gr.drewN ?_ _ | refine Gr.drew ?_ | refine Gr.alloc ?_ _ | refine Gr.grow ?_ _ | (refine Gr.trans ?_ (by assumption)))))).mono ?_); rintro e wD ⟨rfl, hgwD⟩; obtain ⟨hclwD, hfzwD, hszwD⟩ := gcell hgwD; (try simp [Nat.add_one_le_iff] at hszwD); have hlwD_w : w.heap.size < wD.heap.size := (by omega); have hlwD_wA : wA.heap.size < wD.heap.size := (by omega); have hlwD_wB : wB.heap.size < wD.heap.size := (by omega); have hlwD_wC : wC.heap.size < wD.heap.size := (by omega)) | (go_at_call 36; (with_reducible refine (C9.out _ ((by repeat (first | exact Gr.refl _ | refine Gr.setCell ?_ _ _ (by first | exact Nat.le_refl _ | (simp; omega) | (simp; done)) | refine Gr.grown ?_ _ _ | refine Gr.drewN ?_ _ | refine Gr.drew ?_ | refine Gr.alloc ?_ _ | refine Gr.grow ?_ _ | (refine Gr.trans ?_ (by assumption)))))).mono ?_); rintro e wF ⟨rfl, hgwF⟩; obtain ⟨hclwF, hfzwF, hszwF⟩ := gcell hgwF; (try simp [Nat.add_one_le_iff] at hszwF); have hlwF_w : w.heap.size < wF.heap.size := (by omega); have hlwF_wA : wA.heap.size < wF.heap.size := (by omega); have hlwF_wB : wB.heap.size < wF.heap.size := (by omega); have hlwF_wC : wC.heap.size < wF.heap.size := (by omega); have hlwF_wD : wD.heap.size < wF.heap.size := (by omega)))
    go_ret
    exact ⟨rfl, (by repeat (first | exact Gr.refl _ | refine Gr.setCell ?_ _ _ (by first | exact Nat.le_refl _ | (simp; omega) | (simp; done)) | refine Gr.grown ?_ _ _ | refine Gr.drewN ?_ _ | refine Gr.drew ?_ | refine Gr.alloc ?_ _ | refine Gr.grow ?_ _ | (refine Gr.trans ?_ (by assumption))))⟩
  · have q : (F == 0) = false := beq_eq_false_iff_ne.2 hE
    have q2 : (F != 0) = true := by simp [bne_iff_ne, hE]
    go_enter Tryd.func11, Tryd.ntmps11
    go_wp2_with (first | (go_at_call 32; (with_reducible refine (C1.out _ ((by repeat (first | exact Gr.refl _ | refine Gr.setCell ?_ _ _ (by first | exact Nat.le_refl _ | (simp; omega) | (simp; done)) | refine Gr.grown ?_ _ _ | refine Gr.drewN ?_ _ | refine Gr.drew ?_ | refine Gr.alloc ?_ _ | refine Gr.grow ?_ _ | (refine Gr.trans ?_ (by assumption)))))).mono ?_); rintro e wA ⟨rfl, hgwA⟩; obtain ⟨hclwA, hfzwA, hszwA⟩ := gcell hgwA; (try simp [Nat.add_one_le_iff] at hszwA); have hlwA_w : w.heap.size < wA.heap.size := (by omega)) | (go_at_call 32; (with_reducible refine (C2.out _ ((by repeat (first | exact Gr.refl _ | refine Gr.setCell ?_ _ _ (by first | exact Nat.le_refl _ | (simp; omega) | (simp; done)) | refine Gr.grown ?_ _ _ | refine Gr.drewN ?_ _ | refine Gr.drew ?_ | refine Gr.alloc ?_ _ | refine Gr.grow ?_ _ | (refine Gr.trans ?_ (by assumption)))))).mono ?_); rintro e wB ⟨rfl, hgwB⟩; obtain ⟨hclwB, hfzwB, hszwB⟩ := gcell hgwB; (try simp [Nat.add_one_le_iff] at hszwB); have hlwB_w : w.heap.size < wB.heap.size := (by omega); have hlwB_wA : wA.heap.size < wB.heap.size := (by omega)) | (go_at_call 34; (with_reducible refine (C3.out _ ((by repeat (first | exact Gr.refl _ | refine Gr.setCell ?_ _ _ (by first | exact Nat.le_refl _ | (simp; omega) | (simp; done)) | refine Gr.grown ?_ _ _ | refine Gr.drewN ?_ _ | refine Gr.drew ?_ | refine Gr.alloc ?_ _ | refine Gr.grow ?_ _ | (refine Gr.trans ?_ (by assumption)))))).mono ?_); rintro e wC ⟨rfl, hgwC⟩; obtain ⟨hclwC, hfzwC, hszwC⟩ := gcell hgwC; (try simp [Nat.add_one_le_iff] at hszwC); have hlwC_w : w.heap.size < wC.heap.size := (by omega); have hlwC_wA : wA.heap.size < wC.heap.size := (by omega); have hlwC_wB : wB.heap.size < wC.heap.size := (by omega)) | (go_at_call 34; (with_reducible refine (C4.out _ ((by repeat (first | exact Gr.refl _ | refine Gr.setCell ?_ _ _ (by first | exact Nat.le_refl _ | (simp; omega) | (simp; done)) | refine Gr.grown ?_ _ _ | refine Gr.drewN ?_ _ | refine Gr.drew ?_ | refine Gr.alloc ?_ _ | refine Gr.grow ?_ _ | (refine Gr.trans ?_ (by assumption)))))).mono ?_); rintro e wD ⟨rfl, hgwD⟩; obtain ⟨hclwD, hfzwD, hszwD⟩ := gcell hgwD; (try simp [Nat.add_one_le_iff] at hszwD); have hlwD_w : w.heap.size < wD.heap.size := (by omega); have hlwD_wA : wA.heap.size < wD.heap.size := (by omega); have hlwD_wB : wB.heap.size < wD.heap.size := (by omega); have hlwD_wC : wC.heap.size < wD.heap.size := (by omega)) | (go_at_call 36; (with_reducible refine (C9.out _ ((by repeat (first | exact Gr.refl _ | refine Gr.setCell ?_ _ _ (by first | exact Nat.le_refl _ | (simp; omega) | (simp; done)) | refine Gr.grown ?_ _ _ | refine Gr.drewN ?_ _ | refine Gr.drew ?_ | refine Gr.alloc ?_ _ | refine Gr.grow ?_ _ | (refine Gr.trans ?_ (by assumption)))))).mono ?_); rintro e wF ⟨rfl, hgwF⟩; obtain ⟨hclwF, hfzwF, hszwF⟩ := gcell hgwF; (try simp [Nat.add_one_le_iff] at hszwF); have hlwF_w : w.heap.size < wF.heap.size := (by omega); have hlwF_wA : wA.heap.size < wF.heap.size := (by omega); have hlwF_wB : wB.heap.size < wF.heap.size := (by omega); have hlwF_wC : wC.heap.size < wF.heap.size := (by omega); have hlwF_wD : wD.heap.size < wF.heap.size := (by omega)))
    go_ret
    exact ⟨rfl, (by repeat (first | exact Gr.refl _ | refine Gr.setCell ?_ _ _ (by first | exact Nat.le_refl _ | (simp; omega) | (simp; done)) | refine Gr.grown ?_ _ _ | refine Gr.drewN ?_ _ | refine Gr.drew ?_ | refine Gr.alloc ?_ _ | refine Gr.grow ?_ _ | (refine Gr.trans ?_ (by assumption))))⟩
set_option maxRecDepth 20000 in
set_option maxHeartbeats 16000000 in
theorem later_ok (y n d u m A1 A2 A4 B1 B2 B4 S1 S2 S4 X1 X2 X4 I J M N : Int) (c A3 B3 S3 X3 : Bool) (w : World) (G : GT w) (u0 : 0 ≤ u) (u1 : u ≤ 65535) (m0 : 0 ≤ m) (m1 : m ≤ 255)
    (i0 : -1373427 ≤ I) (j1 : J ≤ 2278650) (s0 : -1373427 ≤ M) (x1 : N ≤ 2278650) (hJ : 320 ≤ J - I) (hN : 320 ≤ N - M)
    (c1 : ∀ W, Gr w W → Calls Tryd.prog 32 #[.agg #[.int .i64 y, .int .i64 n, .bool c, .int .i64 d], .int .i64 (1 + u % 9999)] W fun e w' => e = .returned (.tuple #[.agg #[.int .i64 A1, .int .i64 A2, .bool A3, .int .i64 A4], .int .i64 0]) ∧ Gr W w')
    (c2 : ∀ W, Gr w W → Calls Tryd.prog 32 #[.agg #[.int .i64 y, .int .i64 n, .bool c, .int .i64 d], .int .i64 (1 + u % 9999 + 1 + m)] W fun e w' => e = .returned (.tuple #[.agg #[.int .i64 B1, .int .i64 B2, .bool B3, .int .i64 B4], .int .i64 0]) ∧ Gr W w')
    (c3 : ∀ W, Gr w W → Calls Tryd.prog 34 #[.agg #[.int .i64 y, .int .i64 n, .bool c, .int .i64 d], .int .i64 (1 + u % 9999)] W fun e w' => e = .returned (.tuple #[.agg #[.int .i64 S1, .int .i64 S2, .bool S3, .int .i64 S4], .int .i64 0]) ∧ Gr W w')
    (c4 : ∀ W, Gr w W → Calls Tryd.prog 34 #[.agg #[.int .i64 y, .int .i64 n, .bool c, .int .i64 d], .int .i64 (1 + u % 9999 + 1 + m)] W fun e w' => e = .returned (.tuple #[.agg #[.int .i64 X1, .int .i64 X2, .bool X3, .int .i64 X4], .int .i64 0]) ∧ Gr W w')
    (t1 : ∀ W, Calls Tryd.prog 22 #[.agg #[.int .i64 A1, .int .i64 A2, .bool A3, .int .i64 A4]] W fun e w' => e = .returned (.tuple #[.int .i64 I, .int .i64 0]) ∧ Gr W w')
    (t2 : ∀ W, Calls Tryd.prog 22 #[.agg #[.int .i64 B1, .int .i64 B2, .bool B3, .int .i64 B4]] W fun e w' => e = .returned (.tuple #[.int .i64 J, .int .i64 0]) ∧ Gr W w')
    (t3 : ∀ W, Calls Tryd.prog 22 #[.agg #[.int .i64 S1, .int .i64 S2, .bool S3, .int .i64 S4]] W fun e w' => e = .returned (.tuple #[.int .i64 M, .int .i64 0]) ∧ Gr W w')
    (t4 : ∀ W, Calls Tryd.prog 22 #[.agg #[.int .i64 X1, .int .i64 X2, .bool X3, .int .i64 X4]] W fun e w' => e = .returned (.tuple #[.int .i64 N, .int .i64 0]) ∧ Gr W w') :
    Calls Tryd.prog 11 #[.agg #[.int .i64 y, .int .i64 n, .bool c, .int .i64 d], .int .u16 u, .int .u8 m] w fun e w' => e = .returned (.bool true) ∧ Gr w w' := by
  have C1 := Lib.hid c1
  have C2 := Lib.hid c2
  have C3 := Lib.hid c3
  have C4 := Lib.hid c4
  have T1 := Lib.hid t1
  have T2 := Lib.hid t2
  have T3 := Lib.hid t3
  have T4 := Lib.hid t4
  have C9 := Lib.hid fun W (hW : Gr w W) => awake18_c W (G.gr hW)
  clear c1 c2 c3 c4 t1 t2 t3 t4 G
  go_enter Tryd.func11, Tryd.ntmps11
  go_wp2_with (first | (go_at_call 32; (with_reducible refine (C1.out _ ((by repeat (first | exact Gr.refl _ | refine Gr.setCell ?_ _ _ (by first | exact Nat.le_refl _ | (simp; omega) | (simp; done)) | refine Gr.grown ?_ _ _ | refine Gr.drewN ?_ _ | refine Gr.drew ?_ | refine Gr.alloc ?_ _ | refine Gr.grow ?_ _ | (refine Gr.trans ?_ (by assumption)))))).mono ?_); rintro e wA ⟨rfl, hgwA⟩; obtain ⟨hclwA, hfzwA, hszwA⟩ := gcell hgwA; (try simp [Nat.add_one_le_iff] at hszwA); have hlwA_w : w.heap.size < wA.heap.size := (by omega)) | (go_at_call 32; (with_reducible refine (C2.out _ ((by repeat (first | exact Gr.refl _ | refine Gr.setCell ?_ _ _ (by first | exact Nat.le_refl _ | (simp; omega) | (simp; done)) | refine Gr.grown ?_ _ _ | refine Gr.drewN ?_ _ | refine Gr.drew ?_ | refine Gr.alloc ?_ _ | refine Gr.grow ?_ _ | (refine Gr.trans ?_ (by assumption)))))).mono ?_); rintro e wB ⟨rfl, hgwB⟩; obtain ⟨hclwB, hfzwB, hszwB⟩ := gcell hgwB; (try simp [Nat.add_one_le_iff] at hszwB); have hlwB_w : w.heap.size < wB.heap.size := (by omega); have hlwB_wA : wA.heap.size < wB.heap.size := (by omega)) | (go_at_call 34; (with_reducible refine (C3.out _ ((by repeat (first | exact Gr.refl _ | refine Gr.setCell ?_ _ _ (by first | exact Nat.le_refl _ | (simp; omega) | (simp; done)) | refine Gr.grown ?_ _ _ | refine Gr.drewN ?_ _ | refine Gr.drew ?_ | refine Gr.alloc ?_ _ | refine Gr.grow ?_ _ | (refine Gr.trans ?_ (by assumption)))))).mono ?_); rintro e wC ⟨rfl, hgwC⟩; obtain ⟨hclwC, hfzwC, hszwC⟩ := gcell hgwC; (try simp [Nat.add_one_le_iff] at hszwC); have hlwC_w : w.heap.size < wC.heap.size := (by omega); have hlwC_wA : wA.heap.size < wC.heap.size := (by omega); have hlwC_wB : wB.heap.size < wC.heap.size := (by omega)) | (go_at_call 34; (with_reducible refine (C4.out _ ((by repeat (first | exact Gr.refl _ | refine Gr.setCell ?_ _ _ (by first | exact Nat.le_refl _ | (simp; omega) | (simp; done)) | refine Gr.grown ?_ _ _ | refine Gr.drewN ?_ _ | refine Gr.drew ?_ | refine Gr.alloc ?_ _ | refine Gr.grow ?_ _ | (refine Gr.trans ?_ (by assumption)))))).mono ?_); rintro e wD ⟨rfl, hgwD⟩; obtain ⟨hclwD, hfzwD, hszwD⟩ := gcell hgwD; (try simp [Nat.add_one_le_iff] at hszwD); have hlwD_w : w.heap.size < wD.heap.size := (by omega); have hlwD_wA : wA.heap.size < wD.heap.size := (by omega); have hlwD_wB : wB.heap.size < wD.heap.size := (by omega); have hlwD_wC : wC.heap.size < wD.heap.size := (by omega)) | (go_at_call 36; (with_reducible refine (C9.out _ ((by repeat (first | exact Gr.refl _ | refine Gr.setCell ?_ _ _ (by first | exact Nat.le_refl _ | (simp; omega) | (simp; done)) | refine Gr.grown ?_ _ _ | refine Gr.drewN ?_ _ | refine Gr.drew ?_ | refine Gr.alloc ?_ _ | refine Gr.grow ?_ _ | (refine Gr.trans ?_ (by assumption)))))).mono ?_); rintro e wF ⟨rfl, hgwF⟩; obtain ⟨hclwF, hfzwF, hszwF⟩ := gcell hgwF; (try simp [Nat.add_one_le_iff] at hszwF); have hlwF_w : w.heap.size < wF.heap.size := (by omega); have hlwF_wA : wA.heap.size < wF.heap.size := (by omega); have hlwF_wB : wB.heap.size < wF.heap.size := (by omega); have hlwF_wC : wC.heap.size < wF.heap.size := (by omega); have hlwF_wD : wD.heap.size < wF.heap.size := (by omega)) |
    (go_at_call 22; (with_reducible refine (T1.out _).mono ?_); rintro e wH ⟨rfl, hgwH⟩; obtain ⟨hclwH, hfzwH, hszwH⟩ := gcell hgwH; (try simp [Nat.add_one_le_iff] at hszwH); have hlwH_w : w.heap.size < wH.heap.size := (by omega); have hlwH_wA : wA.heap.size < wH.heap.size := (by omega); have hlwH_wB : wB.heap.size < wH.heap.size := (by omega); have hlwH_wC : wC.heap.size < wH.heap.size := (by omega); have hlwH_wD : wD.heap.size < wH.heap.size := (by omega)) | (go_at_call 22; (with_reducible refine (T2.out _).mono ?_); rintro e wI ⟨rfl, hgwI⟩; obtain ⟨hclwI, hfzwI, hszwI⟩ := gcell hgwI; (try simp [Nat.add_one_le_iff] at hszwI); have hlwI_w : w.heap.size < wI.heap.size := (by omega); have hlwI_wA : wA.heap.size < wI.heap.size := (by omega); have hlwI_wB : wB.heap.size < wI.heap.size := (by omega); have hlwI_wC : wC.heap.size < wI.heap.size := (by omega); have hlwI_wD : wD.heap.size < wI.heap.size := (by omega)) | (go_at_call 22; (with_reducible refine (T3.out _).mono ?_); rintro e wJ ⟨rfl, hgwJ⟩; obtain ⟨hclwJ, hfzwJ, hszwJ⟩ := gcell hgwJ; (try simp [Nat.add_one_le_iff] at hszwJ); have hlwJ_w : w.heap.size < wJ.heap.size := (by omega); have hlwJ_wA : wA.heap.size < wJ.heap.size := (by omega); have hlwJ_wB : wB.heap.size < wJ.heap.size := (by omega); have hlwJ_wC : wC.heap.size < wJ.heap.size := (by omega); have hlwJ_wD : wD.heap.size < wJ.heap.size := (by omega)) | (go_at_call 22; (with_reducible refine (T4.out _).mono ?_); rintro e wK ⟨rfl, hgwK⟩; obtain ⟨hclwK, hfzwK, hszwK⟩ := gcell hgwK; (try simp [Nat.add_one_le_iff] at hszwK); have hlwK_w : w.heap.size < wK.heap.size := (by omega); have hlwK_wA : wA.heap.size < wK.heap.size := (by omega); have hlwK_wB : wB.heap.size < wK.heap.size := (by omega); have hlwK_wC : wC.heap.size < wK.heap.size := (by omega); have hlwK_wD : wD.heap.size < wK.heap.size := (by omega)))
  go_ret
  exact ⟨rfl, (by repeat (first | exact Gr.refl _ | refine Gr.setCell ?_ _ _ (by first | exact Nat.le_refl _ | (simp; omega) | (simp; done)) | refine Gr.grown ?_ _ _ | refine Gr.drewN ?_ _ | refine Gr.drew ?_ | refine Gr.alloc ?_ _ | refine Gr.grow ?_ _ | (refine Gr.trans ?_ (by assumption))))⟩

theorem annivLater_t (y n : Int) (c : Bool) (d u m : Int) (w : World) (G : GT w) (_ : (Lit.int .i64 y).wf = true) (_ : (Lit.int .i64 n).wf = true) (_ : (Lit.int .i64 d).wf = true) (w1 : (Lit.int .u16 u).wf = true) (w2 : (Lit.int .u8 m).wf = true) :
    Calls Tryd.prog 11 #[.agg #[.int .i64 y, .int .i64 n, .bool c, .int .i64 d], .int .u16 u, .int .u8 m] w fun e w' => e = .returned (.bool true) ∧ Gr w w' := by
  have h1 := bounds_u16 w1
  have h2 := bounds_u8 w2
  rcases anniv_key y n c d (1 + u % 9999) with ⟨j, rfl, rfl, hv, ht, t1⟩ | ⟨E, hE, c1, c3⟩
  · obtain ⟨J1, D1, ⟨v1, e1, f1, g1, g2⟩, c1⟩ := birth_day hv ht t1
    obtain ⟨J3, D3, ⟨v3, e3, f3, g3, g4⟩, c3⟩ := death_day hv ht t1
    by_cases t2 : 1 + u % 9999 + 1 + m ≤ 9999
    · have ht2 : y < 1 + u % 9999 + 1 + m := by omega
      obtain ⟨J2, D2, ⟨v2, e2, f2, g5, g6⟩, c2⟩ := birth_day hv ht2 t2
      obtain ⟨J4, D4, ⟨v4, e4, f4, g7, g8⟩, c4⟩ := death_day hv ht2 t2
      have hR := cR_at (lp y) hv.j1
      have n0 := (cN_range (lp y) hv.j1).1
      have p1 := bP_le (cL (lp y) j) n0
      have p2 := dP_le d (lp y) hR
      have lt : (1 : Int) + u % 9999 < 1 + u % 9999 + 1 + m := by omega
      have a1 := later_gap (P := fun l => bP l (cN (lp y) j) (cL (lp y) j)) p1.1 p1.2 (by omega) lt t2 (Nat.le_of_lt (bP_at _ hR).1) g2 g5
      have a2 := later_gap (P := fun l => dP l (cN (lp y) j) (cL (lp y) j) d (lp y)) p2.1 p2.2 (by omega) lt t2 (dP_in _ d _ hR) g4 g7
      have r1 := hd_range v1
      have r2 := hd_range v2
      have r3 := hd_range v3
      have r4 := hd_range v4
      exact later_ok y _ d u m _ _ _ _ _ _ _ _ _ _ _ _ _ _ _ _ _ _ _ _ _ w G h1.1 h1.2 h2.1 h2.2 r1.1 r2.2 r3.1 r4.2 (by simp only [f1, f2] at a1 ⊢; omega) (by simp only [f3, f4] at a2 ⊢; omega) (fun W hW => c1 W (G.gr hW)) (fun W hW => c2 W (G.gr hW)) (fun W hW => c3 W (G.gr hW)) (fun W hW => c4 W (G.gr hW))
        (fun W => r10today_in _ _ _ W v1) (fun W => r10today_in _ _ _ W v2) (fun W => r10today_in _ _ _ W v3) (fun W => r10today_in _ _ _ W v4)
    · rcases anniv_key y (cN (lp y) j) (cL (lp y) j) d (1 + u % 9999 + 1 + m) with ⟨j', -, -, -, -, z⟩ | ⟨F, hF, c2, c4⟩
      · omega
      · exact later_e y _ d u m _ _ _ 0 _ _ _ F _ _ _ _ _ _ _ _ _ _ _ w G h1.1 h1.2 h2.1 h2.2 (.inr ⟨rfl, hF⟩) (fun W hW => c1 W (G.gr hW)) (fun W hW => c2 W (G.gr hW)) (fun W hW => c3 W (G.gr hW)) (fun W hW => c4 W (G.gr hW))
  · rcases anniv_key y n c d (1 + u % 9999 + 1 + m) with ⟨j, rfl, rfl, hv, ht, t1⟩ | ⟨F, hF, c2, c4⟩
    · obtain ⟨J2, D2, -, c2⟩ := birth_day hv ht t1
      obtain ⟨J4, D4, -, c4⟩ := death_day hv ht t1
      exact later_e y _ d u m _ _ _ E _ _ _ 0 _ _ _ _ _ _ _ _ _ _ _ w G h1.1 h1.2 h2.1 h2.2 (.inl hE) (fun W hW => c1 W (G.gr hW)) (fun W hW => c2 W (G.gr hW)) (fun W hW => c3 W (G.gr hW)) (fun W hW => c4 W (G.gr hW))
    · exact later_e y _ d u m _ _ _ E _ _ _ F _ _ _ _ _ _ _ _ _ _ _ w G h1.1 h1.2 h2.1 h2.2 (.inl hE) (fun W hW => c1 W (G.gr hW)) (fun W hW => c2 W (G.gr hW)) (fun W hW => c3 W (G.gr hW)) (fun W hW => c4 W (G.gr hW))

end Go.Proofs.YtbalbkkimlbecaaDoor.Walks
