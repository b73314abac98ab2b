/- Birthdays: both sides answer alike, for every date that may be. -/
import Derived.Test.YtbalbkkimlbecaaDoorAnnivRef
set_option linter.unusedVariables false
set_option linter.unusedSimpArgs false
namespace Go.Proofs.YtbalbkkimlbecaaDoor.Walks
open Go Go.RowKit Go.Sort Go.Proofs.YtbalbkkimlbecaaDoor.Base Go.Proofs.YtbalbkkimlbecaaDoor.Plain Go.Proofs.YtbalbkkimlbecaaDoor.Math

theorem lastm_of : ∀ l : Bool, ∀ j : Nat, j < 13 → j < mct l → cN l j = 12 → j + 1 = mct l := by decide
theorem lastm_num : ∀ l : Bool, ∀ i : Nat, i < 13 → i + 1 = mct l → cN l i = 12 := by decide
theorem mlen_lastm (kd : Int) {l : Bool} {j : Nat} (h : j + 1 = mct l) : mlen kd l j = 29 := by
  cases l
  · have e : j = 11 := by unfold mct at h; simp at h; omega
    subst e; simp [mlen]
  · have e : j = 12 := by unfold mct at h; simp at h; omega
    subst e; simp [mlen]
theorem anE_ok {y t : Int} (h0 : 1 ≤ y) (h1 : y < t) (h2 : t ≤ 9999) : anE y t 0 = 0 := by
  unfold anE
  rw [if_pos rfl, if_neg (by omega), if_neg (by omega)]
theorem hd_lin (t : Int) (i : Nat) (d : Int) : hd t i d = hd t i 1 + (d - 1) := by unfold hd; omega
theorem into_at {y : Int} {j : Nat} {d : Int} (t : Int) (h : HV y j d) (t0 : 1 ≤ t) (t1 : t ≤ 9999) : ∃ i, i < mct (lp t) ∧ inE t (cN (lp y) j) (cL (lp y) j) 0 = 0 ∧ inNum t (cN (lp y) j) (cL (lp y) j) 0 = cN (lp t) i ∧
    inLp t (cN (lp y) j) (cL (lp y) j) 0 = cL (lp t) i ∧ (i + 1 = mct (lp t) → d ≤ 29) := by
  have hR := cR_at (lp y) h.j1
  have e : inE t (cN (lp y) j) (cL (lp y) j) 0 = 0 := by
    unfold inE
    rw [if_pos (.inl rfl), if_pos ⟨t0, t1⟩, if_pos hR]
    split <;> simp
  unfold inNum inLp
  rw [e, if_pos rfl, if_pos rfl]
  cases hh : cHas (lp t) (cN (lp y) j) (cL (lp y) j)
  · have hc : lp t = false ∧ cL (lp y) j = true := by
      unfold cHas at hh
      rw [hR] at hh
      simpa using hh
    have h5 : cN (lp y) j = 5 := by
      unfold cR at hR
      have := (of_decide_eq_true hR).2.2
      rw [hc.2] at this
      simpa using this
    rw [hc.1, h5]
    exact ⟨5, by decide, rfl, by decide, by rw [if_neg (by decide)]; decide, fun z => absurd z (by decide)⟩
  · obtain ⟨i, hi, e1, e2⟩ := code_in hh
    refine ⟨i, hi, rfl, by rw [if_pos rfl]; exact e1, by rw [if_pos rfl]; exact e2, fun z => ?_⟩
    have m := mct_le (lp t)
    have m2 := mct_le (lp y)
    have a := lastm_num (lp t) i (by omega) z
    have j1 := h.j1
    have b := lastm_of (lp y) j (by omega) h.j1 (by rw [e1, a])
    have c := mlen_lastm (kk y) b
    have := h.d1
    omega
theorem count_both {t : Int} {i : Nat} {d : Int} (t0 : 1 ≤ t) (t1 : t ≤ 9999) (hi : i < mct (lp t)) (d0 : 1 ≤ d) (d1 : d ≤ 30) (hl : i + 1 = mct (lp t) → d ≤ 29) : ∃ (Y : Int) (J : Nat) (D : Int), HV Y J D ∧ hd Y J D = hd t i 1 + d - 1 ∧
    (∀ w, GT w → Calls Tryd.prog 61 #[.int .i64 t, .agg #[.int .i64 (cN (lp t) i), .bool (cL (lp t) i)], .int .i64 d] w fun e w' => e = .returned (.tuple #[.agg #[.int .i64 Y, .int .i64 (cN (lp Y) J), .bool (cL (lp Y) J), .int .i64 D], .int .i64 0]) ∧ Gr w w') ∧
    (∀ w, Calls Tryd.prog 64 #[.int .i64 t, .agg #[.int .i64 (cN (lp t) i), .bool (cL (lp t) i)], .int .i64 d] w fun e w' => e = .returned (.agg #[.int .i64 Y, .int .i64 (cN (lp Y) J), .bool (cL (lp Y) J), .int .i64 D]) ∧ Gr w w') := by
  have lr := mlen_range (kk t) (lp t) i
  have hv1 : HV t i 1 := ⟨t0, t1, hi, by omega, by omega⟩
  have r := hd_range hv1
  have top : hd t i 1 + d - 1 ≤ 2278650 := by
    by_cases z : i + 1 = mct (lp t)
    · have hv : HV t i d := ⟨t0, t1, hi, d0, by have := hl z; omega⟩
      have := hd_range hv
      have := hd_lin t i d
      omega
    · have hv : HV t i (mlen (kk t) (lp t) i) := ⟨t0, t1, hi, by omega, by omega⟩
      obtain ⟨hn, en⟩ := hd_next_month hv rfl (by omega)
      have := hd_range hn
      have := hd_lin t i (mlen (kk t) (lp t) i)
      omega
  obtain ⟨Y, J, D, hu, eu⟩ := hd_of (n := hd t i 1 + d - 1) (by omega) top
  exact ⟨Y, J, D, hu, eu, fun w G => ancount_c t _ d (hd t i 1) _ _ _ _ _ w r.1 r.2 d0 d1 (fun W hW => htoday_in t i 1 W (G.gr hW) hv1) (fun W hW => hfrom_in Y J D _ W (G.gr hW) hu eu),
    fun w => r18on_c t _ d (hd t i 1) _ _ _ _ _ w r.1 r.2 d0 d1 (fun w => r10today_in t i 1 w hv1) (fun w => r10from_in Y J D _ w hu eu)⟩
theorem hv_day {y : Int} {j : Nat} {d : Int} (h : HV y j d) : 1 ≤ d ∧ d ≤ 30 := ⟨h.d0, by have := h.d1; have := mlen_range (kk y) (lp y) j; omega⟩
theorem ancheck_in {y : Int} {j : Nat} {d t : Int} (h : HV y j d) (ht : y < t) (t1 : t ≤ 9999) (w : World) (G : GT w) : Calls Tryd.prog 59 #[.agg #[.int .i64 y, .int .i64 (cN (lp y) j), .bool (cL (lp y) j), .int .i64 d], .int .i64 t] w fun e w' => e = .returned (.int .i64 0) ∧ Gr w w' := by
  have := ancheck_c y (cN (lp y) j) d t 0 (cL (lp y) j) w fun W hW => hcheck_in y j d W (G.gr hW) h
  rwa [anE_ok h.y0 ht t1] at this
theorem r18check_in {y : Int} {j : Nat} {d t : Int} (h : HV y j d) (ht : y < t) (t1 : t ≤ 9999) (w : World) : Calls Tryd.prog 62 #[.agg #[.int .i64 y, .int .i64 (cN (lp y) j), .bool (cL (lp y) j), .int .i64 d], .int .i64 t] w fun e w' => e = .returned (.int .i64 0) ∧ Gr w w' := by
  have := r18check_c y (cN (lp y) j) d t 0 (cL (lp y) j) w fun w => r10check_in y j d w h
  rwa [anE_ok h.y0 ht t1] at this
theorem sinto_in {y : Int} {j : Nat} {t : Int} {i : Nat} (e0 : inE t (cN (lp y) j) (cL (lp y) j) 0 = 0) (e1 : inNum t (cN (lp y) j) (cL (lp y) j) 0 = cN (lp t) i) (e2 : inLp t (cN (lp y) j) (cL (lp y) j) 0 = cL (lp t) i) (w : World) :
    Calls Tryd.prog 60 #[.int .i64 t, .agg #[.int .i64 (cN (lp y) j), .bool (cL (lp y) j)], .int .i64 0] w fun e w' => e = .returned (.tuple #[.agg #[.int .i64 (cN (lp t) i), .bool (cL (lp t) i)], .int .i64 0]) ∧ Gr w w' := by
  have := sinto_c t (cN (lp y) j) 0 (cL (lp y) j) w
  rwa [e0, e1, e2] at this
theorem rinto_in {y : Int} {j : Nat} {t : Int} {i : Nat} (e0 : inE t (cN (lp y) j) (cL (lp y) j) 0 = 0) (e1 : inNum t (cN (lp y) j) (cL (lp y) j) 0 = cN (lp t) i) (e2 : inLp t (cN (lp y) j) (cL (lp y) j) 0 = cL (lp t) i) (w : World) :
    Calls Tryd.prog 63 #[.int .i64 t, .agg #[.int .i64 (cN (lp y) j), .bool (cL (lp y) j)], .int .i64 0] w fun e w' => e = .returned (.tuple #[.agg #[.int .i64 (cN (lp t) i), .bool (cL (lp t) i)], .int .i64 0]) ∧ Gr w w' := by
  have := rinto_c t (cN (lp y) j) 0 (cL (lp y) j) w
  rwa [e0, e1, e2] at this
/-- A birthday: the day d of the month i that the code is brought into. -/
theorem birth_both {y : Int} {j : Nat} {d t : Int} (h : HV y j d) (ht : y < t) (t1 : t ≤ 9999) : ∃ (i : Nat) (Y : Int) (J : Nat) (D : Int), i < mct (lp t) ∧ inNum t (cN (lp y) j) (cL (lp y) j) 0 = cN (lp t) i ∧ inLp t (cN (lp y) j) (cL (lp y) j) 0 = cL (lp t) i ∧ HV Y J D ∧ hd Y J D = hd t i 1 + d - 1 ∧
    (∀ w, GT w → Calls Tryd.prog 32 #[.agg #[.int .i64 y, .int .i64 (cN (lp y) j), .bool (cL (lp y) j), .int .i64 d], .int .i64 t] w fun e w' => e = .returned (.tuple #[.agg #[.int .i64 Y, .int .i64 (cN (lp Y) J), .bool (cL (lp Y) J), .int .i64 D], .int .i64 0]) ∧ Gr w w') ∧
    (∀ w, Calls Tryd.prog 33 #[.agg #[.int .i64 y, .int .i64 (cN (lp y) j), .bool (cL (lp y) j), .int .i64 d], .int .i64 t] w fun e w' => e = .returned (.tuple #[.agg #[.int .i64 Y, .int .i64 (cN (lp Y) J), .bool (cL (lp Y) J), .int .i64 D], .int .i64 0]) ∧ Gr w w') := by
  have t0 : 1 ≤ t := by have := h.y0; omega
  obtain ⟨i, hi, e0, e1, e2, hl⟩ := into_at t h t0 t1
  obtain ⟨Y, J, D, hu, eu, c1, c2⟩ := count_both t0 t1 hi (hv_day h).1 (hv_day h).2 hl
  exact ⟨i, Y, J, D, hi, e1, e2, hu, eu, fun w G => birth_in y _ d t _ _ _ _ _ _ _ w (fun W hW => ancheck_in h ht t1 W (G.gr hW)) (fun w => sinto_in e0 e1 e2 w) (fun W hW => c1 W (G.gr hW)),
    fun w => rbirth_in y _ d t _ _ _ _ _ _ _ w (fun w => r18check_in h ht t1 w) (fun w => rinto_in e0 e1 e2 w) c2⟩

end Go.Proofs.YtbalbkkimlbecaaDoor.Walks
