/- Each day of RoshChodesh is the first, or the 30th, of a month, none of the year's first day; the day behind a 30th is a first one: the walk of the law; every input. -/
import Derived.Test.YtbalbkkimlbecaaDoorChodesh3
set_option linter.unusedVariables false
set_option linter.unusedSimpArgs false
namespace Go.Proofs.YtbalbkkimlbecaaDoor.Walks
open Go Go.RowKit Go.Sort Go.Proofs.YtbalbkkimlbecaaDoor.Base Go.Proofs.YtbalbkkimlbecaaDoor.Plain Go.Proofs.YtbalbkkimlbecaaDoor.Math

/-- What FromDay tells of the events of a list. -/
def FromL (y : Int) (L : List Int) : Prop := ∀ k, k < L.length → ∃ (n d : Int) (c : Bool), (0 < k → L.getD (k - 1) 0 < L.getD k 0) ∧ ((d = 1 ∧ n ≠ 1) ∨ (d = 30 ∧ k + 1 < L.length ∧ L.getD (k + 1) 0 = L.getD k 0 + 1)) ∧ -1373427 ≤ L.getD k 0 ∧ L.getD k 0 ≤ 2278650 ∧
  ∀ W, Calls Tryd.prog 23 #[.int .i64 (L.getD k 0)] W fun e w' => e = .returned (.tuple #[.agg #[.int .i64 y, .int .i64 n, .bool c, .int .i64 d], .int .i64 0]) ∧ Gr W w'
theorem fromL_of {y : Int} (h0 : 1 ≤ y) (h1 : y ≤ 9999) : FromL y (chL (kk y) (lp y) (fy y) (mct (lp y))) := by
  intro k hk
  obtain ⟨j, d, hv, e, m, q⟩ := chL_at h0 h1 hk
  have r := hd_range hv
  refine ⟨cN (lp y) j, d, cL (lp y) j, by rw [e]; exact m, ?_, by omega, by omega, fun W => r10from_in y j d _ W hv e.symm⟩
  rcases q with ⟨rfl, q⟩ | ⟨rfl, q1, q2⟩
  · refine .inl ⟨rfl, fun z => ?_⟩
    have j1 := hv.j1
    have k : ∀ l : Bool, ∀ j : Nat, j < 13 → cN l j = 1 → j = 0 := by decide
    have m := mct_le (lp y)
    have := k (lp y) j (by omega) z
    omega
  · exact .inr ⟨rfl, q1, by rw [q2, e]⟩

set_option maxRecDepth 20000 in
set_option maxHeartbeats 16000000 in
theorem chdays_core (u : Int) (L : List Int) (w : World) (G : GT w) (u0 : 0 ≤ u) (u1 : u ≤ 65535) (h11 : 11 ≤ L.length) (h26 : L.length ≤ 26) (hF : FromL (1 + u % 9999) L)
    (c1 : ∀ W, Gr w W → Calls Tryd.prog 24 #[.int .i64 (1 + u % 9999)] W (EvL L W)) :
    Calls Tryd.prog 7 #[.int .u16 u] w fun e w' => e = .returned (.bool true) ∧ Gr w w' := by
  have C1 := Lib.hid c1
  have HF := Lib.hid hF
  have C9 := Lib.hid fun W (hW : Gr w W) => awake21_c W (G.gr hW)
  have n1 : (11 : Int) ≤ (L.length : Int) := by omega
  have n2 : (L.length : Int) ≤ 26 := by omega
  clear c1 G hF
  go_enter Tryd.func7, Tryd.ntmps7
  go_wp2_with (first | (go_at_call 24; (with_reducible refine (C1.out _ ((by repeat (first | exact Gr.refl _ | refine Gr.setCell ?_ _ _ (by first | exact Nat.le_refl _ | (simp; omega) | (simp; done)) | refine Gr.grown ?_ _ _ | refine Gr.drewN ?_ _ | refine Gr.drew ?_ | refine Gr.alloc ?_ _ | refine Gr.grow ?_ _ | (refine Gr.trans ?_ (by assumption)))))).mono ?_); rintro e wA ⟨g1, c1, rfl, RA, hgA⟩; have GA : Gr w wA := (by repeat (first | exact Gr.refl _ | refine Gr.setCell ?_ _ _ (by first | exact Nat.le_refl _ | (simp; omega) | (simp; done)) | refine Gr.grown ?_ _ _ | refine Gr.drewN ?_ _ | refine Gr.drew ?_ | refine Gr.alloc ?_ _ | refine Gr.grow ?_ _ | (refine Gr.trans ?_ (by assumption)))); clear hgA))
  go_loopg [6] L.length (fun kx s6 wr => ∃ k : Nat, k ≤ L.length ∧ L.length - k ≤ kx ∧ s6 = .int .i64 (k : Int) ∧ Gr wA wr)
  case atStart => exact ⟨0, by omega, by omega, rfl, Gr.refl _⟩
  case round =>
    obtain ⟨k, hk, hm, rfl, hg⟩ := hrel
    by_cases e : k < L.length
    · have R := RA.gr hg
      obtain ⟨n, d, c, m, q, r0, r1, cf⟩ := HF.out k e
      have CF := Lib.hid cf
      have ck := R.c (k * 2) (by omega)
      have dk := R.c (k * 2 + 1) (by omega)
      rw [evf_k] at ck
      rw [evf_d] at dk
      have k2 : (k : Int) < (L.length : Int) := by omega
      clear cf RA HF
      rcases q with ⟨rfl, hn⟩ | ⟨rfl, q1, q2⟩
      · have qn : (n == 1) = false := beq_eq_false_iff_ne.2 hn
        clear hn
        by_cases z : k = 0
        · subst z
          obtain ⟨D, hD⟩ : ∃ D, L.getD 0 0 = D := ⟨_, rfl⟩
          rw [hD] at CF dk r0 r1
          clear m hD
          have lt := R.lt
          clear R
          go_wp2_with (first | ((go_at_call 23; (with_reducible refine (CF.out _).mono ?_); rintro e wD ⟨rfl, hgwD⟩); have ck1 := hgwD.keep lt ck; have dk1 := hgwD.keep lt dk; have l1 := hgwD.lt lt; clear ck dk))
          go_quiet (fail)
          go_wp2
          go_quiet (fail)
          go_wp2
          go_roundg (L.length - (0 + 1))
          case measure => omega
          case rel => exact ⟨0 + 1, by omega, Nat.le_refl _, by go_num, hg.trans (by clear hg GA; exact (by repeat (first | exact Gr.refl _ | refine Gr.setCell ?_ _ _ (by first | exact Nat.le_refl _ | (simp; omega) | (simp; done)) | refine Gr.grown ?_ _ _ | refine Gr.drewN ?_ _ | refine Gr.drew ?_ | refine Gr.alloc ?_ _ | refine Gr.grow ?_ _ | (refine Gr.trans ?_ (by assumption)))))⟩
        · obtain ⟨j, rfl⟩ : ∃ j, k = j + 1 := ⟨k - 1, by omega⟩
          have m := m (by omega)
          have cj := R.c ((j + 1 - 1) * 2 + 1) (by omega)
          rw [evf_d, show j + 1 - 1 = j from rfl] at cj
          rw [show j + 1 - 1 = j from rfl] at m
          obtain ⟨D, hD⟩ : ∃ D, L.getD (j + 1) 0 = D := ⟨_, rfl⟩
          obtain ⟨M, hM⟩ : ∃ M, L.getD j 0 = M := ⟨_, rfl⟩
          rw [hD] at CF dk r0 r1 m
          rw [hM] at m cj
          have mm : ¬ D ≤ M := by omega
          clear hD hM
          rw [show ((j + 1 : Nat) : Int) = (j : Int) + 1 from rfl] at k2 ⊢
          have lt := R.lt
          clear R
          go_wp2_with (first | ((go_at_call 23; (with_reducible refine (CF.out _).mono ?_); rintro e wD ⟨rfl, hgwD⟩); have ck1 := hgwD.keep lt ck; have dk1 := hgwD.keep lt dk; have cj1 := hgwD.keep lt cj; have l1 := hgwD.lt lt; clear ck dk cj))
          go_quiet (fail)
          go_wp2
          go_quiet (fail)
          go_wp2
          go_roundg (L.length - ((j + 1) + 1))
          case measure => omega
          case rel => exact ⟨(j + 1) + 1, by omega, Nat.le_refl _, by go_num, hg.trans (by clear hg GA; exact (by repeat (first | exact Gr.refl _ | refine Gr.setCell ?_ _ _ (by first | exact Nat.le_refl _ | (simp; omega) | (simp; done)) | refine Gr.grown ?_ _ _ | refine Gr.drewN ?_ _ | refine Gr.drew ?_ | refine Gr.alloc ?_ _ | refine Gr.grow ?_ _ | (refine Gr.trans ?_ (by assumption)))))⟩
      · by_cases z : k = 0
        · subst z
          obtain ⟨D, hD⟩ : ∃ D, L.getD 0 0 = D := ⟨_, rfl⟩
          rw [hD] at CF dk r0 r1 q2
          clear m hD
          have nk := R.c ((0 + 1) * 2 + 1) (by omega)
          rw [evf_d, q2] at nk
          have q3 : ¬ (L.length : Int) ≤ 1 := by omega
          have q4 : (1 : Int) < (L.length : Int) := by omega
          have q5 : decide ((L.length : Int) ≤ 1) = false := decide_eq_false q3
          have q6 : decide (L.length ≤ 1) = false := decide_eq_false (by omega)
          clear q1 q2
          have lt := R.lt
          clear R
          go_wp2_with (first | ((go_at_call 23; (with_reducible refine (CF.out _).mono ?_); rintro e wD ⟨rfl, hgwD⟩); have ck1 := hgwD.keep lt ck; have dk1 := hgwD.keep lt dk; have nk1 := hgwD.keep lt nk; have l1 := hgwD.lt lt; clear ck dk nk))
          go_quiet (fail)
          go_wp2
          go_quiet (fail)
          go_wp2
          go_roundg (L.length - (0 + 1))
          case measure => omega
          case rel => exact ⟨0 + 1, by omega, Nat.le_refl _, by go_num, hg.trans (by clear hg GA; exact (by repeat (first | exact Gr.refl _ | refine Gr.setCell ?_ _ _ (by first | exact Nat.le_refl _ | (simp; omega) | (simp; done)) | refine Gr.grown ?_ _ _ | refine Gr.drewN ?_ _ | refine Gr.drew ?_ | refine Gr.alloc ?_ _ | refine Gr.grow ?_ _ | (refine Gr.trans ?_ (by assumption)))))⟩
        · obtain ⟨j, rfl⟩ : ∃ j, k = j + 1 := ⟨k - 1, by omega⟩
          have m := m (by omega)
          have cj := R.c ((j + 1 - 1) * 2 + 1) (by omega)
          rw [evf_d, show j + 1 - 1 = j from rfl] at cj
          rw [show j + 1 - 1 = j from rfl] at m
          obtain ⟨D, hD⟩ : ∃ D, L.getD (j + 1) 0 = D := ⟨_, rfl⟩
          obtain ⟨M, hM⟩ : ∃ M, L.getD j 0 = M := ⟨_, rfl⟩
          rw [hD] at CF dk r0 r1 m q2
          rw [hM] at m cj
          have mm : ¬ D ≤ M := by omega
          clear hD hM
          rw [show ((j + 1 : Nat) : Int) = (j : Int) + 1 from rfl] at k2 ⊢
          have nk := R.c (((j + 1) + 1) * 2 + 1) (by omega)
          rw [evf_d, q2] at nk
          have q3 : ¬ (L.length : Int) ≤ (j : Int) + 1 + 1 := by omega
          have q4 : (j : Int) + 1 + 1 < (L.length : Int) := by omega
          have q5 : decide ((L.length : Int) ≤ (j : Int) + 1 + 1) = false := decide_eq_false q3
          have q6 : decide ((L.length : Int) ≤ (j : Int) + 2) = false := decide_eq_false (by omega)
          clear q1 q2
          have lt := R.lt
          clear R
          go_wp2_with (first | ((go_at_call 23; (with_reducible refine (CF.out _).mono ?_); rintro e wD ⟨rfl, hgwD⟩); have ck1 := hgwD.keep lt ck; have dk1 := hgwD.keep lt dk; have nk1 := hgwD.keep lt nk; have cj1 := hgwD.keep lt cj; have l1 := hgwD.lt lt; clear ck dk nk cj))
          go_quiet (fail)
          go_wp2
          go_quiet (fail)
          go_wp2
          go_roundg (L.length - ((j + 1) + 1))
          case measure => omega
          case rel => exact ⟨(j + 1) + 1, by omega, Nat.le_refl _, by go_num, hg.trans (by clear hg GA; exact (by repeat (first | exact Gr.refl _ | refine Gr.setCell ?_ _ _ (by first | exact Nat.le_refl _ | (simp; omega) | (simp; done)) | refine Gr.grown ?_ _ _ | refine Gr.drewN ?_ _ | refine Gr.drew ?_ | refine Gr.alloc ?_ _ | refine Gr.grow ?_ _ | (refine Gr.trans ?_ (by assumption)))))⟩
    · obtain rfl : k = L.length := by omega
      go_wp2_with (first | (go_at_call 31; (with_reducible refine (C9.out _ (by have h := GA.trans hg; exact h)).mono ?_); rintro e wF ⟨rfl, hgwF⟩))
      go_ret
      exact ⟨rfl, (by repeat (first | exact Gr.refl _ | refine Gr.setCell ?_ _ _ (by first | exact Nat.le_refl _ | (simp; omega) | (simp; done)) | refine Gr.grown ?_ _ _ | refine Gr.drewN ?_ _ | refine Gr.drew ?_ | refine Gr.alloc ?_ _ | refine Gr.grow ?_ _ | (refine Gr.trans ?_ (by assumption))))⟩

theorem chodeshDays_t (u : Int) (w : World) (G : GT w) (w1 : (Lit.int .u16 u).wf = true) : Calls Tryd.prog 7 #[.int .u16 u] w fun e w' => e = .returned (.bool true) ∧ Gr w w' := by
  have b1 := bounds_u16 w1
  have k0 : 1 ≤ 1 + u % 9999 := by omega
  have k1 : 1 + u % 9999 ≤ 9999 := by omega
  have rk := kk_leap k0 k1
  have hc := chL_count (lp (1 + u % 9999)) (fy (1 + u % 9999)) rk.2.1 rk.2.2
  exact chdays_core u _ w G b1.1 b1.2 hc.1 hc.2 (fromL_of k0 k1) fun W hW => chof_in _ W (G.gr hW) k0 k1

end Go.Proofs.YtbalbkkimlbecaaDoor.Walks
