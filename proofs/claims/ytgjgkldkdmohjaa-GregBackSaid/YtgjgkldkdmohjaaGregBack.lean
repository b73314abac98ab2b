/- A date that may be comes back of its day, a day of its date; the next day is a date behind: the walk of the law; every input. -/
import Derived.Test.YtgjgkldkdmohjaaGregNext
set_option linter.unusedVariables false
set_option linter.unusedSimpArgs false
namespace Go.Proofs.Ytgjgkldkdmohjaa.Walks
open Go Go.RowKit Go.Sort Go.Proofs.Ytgjgkldkdmohjaa.Base Go.Proofs.Ytgjgkldkdmohjaa.Plain Go.Proofs.Ytgjgkldkdmohjaa.Math

/-- A date that has a day is the date of that day. -/
theorem back_date {y m d : Int} (h : tE y m d = 0) : ∃ M : Nat, (M : Int) = m ∧ -1373427 ≤ tN y m d ∧ tN y m d ≤ 2278650 ∧ gyr (tN y m d) = y ∧ gok y M d ∧ gd y M d = tN y m d := by
  have hn : tN y m d = gd y m.toNat d := by unfold tN; rw [if_pos h]
  have c1 : ¬ (y < -4000 ∨ 7000 < y) := fun c => by rw [tE_y c] at h; omega
  have c2 : ¬ (m < 1 ∨ 12 < m) := fun c => by rw [tE_m c1 c] at h; omega
  have c3 : ¬ (d < 1 ∨ gmd (gl y) m < d) := fun c => by rw [tE_d c1 c2 c] at h; omega
  rw [tE_n c1 c2 c3] at h
  have hi : inD (gd y m.toNat d) = true := by
    cases hh : inD (gd y m.toNat d)
    · rw [hh] at h; simp at h
    · rfl
  have hr := of_decide_eq_true hi
  have hm : ((m.toNat : Nat) : Int) = m := by omega
  have ok : gok y m.toNat d := ⟨by omega, by omega, by omega, by rw [hm]; omega⟩
  have i := gd_in ok
  rw [← hn] at i hr
  have hg := gyr_is (tN y m d)
  exact ⟨m.toNat, hm, hr.1, hr.2, year_uniq hg.1 hg.2 i.1 i.2, ok, hn.symm⟩

/-- What the second half meets: no date; the last day; a day with a next one. -/
inductive Back2 (n : Int) : Prop where
  | out (h : n < -1373427 ∨ 2278650 < n) (c : ∀ w, Calls Try.prog 7 #[.int .i64 n] w fun e w' => e = .returned (.tuple #[.agg #[.int .i64 0, .int .i64 0, .int .i64 0], .int .i64 2]) ∧ Gr w w')
  | last (Y M D : Int) (n0 : -1373427 ≤ n) (n1 : n ≤ 2278650) (c : ∀ w, Calls Try.prog 7 #[.int .i64 n] w fun e w' => e = .returned (.tuple #[.agg #[.int .i64 Y, .int .i64 M, .int .i64 D], .int .i64 0]) ∧ Gr w w')
      (c2 : ∀ w, Calls Try.prog 11 #[.agg #[.int .i64 Y, .int .i64 M, .int .i64 D]] w fun e w' => e = .returned (.tuple #[.int .i64 n, .int .i64 0]) ∧ Gr w w')
      (c3 : ∀ w, Calls Try.prog 7 #[.int .i64 (n + 1)] w fun e w' => e = .returned (.tuple #[.agg #[.int .i64 0, .int .i64 0, .int .i64 0], .int .i64 2]) ∧ Gr w w')
  | next (Y M D Y2 M2 D2 : Int) (n0 : -1373427 ≤ n) (n1 : n ≤ 2278650) (c : ∀ w, Calls Try.prog 7 #[.int .i64 n] w fun e w' => e = .returned (.tuple #[.agg #[.int .i64 Y, .int .i64 M, .int .i64 D], .int .i64 0]) ∧ Gr w w')
      (c2 : ∀ w, Calls Try.prog 11 #[.agg #[.int .i64 Y, .int .i64 M, .int .i64 D]] w fun e w' => e = .returned (.tuple #[.int .i64 n, .int .i64 0]) ∧ Gr w w')
      (c3 : ∀ w, Calls Try.prog 7 #[.int .i64 (n + 1)] w fun e w' => e = .returned (.tuple #[.agg #[.int .i64 Y2, .int .i64 M2, .int .i64 D2], .int .i64 0]) ∧ Gr w w')
      (c4 : ∀ w, Calls Try.prog 17 #[.agg #[.int .i64 Y, .int .i64 M, .int .i64 D], .agg #[.int .i64 Y2, .int .i64 M2, .int .i64 D2]] w fun e w' => e = .returned (.bool true) ∧ Gr w w')

theorem to_of {n Y : Int} {M : Nat} {D : Int} (n0 : -1373427 ≤ n) (n1 : n ≤ 2278650) (hY : gyr n = Y) (hok : gok Y M D) (hd : gd Y M D = n) (w : World) :
    Calls Try.prog 11 #[.agg #[.int .i64 Y, .int .i64 (M : Int), .int .i64 D]] w fun e w' => e = .returned (.tuple #[.int .i64 n, .int .i64 0]) ∧ Gr w w' := by
  have yr := gyr_is n
  have y0 : -4000 ≤ Y ∧ Y ≤ 7000 := by rw [hY] at yr; unfold gb at yr; omega
  obtain ⟨m0, m1, d0, d1⟩ := hok
  have hi : inD n = true := decide_eq_true ⟨n0, n1⟩
  have e : tE Y (M : Int) D = 0 := by
    rw [tE_n (by omega) (by omega) (by omega), show ((M : Int)).toNat = M from by omega, hd, if_pos hi]
  have g : tN Y (M : Int) D = n := by unfold tN; rw [if_pos e, show ((M : Int)).toNat = M from by omega, hd]
  have := gto_c Y (M : Int) D w
  rwa [e, g] at this
theorem back2_of (n : Int) : Back2 n := by
  by_cases h : n < -1373427 ∨ 2278650 < n
  · exact .out h fun w => gfrom_out n w h
  · obtain ⟨m, d, hok, hd⟩ := date_of n
    have n0 : -1373427 ≤ n := by omega
    have n1 : n ≤ 2278650 := by omega
    have c := fun w => gfrom_in n _ m d w n0 n1 rfl hok hd
    have c2 := fun w => to_of n0 n1 rfl hok hd w
    by_cases k : 2278650 < n + 1
    · exact .last _ _ _ n0 n1 c c2 fun w => gfrom_out (n + 1) w (by omega)
    · obtain ⟨p1, p2, p3⟩ := next_date rfl hok hd
      obtain ⟨m0, m1, d0, d1⟩ := hok
      by_cases a : d < gmd (gl (gyr n)) m
      · obtain ⟨q1, q2, q3⟩ := p1 a
        refine .next _ _ _ _ _ _ n0 n1 c c2 (fun w => gfrom_in (n + 1) _ m (d + 1) w (by omega) (by omega) q1 q2 q3) fun w => ?_
        have := gless_c (gyr n) m d (gyr n) m (d + 1) w
        rwa [show gls (gyr n) m d (gyr n) m (d + 1) = true from by simp [gls]; omega] at this
      · have a' : d = gmd (gl (gyr n)) m := by omega
        by_cases b : m < 12
        · obtain ⟨q1, q2, q3⟩ := p2 a' b
          refine .next _ _ _ _ _ _ n0 n1 c c2 (fun w => gfrom_in (n + 1) _ (m + 1) 1 w (by omega) (by omega) q1 q2 q3) fun w => ?_
          have := gless_c (gyr n) m d (gyr n) ((m + 1 : Nat) : Int) 1 w
          have e : (m : Int) ≠ ((m + 1 : Nat) : Int) := by omega
          rwa [show gls (gyr n) m d (gyr n) ((m + 1 : Nat) : Int) 1 = true from by unfold gls; rw [if_pos rfl, if_neg e]; exact decide_eq_true (by omega)] at this
        · obtain ⟨q1, q2, q3⟩ := p3 a' (by omega)
          refine .next _ _ _ _ _ _ n0 n1 c c2 (fun w => gfrom_in (n + 1) _ 1 1 w (by omega) (by omega) q1 q2 q3) fun w => ?_
          have := gless_c (gyr n) m d (gyr n + 1) ((1 : Nat) : Int) 1 w
          have e : gyr n ≠ gyr n + 1 := by omega
          rwa [show gls (gyr n) m d (gyr n + 1) ((1 : Nat) : Int) 1 = true from by unfold gls; rw [if_neg e]; exact decide_eq_true (by omega)] at this

set_option maxHeartbeats 8000000 in
theorem gregBack_core (y m d n N E : Int) (w : World) (c0 : ∀ w, Calls Try.prog 11 #[.agg #[.int .i64 y, .int .i64 m, .int .i64 d]] w fun e w' => e = .returned (.tuple #[.int .i64 N, .int .i64 E]) ∧ Gr w w')
    (c1 : E = 0 → ∀ w, Calls Try.prog 7 #[.int .i64 N] w fun e w' => e = .returned (.tuple #[.agg #[.int .i64 y, .int .i64 m, .int .i64 d], .int .i64 0]) ∧ Gr w w') (hn : Back2 n) :
    Calls Try.prog 6 #[.agg #[.int .i64 y, .int .i64 m, .int .i64 d], .int .i64 n] w fun e w' => e = .returned (.bool true) ∧ Gr w w' := by
  have C0 := Lib.hid c0
  by_cases hE : E = 0
  · have C1 := Lib.hid (c1 hE)
    subst hE
    clear c0 c1
    cases hn with
    | out h c =>
      have C2 := Lib.hid c
      clear c
      by_cases g : n < -1373427
      · clear h
        go_enter Try.func6, Try.ntmps6
        go_wp2_with (first | (go_at_call 11; (with_reducible refine (C0.out _).mono ?_); rintro e wA ⟨rfl, hgwA⟩; obtain ⟨hclwA, hfzwA, hszwA⟩ := gcell hgwA; (try simp [Nat.add_one_le_iff] at hszwA); have hlwA_w : w.heap.size < wA.heap.size := (by omega)) | (go_at_call 7; (with_reducible refine (C1.out _).mono ?_); rintro e wB ⟨rfl, hgwB⟩; obtain ⟨hclwB, hfzwB, hszwB⟩ := gcell hgwB; (try simp [Nat.add_one_le_iff] at hszwB); have hlwB_w : w.heap.size < wB.heap.size := (by omega)) | (go_at_call 7; (with_reducible refine (C2.out _).mono ?_); rintro e wC ⟨rfl, hgwC⟩; obtain ⟨hclwC, hfzwC, hszwC⟩ := gcell hgwC; (try simp [Nat.add_one_le_iff] at hszwC); have hlwC_w : w.heap.size < wC.heap.size := (by omega)) | (go_at_call 9; (with_reducible refine (awake11_c _).mono ?_); rintro e wD ⟨rfl, hgwD⟩; obtain ⟨hclwD, hfzwD, hszwD⟩ := gcell hgwD; (try simp [Nat.add_one_le_iff] at hszwD); have hlwD_wC : wC.heap.size < wD.heap.size := (by omega)) | (go_at_call 8; (with_reducible refine (rlast_c _).mono ?_); rintro e wE ⟨rfl, hgwE⟩; obtain ⟨hclwE, hfzwE, hszwE⟩ := gcell hgwE; (try simp [Nat.add_one_le_iff] at hszwE); have hlwE_wC : wC.heap.size < wE.heap.size := (by omega)))
        go_ret
        exact ⟨rfl, (by repeat (first | exact Gr.refl _ | refine Gr.setCell ?_ _ _ (by first | exact Nat.le_refl _ | (simp; omega) | (simp; done)) | refine Gr.grown ?_ _ _ | refine Gr.drewN ?_ _ | refine Gr.drew ?_ | refine Gr.alloc ?_ _ | refine Gr.grow ?_ _ | (refine Gr.trans ?_ (by assumption))))⟩
      · have g1 : 2278650 < n := by omega
        have g2 : -1373427 ≤ n := by omega
        clear h g
        go_enter Try.func6, Try.ntmps6
        go_wp2_with (first | (go_at_call 11; (with_reducible refine (C0.out _).mono ?_); rintro e wA ⟨rfl, hgwA⟩; obtain ⟨hclwA, hfzwA, hszwA⟩ := gcell hgwA; (try simp [Nat.add_one_le_iff] at hszwA); have hlwA_w : w.heap.size < wA.heap.size := (by omega)) | (go_at_call 7; (with_reducible refine (C1.out _).mono ?_); rintro e wB ⟨rfl, hgwB⟩; obtain ⟨hclwB, hfzwB, hszwB⟩ := gcell hgwB; (try simp [Nat.add_one_le_iff] at hszwB); have hlwB_w : w.heap.size < wB.heap.size := (by omega)) | (go_at_call 7; (with_reducible refine (C2.out _).mono ?_); rintro e wC ⟨rfl, hgwC⟩; obtain ⟨hclwC, hfzwC, hszwC⟩ := gcell hgwC; (try simp [Nat.add_one_le_iff] at hszwC); have hlwC_w : w.heap.size < wC.heap.size := (by omega)) | (go_at_call 9; (with_reducible refine (awake11_c _).mono ?_); rintro e wD ⟨rfl, hgwD⟩; obtain ⟨hclwD, hfzwD, hszwD⟩ := gcell hgwD; (try simp [Nat.add_one_le_iff] at hszwD); have hlwD_wC : wC.heap.size < wD.heap.size := (by omega)) | (go_at_call 8; (with_reducible refine (rlast_c _).mono ?_); rintro e wE ⟨rfl, hgwE⟩; obtain ⟨hclwE, hfzwE, hszwE⟩ := gcell hgwE; (try simp [Nat.add_one_le_iff] at hszwE); have hlwE_wC : wC.heap.size < wE.heap.size := (by omega)))
        go_ret
        exact ⟨rfl, (by repeat (first | exact Gr.refl _ | refine Gr.setCell ?_ _ _ (by first | exact Nat.le_refl _ | (simp; omega) | (simp; done)) | refine Gr.grown ?_ _ _ | refine Gr.drewN ?_ _ | refine Gr.drew ?_ | refine Gr.alloc ?_ _ | refine Gr.grow ?_ _ | (refine Gr.trans ?_ (by assumption))))⟩
    | last Y M D n0 n1 c c2 c3 =>
      have C2 := Lib.hid c
      have C3 := Lib.hid c2
      have C4 := Lib.hid c3
      clear c c2 c3
      go_enter Try.func6, Try.ntmps6
      go_wp2_with (first | (go_at_call 11; (with_reducible refine (C0.out _).mono ?_); rintro e wA ⟨rfl, hgwA⟩; obtain ⟨hclwA, hfzwA, hszwA⟩ := gcell hgwA; (try simp [Nat.add_one_le_iff] at hszwA); have hlwA_w : w.heap.size < wA.heap.size := (by omega)) | (go_at_call 7; (with_reducible refine (C1.out _).mono ?_); rintro e wB ⟨rfl, hgwB⟩; obtain ⟨hclwB, hfzwB, hszwB⟩ := gcell hgwB; (try simp [Nat.add_one_le_iff] at hszwB); have hlwB_w : w.heap.size < wB.heap.size := (by omega)) | (go_at_call 7; (with_reducible refine (C2.out _).mono ?_); rintro e wC ⟨rfl, hgwC⟩; obtain ⟨hclwC, hfzwC, hszwC⟩ := gcell hgwC; (try simp [Nat.add_one_le_iff] at hszwC); have hlwC_w : w.heap.size < wC.heap.size := (by omega)) | (go_at_call 11; (with_reducible refine (C3.out _).mono ?_); rintro e wD ⟨rfl, hgwD⟩; obtain ⟨hclwD, hfzwD, hszwD⟩ := gcell hgwD; (try simp [Nat.add_one_le_iff] at hszwD); have hlwD_w : w.heap.size < wD.heap.size := (by omega); have hlwD_wC : wC.heap.size < wD.heap.size := (by omega)) | (go_at_call 7; (with_reducible refine (C4.out _).mono ?_); rintro e wE ⟨rfl, hgwE⟩; obtain ⟨hclwE, hfzwE, hszwE⟩ := gcell hgwE; (try simp [Nat.add_one_le_iff] at hszwE); have hlwE_w : w.heap.size < wE.heap.size := (by omega); have hlwE_wC : wC.heap.size < wE.heap.size := (by omega)) | (go_at_call 9; (with_reducible refine (awake11_c _).mono ?_); rintro e wF ⟨rfl, hgwF⟩; obtain ⟨hclwF, hfzwF, hszwF⟩ := gcell hgwF; (try simp [Nat.add_one_le_iff] at hszwF); have hlwF_wC : wC.heap.size < wF.heap.size := (by omega); have hlwF_wE : wE.heap.size < wF.heap.size := (by omega)))
      go_ret
      exact ⟨rfl, (by repeat (first | exact Gr.refl _ | refine Gr.setCell ?_ _ _ (by first | exact Nat.le_refl _ | (simp; omega) | (simp; done)) | refine Gr.grown ?_ _ _ | refine Gr.drewN ?_ _ | refine Gr.drew ?_ | refine Gr.alloc ?_ _ | refine Gr.grow ?_ _ | (refine Gr.trans ?_ (by assumption))))⟩
    | next Y M D Y2 M2 D2 n0 n1 c c2 c3 c4 =>
      have C2 := Lib.hid c
      have C3 := Lib.hid c2
      have C4 := Lib.hid c3
      have C5 := Lib.hid c4
      clear c c2 c3 c4
      go_enter Try.func6, Try.ntmps6
      go_wp2_with (first | (go_at_call 11; (with_reducible refine (C0.out _).mono ?_); rintro e wA ⟨rfl, hgwA⟩; obtain ⟨hclwA, hfzwA, hszwA⟩ := gcell hgwA; (try simp [Nat.add_one_le_iff] at hszwA); have hlwA_w : w.heap.size < wA.heap.size := (by omega)) | (go_at_call 7; (with_reducible refine (C1.out _).mono ?_); rintro e wB ⟨rfl, hgwB⟩; obtain ⟨hclwB, hfzwB, hszwB⟩ := gcell hgwB; (try simp [Nat.add_one_le_iff] at hszwB); have hlwB_w : w.heap.size < wB.heap.size := (by omega)) | (go_at_call 7; (with_reducible refine (C2.out _).mono ?_); rintro e wC ⟨rfl, hgwC⟩; obtain ⟨hclwC, hfzwC, hszwC⟩ := gcell hgwC; (try simp [Nat.add_one_le_iff] at hszwC); have hlwC_w : w.heap.size < wC.heap.size := (by omega)) | (go_at_call 11; (with_reducible refine (C3.out _).mono ?_); rintro e wD ⟨rfl, hgwD⟩; obtain ⟨hclwD, hfzwD, hszwD⟩ := gcell hgwD; (try simp [Nat.add_one_le_iff] at hszwD); have hlwD_w : w.heap.size < wD.heap.size := (by omega); have hlwD_wC : wC.heap.size < wD.heap.size := (by omega)) | (go_at_call 7; (with_reducible refine (C4.out _).mono ?_); rintro e wE ⟨rfl, hgwE⟩; obtain ⟨hclwE, hfzwE, hszwE⟩ := gcell hgwE; (try simp [Nat.add_one_le_iff] at hszwE); have hlwE_w : w.heap.size < wE.heap.size := (by omega); have hlwE_wC : wC.heap.size < wE.heap.size := (by omega)) | (go_at_call 9; (with_reducible refine (awake11_c _).mono ?_); rintro e wF ⟨rfl, hgwF⟩; obtain ⟨hclwF, hfzwF, hszwF⟩ := gcell hgwF; (try simp [Nat.add_one_le_iff] at hszwF); have hlwF_wC : wC.heap.size < wF.heap.size := (by omega); have hlwF_wE : wE.heap.size < wF.heap.size := (by omega)) | (go_at_call 17; (with_reducible refine (C5.out _).mono ?_); rintro e wG ⟨rfl, hgwG⟩; obtain ⟨hclwG, hfzwG, hszwG⟩ := gcell hgwG; (try simp [Nat.add_one_le_iff] at hszwG); have hlwG_wC : wC.heap.size < wG.heap.size := (by omega); have hlwG_wE : wE.heap.size < wG.heap.size := (by omega)))
      go_ret
      exact ⟨rfl, (by repeat (first | exact Gr.refl _ | refine Gr.setCell ?_ _ _ (by first | exact Nat.le_refl _ | (simp; omega) | (simp; done)) | refine Gr.grown ?_ _ _ | refine Gr.drewN ?_ _ | refine Gr.drew ?_ | refine Gr.alloc ?_ _ | refine Gr.grow ?_ _ | (refine Gr.trans ?_ (by assumption))))⟩
  · have he : (E == 0) = false := beq_eq_false_iff_ne.2 hE
    clear c0 c1 hE
    cases hn with
    | out h c =>
      have C2 := Lib.hid c
      clear c
      by_cases g : n < -1373427
      · clear h
        go_enter Try.func6, Try.ntmps6
        go_wp2_with (first | (go_at_call 11; (with_reducible refine (C0.out _).mono ?_); rintro e wA ⟨rfl, hgwA⟩; obtain ⟨hclwA, hfzwA, hszwA⟩ := gcell hgwA; (try simp [Nat.add_one_le_iff] at hszwA); have hlwA_w : w.heap.size < wA.heap.size := (by omega)) | (go_at_call 7; (with_reducible refine (C2.out _).mono ?_); rintro e wC ⟨rfl, hgwC⟩; obtain ⟨hclwC, hfzwC, hszwC⟩ := gcell hgwC; (try simp [Nat.add_one_le_iff] at hszwC); have hlwC_w : w.heap.size < wC.heap.size := (by omega)) | (go_at_call 9; (with_reducible refine (awake11_c _).mono ?_); rintro e wD ⟨rfl, hgwD⟩; obtain ⟨hclwD, hfzwD, hszwD⟩ := gcell hgwD; (try simp [Nat.add_one_le_iff] at hszwD); have hlwD_wC : wC.heap.size < wD.heap.size := (by omega)) | (go_at_call 8; (with_reducible refine (rlast_c _).mono ?_); rintro e wE ⟨rfl, hgwE⟩; obtain ⟨hclwE, hfzwE, hszwE⟩ := gcell hgwE; (try simp [Nat.add_one_le_iff] at hszwE); have hlwE_wC : wC.heap.size < wE.heap.size := (by omega)))
        go_ret
        exact ⟨rfl, (by repeat (first | exact Gr.refl _ | refine Gr.setCell ?_ _ _ (by first | exact Nat.le_refl _ | (simp; omega) | (simp; done)) | refine Gr.grown ?_ _ _ | refine Gr.drewN ?_ _ | refine Gr.drew ?_ | refine Gr.alloc ?_ _ | refine Gr.grow ?_ _ | (refine Gr.trans ?_ (by assumption))))⟩
      · have g1 : 2278650 < n := by omega
        have g2 : -1373427 ≤ n := by omega
        clear h g
        go_enter Try.func6, Try.ntmps6
        go_wp2_with (first | (go_at_call 11; (with_reducible refine (C0.out _).mono ?_); rintro e wA ⟨rfl, hgwA⟩; obtain ⟨hclwA, hfzwA, hszwA⟩ := gcell hgwA; (try simp [Nat.add_one_le_iff] at hszwA); have hlwA_w : w.heap.size < wA.heap.size := (by omega)) | (go_at_call 7; (with_reducible refine (C2.out _).mono ?_); rintro e wC ⟨rfl, hgwC⟩; obtain ⟨hclwC, hfzwC, hszwC⟩ := gcell hgwC; (try simp [Nat.add_one_le_iff] at hszwC); have hlwC_w : w.heap.size < wC.heap.size := (by omega)) | (go_at_call 9; (with_reducible refine (awake11_c _).mono ?_); rintro e wD ⟨rfl, hgwD⟩; obtain ⟨hclwD, hfzwD, hszwD⟩ := gcell hgwD; (try simp [Nat.add_one_le_iff] at hszwD); have hlwD_wC : wC.heap.size < wD.heap.size := (by omega)) | (go_at_call 8; (with_reducible refine (rlast_c _).mono ?_); rintro e wE ⟨rfl, hgwE⟩; obtain ⟨hclwE, hfzwE, hszwE⟩ := gcell hgwE; (try simp [Nat.add_one_le_iff] at hszwE); have hlwE_wC : wC.heap.size < wE.heap.size := (by omega)))
        go_ret
        exact ⟨rfl, (by repeat (first | exact Gr.refl _ | refine Gr.setCell ?_ _ _ (by first | exact Nat.le_refl _ | (simp; omega) | (simp; done)) | refine Gr.grown ?_ _ _ | refine Gr.drewN ?_ _ | refine Gr.drew ?_ | refine Gr.alloc ?_ _ | refine Gr.grow ?_ _ | (refine Gr.trans ?_ (by assumption))))⟩
    | last Y M D n0 n1 c c2 c3 =>
      have C2 := Lib.hid c
      have C3 := Lib.hid c2
      have C4 := Lib.hid c3
      clear c c2 c3
      go_enter Try.func6, Try.ntmps6
      go_wp2_with (first | (go_at_call 11; (with_reducible refine (C0.out _).mono ?_); rintro e wA ⟨rfl, hgwA⟩; obtain ⟨hclwA, hfzwA, hszwA⟩ := gcell hgwA; (try simp [Nat.add_one_le_iff] at hszwA); have hlwA_w : w.heap.size < wA.heap.size := (by omega)) | (go_at_call 7; (with_reducible refine (C2.out _).mono ?_); rintro e wC ⟨rfl, hgwC⟩; obtain ⟨hclwC, hfzwC, hszwC⟩ := gcell hgwC; (try simp [Nat.add_one_le_iff] at hszwC); have hlwC_w : w.heap.size < wC.heap.size := (by omega)) | (go_at_call 11; (with_reducible refine (C3.out _).mono ?_); rintro e wD ⟨rfl, hgwD⟩; obtain ⟨hclwD, hfzwD, hszwD⟩ := gcell hgwD; (try simp [Nat.add_one_le_iff] at hszwD); have hlwD_w : w.heap.size < wD.heap.size := (by omega); have hlwD_wC : wC.heap.size < wD.heap.size := (by omega)) | (go_at_call 7; (with_reducible refine (C4.out _).mono ?_); rintro e wE ⟨rfl, hgwE⟩; obtain ⟨hclwE, hfzwE, hszwE⟩ := gcell hgwE; (try simp [Nat.add_one_le_iff] at hszwE); have hlwE_w : w.heap.size < wE.heap.size := (by omega); have hlwE_wC : wC.heap.size < wE.heap.size := (by omega)) | (go_at_call 9; (with_reducible refine (awake11_c _).mono ?_); rintro e wF ⟨rfl, hgwF⟩; obtain ⟨hclwF, hfzwF, hszwF⟩ := gcell hgwF; (try simp [Nat.add_one_le_iff] at hszwF); have hlwF_wC : wC.heap.size < wF.heap.size := (by omega); have hlwF_wE : wE.heap.size < wF.heap.size := (by omega)))
      go_ret
      exact ⟨rfl, (by repeat (first | exact Gr.refl _ | refine Gr.setCell ?_ _ _ (by first | exact Nat.le_refl _ | (simp; omega) | (simp; done)) | refine Gr.grown ?_ _ _ | refine Gr.drewN ?_ _ | refine Gr.drew ?_ | refine Gr.alloc ?_ _ | refine Gr.grow ?_ _ | (refine Gr.trans ?_ (by assumption))))⟩
    | next Y M D Y2 M2 D2 n0 n1 c c2 c3 c4 =>
      have C2 := Lib.hid c
      have C3 := Lib.hid c2
      have C4 := Lib.hid c3
      have C5 := Lib.hid c4
      clear c c2 c3 c4
      go_enter Try.func6, Try.ntmps6
      go_wp2_with (first | (go_at_call 11; (with_reducible refine (C0.out _).mono ?_); rintro e wA ⟨rfl, hgwA⟩; obtain ⟨hclwA, hfzwA, hszwA⟩ := gcell hgwA; (try simp [Nat.add_one_le_iff] at hszwA); have hlwA_w : w.heap.size < wA.heap.size := (by omega)) | (go_at_call 7; (with_reducible refine (C2.out _).mono ?_); rintro e wC ⟨rfl, hgwC⟩; obtain ⟨hclwC, hfzwC, hszwC⟩ := gcell hgwC; (try simp [Nat.add_one_le_iff] at hszwC); have hlwC_w : w.heap.size < wC.heap.size := (by omega)) | (go_at_call 11; (with_reducible refine (C3.out _).mono ?_); rintro e wD ⟨rfl, hgwD⟩; obtain ⟨hclwD, hfzwD, hszwD⟩ := gcell hgwD; (try simp [Nat.add_one_le_iff] at hszwD); have hlwD_w : w.heap.size < wD.heap.size := (by omega); have hlwD_wC : wC.heap.size < wD.heap.size := (by omega)) | (go_at_call 7; (with_reducible refine (C4.out _).mono ?_); rintro e wE ⟨rfl, hgwE⟩; obtain ⟨hclwE, hfzwE, hszwE⟩ := gcell hgwE; (try simp [Nat.add_one_le_iff] at hszwE); have hlwE_w : w.heap.size < wE.heap.size := (by omega); have hlwE_wC : wC.heap.size < wE.heap.size := (by omega)) | (go_at_call 9; (with_reducible refine (awake11_c _).mono ?_); rintro e wF ⟨rfl, hgwF⟩; obtain ⟨hclwF, hfzwF, hszwF⟩ := gcell hgwF; (try simp [Nat.add_one_le_iff] at hszwF); have hlwF_wC : wC.heap.size < wF.heap.size := (by omega); have hlwF_wE : wE.heap.size < wF.heap.size := (by omega)) | (go_at_call 17; (with_reducible refine (C5.out _).mono ?_); rintro e wG ⟨rfl, hgwG⟩; obtain ⟨hclwG, hfzwG, hszwG⟩ := gcell hgwG; (try simp [Nat.add_one_le_iff] at hszwG); have hlwG_wC : wC.heap.size < wG.heap.size := (by omega); have hlwG_wE : wE.heap.size < wG.heap.size := (by omega)))
      go_ret
      exact ⟨rfl, (by repeat (first | exact Gr.refl _ | refine Gr.setCell ?_ _ _ (by first | exact Nat.le_refl _ | (simp; omega) | (simp; done)) | refine Gr.grown ?_ _ _ | refine Gr.drewN ?_ _ | refine Gr.drew ?_ | refine Gr.alloc ?_ _ | refine Gr.grow ?_ _ | (refine Gr.trans ?_ (by assumption))))⟩

theorem gregBack_w (y m d n : Int) (w : World) (w0 : (Lit.int .i64 y).wf = true) (w1 : (Lit.int .i64 m).wf = true) (w2 : (Lit.int .i64 d).wf = true) (w3 : (Lit.int .i64 n).wf = true) :
    Calls Try.prog 6 #[.agg #[.int .i64 y, .int .i64 m, .int .i64 d], .int .i64 n] w fun e w' => e = .returned (.bool true) ∧ Gr w w' := by
  refine gregBack_core y m d n (tN y m d) (tE y m d) w (fun w => gto_c y m d w) (fun h w => ?_) (back2_of n)
  obtain ⟨M, hM, n0, n1, h1, h2, h3⟩ := back_date h
  have := gfrom_in (tN y m d) y M d w n0 n1 h1 h2 h3
  rwa [hM] at this

end Go.Proofs.Ytgjgkldkdmohjaa.Walks
