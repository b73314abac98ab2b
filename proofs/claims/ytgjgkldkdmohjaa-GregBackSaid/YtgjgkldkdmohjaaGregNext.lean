/- The next day is the next of the month, or the first of the next month: the walk of the law; every input. -/
import Derived.Test.YtgjgkldkdmohjaaAwake11
set_option linter.unusedVariables false
set_option linter.unusedSimpArgs false
namespace Go.Proofs.Ytgjgkldkdmohjaa.Walks
open Go Go.RowKit Go.Sort Go.Proofs.Ytgjgkldkdmohjaa.Base Go.Proofs.Ytgjgkldkdmohjaa.Plain Go.Proofs.Ytgjgkldkdmohjaa.Math

/-- The date behind a date, in plain numbers. -/
theorem next_date {n Y : Int} {M : Nat} {D : Int} (hY : gyr n = Y) (hok : gok Y M D) (hd : gd Y M D = n) :
    (D < gmd (gl Y) M → gyr (n + 1) = Y ∧ gok Y M (D + 1) ∧ gd Y M (D + 1) = n + 1) ∧
    (D = gmd (gl Y) M → M < 12 → gyr (n + 1) = Y ∧ gok Y (M + 1) 1 ∧ gd Y (M + 1) 1 = n + 1) ∧
    (D = gmd (gl Y) M → M = 12 → gyr (n + 1) = Y + 1 ∧ gok (Y + 1) 1 1 ∧ gd (Y + 1) 1 1 = n + 1) := by
  obtain ⟨m0, m1, d0, d1⟩ := hok
  have hn := gyr_is (n + 1)
  have step : gc (gl Y) (M + 1) = gc (gl Y) M + gmd (gl Y) M := rfl
  refine ⟨fun h => ?_, fun h k => ?_, fun h k => ?_⟩
  · have ok : gok Y M (D + 1) := ⟨m0, m1, by omega, by omega⟩
    have e : gd Y M (D + 1) = n + 1 := by unfold gd at hd ⊢; omega
    have i := gd_in ok
    rw [e] at i
    exact ⟨year_uniq hn.1 hn.2 i.1 i.2, ok, e⟩
  · have r := gmd_12 (gl Y) ((M + 1 : Nat) : Int) (by omega) (by omega)
    have ok : gok Y (M + 1) 1 := ⟨by omega, by omega, by omega, by omega⟩
    have e : gd Y (M + 1) 1 = n + 1 := by unfold gd at hd ⊢; omega
    have i := gd_in ok
    rw [e] at i
    exact ⟨year_uniq hn.1 hn.2 i.1 i.2, ok, e⟩
  · have r := gmd_12 (gl (Y + 1)) ((1 : Nat) : Int) (by omega) (by omega)
    have ok : gok (Y + 1) 1 1 := ⟨by omega, by omega, by omega, by omega⟩
    have e : gd (Y + 1) 1 1 = n + 1 := by
      have := gb_next Y
      subst k
      have : gc (gl Y) 13 = gc (gl Y) 12 + gmd (gl Y) (12 : Nat) := rfl
      unfold gd at hd ⊢
      rw [gc_1]
      omega
    have i := gd_in ok
    rw [e] at i
    exact ⟨year_uniq hn.1 hn.2 i.1 i.2, ok, e⟩

/-- A box of three cells, stored over twice. -/
theorem six (W0 : World) (X Z : Nat) (hXZ : X ≠ Z) {u0 u1 u2 z0 z1 z2 a b c a' b' c' : Value} (h0 : W0.cell? ⟨X, 0, none⟩ = some u0) (h1 : W0.cell? ⟨X, 1, none⟩ = some u1) (h2 : W0.cell? ⟨X, 2, none⟩ = some u2)
    (k0 : W0.cell? ⟨Z, 0, none⟩ = some z0) (k1 : W0.cell? ⟨Z, 1, none⟩ = some z1) (k2 : W0.cell? ⟨Z, 2, none⟩ = some z2) (W : World)
    (hW : W = ((((((W0.setCell ⟨X, 0, none⟩ a).setCell ⟨X, 1, none⟩ b).setCell ⟨X, 2, none⟩ c).setCell ⟨X, 0, none⟩ a').setCell ⟨X, 1, none⟩ b').setCell ⟨X, 2, none⟩ c')) :
    W.cell? ⟨X, 0, none⟩ = some a' ∧ W.cell? ⟨X, 1, none⟩ = some b' ∧ W.cell? ⟨X, 2, none⟩ = some c' ∧ W.cell? ⟨Z, 0, none⟩ = some z0 ∧ W.cell? ⟨Z, 1, none⟩ = some z1 ∧ W.cell? ⟨Z, 2, none⟩ = some z2 := by
  subst hW
  refine ⟨?_, ?_, ?_, ?_, ?_, ?_⟩
  · exact Eq.trans (set_cell (set_cell (set_cell (set_cell (set_cell (set_cell h0)))))) (by simp)
  · exact Eq.trans (set_cell (set_cell (set_cell (set_cell (set_cell (set_cell h1)))))) (by simp)
  · exact Eq.trans (set_cell (set_cell (set_cell (set_cell (set_cell (set_cell h2)))))) (by simp)
  · exact Eq.trans (set_cell (set_cell (set_cell (set_cell (set_cell (set_cell k0)))))) (by simp [hXZ])
  · exact Eq.trans (set_cell (set_cell (set_cell (set_cell (set_cell (set_cell k1)))))) (by simp [hXZ])
  · exact Eq.trans (set_cell (set_cell (set_cell (set_cell (set_cell (set_cell k2)))))) (by simp [hXZ])

theorem base3 (W : World) (q : Nat) (a b c d e f : Value) (W0 : World) (hW : W0 = ((W.alloc (.cells #[a, b, c] 23)).alloc (.cells #[d, e, f] 23)).drewN q) :
    W0.cell? ⟨W.heap.size + 1, 0, none⟩ = some d ∧ W0.cell? ⟨W.heap.size + 1, 1, none⟩ = some e ∧ W0.cell? ⟨W.heap.size + 1, 2, none⟩ = some f ∧ W0.cell? ⟨W.heap.size, 0, none⟩ = some a ∧ W0.cell? ⟨W.heap.size, 1, none⟩ = some b ∧ W0.cell? ⟨W.heap.size, 2, none⟩ = some c ∧ Gr W W0 ∧ W.heap.size + 1 < W0.heap.size := by
  have g : Gr W W0 := by rw [hW]; exact (by repeat (first | exact Gr.refl _ | refine Gr.setCell ?_ _ _ (by first | exact Nat.le_refl _ | (simp; omega) | (simp; done)) | refine Gr.grown ?_ _ _ | refine Gr.drewN ?_ _ | refine Gr.drew ?_ | refine Gr.alloc ?_ _ | refine Gr.grow ?_ _ | (refine Gr.trans ?_ (by assumption))))
  have h : ∀ k, (World.drewN W0 k).heap.size = W0.heap.size := fun _ => rfl
  refine ⟨?_, ?_, ?_, ?_, ?_, ?_, g, ?_⟩
  all_goals subst hW
  · simp [go_sem]
  · simp [go_sem]
  · simp [go_sem]
  · simp [go_sem]
  · simp [go_sem]
  · simp [go_sem]
  · show W.heap.size + 1 < ((W.alloc (.cells #[a, b, c] 23)).alloc (.cells #[d, e, f] 23)).heap.size
    simp
/-- The last store's world: what the rest reads. -/
theorem six3 (W : World) (q : Nat) (a b c d e f g h i a' b' c' : Value) (w : World) (hw : Gr w W) (W1 : World)
    (hW : W1 = ((((((((W.alloc (.cells #[a, b, c] 23)).alloc (.cells #[d, e, f] 23)).drewN q).setCell ⟨W.heap.size + 1, 0, none⟩ g).setCell ⟨W.heap.size + 1, 1, none⟩ h).setCell ⟨W.heap.size + 1, 2, none⟩ i).setCell ⟨W.heap.size + 1, 0, none⟩ a').setCell ⟨W.heap.size + 1, 1, none⟩ b').setCell ⟨W.heap.size + 1, 2, none⟩ c') :
    W1.cell? ⟨W.heap.size + 1, 0, none⟩ = some a' ∧ W1.cell? ⟨W.heap.size + 1, 1, none⟩ = some b' ∧ W1.cell? ⟨W.heap.size + 1, 2, none⟩ = some c' ∧ W1.cell? ⟨W.heap.size, 0, none⟩ = some a ∧ W1.cell? ⟨W.heap.size, 1, none⟩ = some b ∧ W1.cell? ⟨W.heap.size, 2, none⟩ = some c ∧ Gr w W1 ∧ W.heap.size + 1 < W1.heap.size := by
  obtain ⟨p1, p2, p3, p4, p5, p6, p7, p8⟩ := base3 W q a b c d e f _ rfl
  obtain ⟨q1, q2, q3, q4, q5, q6⟩ := six _ (W.heap.size + 1) W.heap.size (by omega) p1 p2 p3 p4 p5 p6 W1 hW
  have g : Gr W W1 := by
    subst hW
    have k : W.heap.size ≤ W.heap.size + 1 := by omega
    exact ((((((p7.setCell _ _ k).setCell _ _ k).setCell _ _ k).setCell _ _ k).setCell _ _ k).setCell _ _ k)
  refine ⟨q1, q2, q3, q4, q5, q6, hw.trans g, ?_⟩
  subst hW
  simp

set_option maxHeartbeats 4000000 in
/-- The walk, the two dates being known. -/
theorem next_core (n Y D Y2 M2 D2 T : Int) (M : Nat) (w : World) (n0 : -1373427 ≤ n) (n1 : n < 2278650) (y0 : -10000 ≤ Y) (y1 : Y ≤ 10000) (m0 : 1 ≤ M) (m1 : M ≤ 12) (d0 : 1 ≤ D) (d1 : D ≤ T) (t1 : T ≤ 31) (hT : gmd (gl Y) M = T)
    (c1 : ∀ w, Calls Try.prog 7 #[.int .i64 n] w fun e w' => e = .returned (.tuple #[.agg #[.int .i64 Y, .int .i64 (M : Int), .int .i64 D], .int .i64 0]) ∧ Gr w w')
    (c2 : ∀ w, Calls Try.prog 7 #[.int .i64 (n + 1)] w fun e w' => e = .returned (.tuple #[.agg #[.int .i64 Y2, .int .i64 M2, .int .i64 D2], .int .i64 0]) ∧ Gr w w')
    (h : (D < T ∧ Y2 = Y ∧ M2 = M ∧ D2 = D + 1) ∨ (D = T ∧ M < 12 ∧ Y2 = Y ∧ M2 = M + 1 ∧ D2 = 1) ∨ (D = T ∧ M = 12 ∧ Y2 = Y + 1 ∧ M2 = 1 ∧ D2 = 1)) :
    Calls Try.prog 3 #[.int .i64 n] w fun e w' => e = .returned (.bool true) ∧ Gr w w' := by
  have C1 := Lib.hid c1
  have C2 := Lib.hid c2
  have CD : RowKit.Hid (∀ w, Calls Try.prog 10 #[.int .i64 Y, .int .i64 (M : Int)] w fun e w' => e = .returned (.int .i64 T) ∧ w' = w) := Lib.hid fun w => by
    have := gdays_s Y (M : Int) w; rwa [hT] at this
  have nl : (n == 2278650) = false := beq_eq_false_iff_ne.2 (by omega)
  clear c1 c2 hT
  rcases h with ⟨h, rfl, rfl, rfl⟩ | ⟨rfl, h, rfl, rfl, rfl⟩ | ⟨rfl, h, rfl, rfl, rfl⟩
  · have te : (D == T) = false := beq_eq_false_iff_ne.2 (by omega)
    go_enter Try.func3, Try.ntmps3
    go_wp2_with (first | (go_at_call 7; (with_reducible refine (C1.out _).mono ?_); rintro e wA ⟨rfl, hgwA⟩; obtain ⟨hclwA, hfzwA, hszwA⟩ := gcell hgwA; (try simp [Nat.add_one_le_iff] at hszwA)) | (go_at_call 8; (with_reducible refine (rlast_c _).mono ?_); rintro e wB ⟨rfl, hgwB⟩; obtain ⟨hclwB, hfzwB, hszwB⟩ := gcell hgwB; (try simp [Nat.add_one_le_iff] at hszwB); have hlwB_wA : wA.heap.size < wB.heap.size := (by omega)) | (go_at_call 7; (with_reducible refine (C2.out _).mono ?_); rintro e wC ⟨rfl, hgwC⟩; obtain ⟨hclwC, hfzwC, hszwC⟩ := gcell hgwC; (try simp [Nat.add_one_le_iff] at hszwC); have hlwC_wA : wA.heap.size < wC.heap.size := (by omega)))
    go_quiet ((go_at_call 10; exact Calls.quiet_of_same (CD.out _)))
    go_wp2_with (first | (go_at_call 9; (with_reducible refine (awake11_c _).mono ?_); rintro e wD ⟨rfl, hgwD⟩; obtain ⟨hclwD, hfzwD, hszwD⟩ := gcell hgwD; (try simp [Nat.add_one_le_iff] at hszwD); have hlwD_wA : wA.heap.size < wD.heap.size := (by omega); have hlwD_wC : wC.heap.size < wD.heap.size := (by omega)))
    go_ret
    exact ⟨rfl, (by repeat (first | exact Gr.refl _ | refine Gr.setCell ?_ _ _ (by first | exact Nat.le_refl _ | (simp; omega) | (simp; done)) | refine Gr.grown ?_ _ _ | refine Gr.drewN ?_ _ | refine Gr.drew ?_ | refine Gr.alloc ?_ _ | refine Gr.grow ?_ _ | (refine Gr.trans ?_ (by assumption))))⟩
  · have te : (D == D) = true := by simp
    have mm : ((M : Int) == 12) = false := beq_eq_false_iff_ne.2 (by omega)
    go_enter Try.func3, Try.ntmps3
    go_wp2_with (first | (go_at_call 7; (with_reducible refine (C1.out _).mono ?_); rintro e wA ⟨rfl, hgwA⟩; obtain ⟨hclwA, hfzwA, hszwA⟩ := gcell hgwA; (try simp [Nat.add_one_le_iff] at hszwA)) | (go_at_call 8; (with_reducible refine (rlast_c _).mono ?_); rintro e wB ⟨rfl, hgwB⟩; obtain ⟨hclwB, hfzwB, hszwB⟩ := gcell hgwB; (try simp [Nat.add_one_le_iff] at hszwB); have hlwB_wA : wA.heap.size < wB.heap.size := (by omega)) | (go_at_call 7; (with_reducible refine (C2.out _).mono ?_); rintro e wC ⟨rfl, hgwC⟩; obtain ⟨hclwC, hfzwC, hszwC⟩ := gcell hgwC; (try simp [Nat.add_one_le_iff] at hszwC); have hlwC_wA : wA.heap.size < wC.heap.size := (by omega)))
    go_quiet ((go_at_call 10; exact Calls.quiet_of_same (CD.out _)))
    go_wp2_with (first | (go_at_call 9; (with_reducible refine (awake11_c _).mono ?_); rintro e wD ⟨rfl, hgwD⟩; obtain ⟨hclwD, hfzwD, hszwD⟩ := gcell hgwD; (try simp [Nat.add_one_le_iff] at hszwD); have hlwD_wA : wA.heap.size < wD.heap.size := (by omega); have hlwD_wC : wC.heap.size < wD.heap.size := (by omega)))
    go_ret
    exact ⟨rfl, (by repeat (first | exact Gr.refl _ | refine Gr.setCell ?_ _ _ (by first | exact Nat.le_refl _ | (simp; omega) | (simp; done)) | refine Gr.grown ?_ _ _ | refine Gr.drewN ?_ _ | refine Gr.drew ?_ | refine Gr.alloc ?_ _ | refine Gr.grow ?_ _ | (refine Gr.trans ?_ (by assumption))))⟩
  · have te : (D == D) = true := by simp
    have mm : ((M : Int) == 12) = true := beq_iff_eq.2 (by omega)
    clear h
    go_enter Try.func3, Try.ntmps3
    go_wp2_with (first | (go_at_call 7; (with_reducible refine (C1.out _).mono ?_); rintro e wA ⟨rfl, hgwA⟩; obtain ⟨hclwA, hfzwA, hszwA⟩ := gcell hgwA; (try simp [Nat.add_one_le_iff] at hszwA)) | (go_at_call 8; (with_reducible refine (rlast_c _).mono ?_); rintro e wB ⟨rfl, hgwB⟩; obtain ⟨hclwB, hfzwB, hszwB⟩ := gcell hgwB; (try simp [Nat.add_one_le_iff] at hszwB); have hlwB_wA : wA.heap.size < wB.heap.size := (by omega)) | (go_at_call 7; (with_reducible refine (C2.out _).mono ?_); rintro e wC ⟨rfl, hgwC⟩; obtain ⟨hclwC, hfzwC, hszwC⟩ := gcell hgwC; (try simp [Nat.add_one_le_iff] at hszwC); have hlwC_wA : wA.heap.size < wC.heap.size := (by omega)))
    go_quiet ((go_at_call 10; exact Calls.quiet_of_same (CD.out _)))
    go_wp2_with (first | (go_at_call 9; ((obtain ⟨W1, hW1⟩ : ∃ W1, W1 = ((((((((wC.alloc (.cells #[.int .i64 (Y + 1), .int .i64 1, .int .i64 1] 23)).alloc (.cells #[.int .i64 Y, .int .i64 (M : Int), .int .i64 (D + 1)] 23)).drewN nq).setCell ⟨wC.heap.size + 1, 0, none⟩ (.int .i64 Y)).setCell ⟨wC.heap.size + 1, 1, none⟩ (.int .i64 ((M : Int) + 1))).setCell ⟨wC.heap.size + 1, 2, none⟩ (.int .i64 1)).setCell ⟨wC.heap.size + 1, 0, none⟩ (.int .i64 (Y + 1))).setCell ⟨wC.heap.size + 1, 1, none⟩ (.int .i64 1)).setCell ⟨wC.heap.size + 1, 2, none⟩ (.int .i64 1) := ⟨_, rfl⟩); rw [← hW1]; (obtain ⟨q1, q2, q3, q4, q5, q6, hgW, q8⟩ := six3 wC nq _ _ _ _ _ _ _ _ _ _ _ _ w (by repeat (first | exact Gr.refl _ | refine Gr.setCell ?_ _ _ (by first | exact Nat.le_refl _ | (simp; omega) | (simp; done)) | refine Gr.grown ?_ _ _ | refine Gr.drewN ?_ _ | refine Gr.drew ?_ | refine Gr.alloc ?_ _ | refine Gr.grow ?_ _ | (refine Gr.trans ?_ (by assumption)))) W1 hW1); clear hW1; (with_reducible refine (awake11_c _).mono ?_); rintro e wD ⟨rfl, hgwD⟩; (have r1 := hgwD.keep q8 q1); (have r2 := hgwD.keep q8 q2); (have r3 := hgwD.keep q8 q3); (have q9 : wC.heap.size < W1.heap.size := (by omega)); (have r4 := hgwD.keep q9 q4); (have r5 := hgwD.keep q9 q5); (have r6 := hgwD.keep q9 q6); clear q1 q2 q3 q4 q5 q6 q8 q9)))
    go_ret
    exact ⟨rfl, (by repeat (first | exact Gr.refl _ | refine Gr.setCell ?_ _ _ (by first | exact Nat.le_refl _ | (simp; omega) | (simp; done)) | refine Gr.grown ?_ _ _ | refine Gr.drewN ?_ _ | refine Gr.drew ?_ | refine Gr.alloc ?_ _ | refine Gr.grow ?_ _ | (refine Gr.trans ?_ (by assumption))))⟩

set_option maxHeartbeats 4000000 in
theorem next_out (n : Int) (w : World) (h : n < -1373427 ∨ 2278650 < n) : Calls Try.prog 3 #[.int .i64 n] w fun e w' => e = .returned (.bool true) ∧ Gr w w' := by
  have C1 := Lib.hid fun w => gfrom_out n w h
  clear h
  go_enter Try.func3, Try.ntmps3
  go_wp2_with (first | (go_at_call 7; (with_reducible refine (C1.out _).mono ?_); rintro e wA ⟨rfl, hgwA⟩; obtain ⟨hclwA, hfzwA, hszwA⟩ := gcell hgwA; (try simp [Nat.add_one_le_iff] at hszwA)) | (go_at_call 8; (with_reducible refine (rlast_c _).mono ?_); rintro e wB ⟨rfl, hgwB⟩; obtain ⟨hclwB, hfzwB, hszwB⟩ := gcell hgwB; (try simp [Nat.add_one_le_iff] at hszwB); have hlwB_wA : wA.heap.size < wB.heap.size := (by omega)) | (go_at_call 9; (with_reducible refine (awake11_c _).mono ?_); rintro e wD ⟨rfl, hgwD⟩; obtain ⟨hclwD, hfzwD, hszwD⟩ := gcell hgwD; (try simp [Nat.add_one_le_iff] at hszwD); have hlwD_wA : wA.heap.size < wD.heap.size := (by omega)))
  all_goals go_ret
  all_goals exact ⟨rfl, (by repeat (first | exact Gr.refl _ | refine Gr.setCell ?_ _ _ (by first | exact Nat.le_refl _ | (simp; omega) | (simp; done)) | refine Gr.grown ?_ _ _ | refine Gr.drewN ?_ _ | refine Gr.drew ?_ | refine Gr.alloc ?_ _ | refine Gr.grow ?_ _ | (refine Gr.trans ?_ (by assumption))))⟩
set_option maxHeartbeats 4000000 in
theorem next_last (Y M D : Int) (w : World) (c1 : ∀ w, Calls Try.prog 7 #[.int .i64 2278650] w fun e w' => e = .returned (.tuple #[.agg #[.int .i64 Y, .int .i64 M, .int .i64 D], .int .i64 0]) ∧ Gr w w') : Calls Try.prog 3 #[.int .i64 2278650] w fun e w' => e = .returned (.bool true) ∧ Gr w w' := by
  have C1 := Lib.hid c1
  clear c1
  go_enter Try.func3, Try.ntmps3
  go_wp2_with (first | (go_at_call 7; (with_reducible refine (C1.out _).mono ?_); rintro e wA ⟨rfl, hgwA⟩; obtain ⟨hclwA, hfzwA, hszwA⟩ := gcell hgwA; (try simp [Nat.add_one_le_iff] at hszwA)) | (go_at_call 8; (with_reducible refine (rlast_c _).mono ?_); rintro e wB ⟨rfl, hgwB⟩; obtain ⟨hclwB, hfzwB, hszwB⟩ := gcell hgwB; (try simp [Nat.add_one_le_iff] at hszwB); have hlwB_wA : wA.heap.size < wB.heap.size := (by omega)) | (go_at_call 9; (with_reducible refine (awake11_c _).mono ?_); rintro e wD ⟨rfl, hgwD⟩; obtain ⟨hclwD, hfzwD, hszwD⟩ := gcell hgwD; (try simp [Nat.add_one_le_iff] at hszwD); have hlwD_wA : wA.heap.size < wD.heap.size := (by omega)))
  all_goals go_ret
  all_goals exact ⟨rfl, (by repeat (first | exact Gr.refl _ | refine Gr.setCell ?_ _ _ (by first | exact Nat.le_refl _ | (simp; omega) | (simp; done)) | refine Gr.grown ?_ _ _ | refine Gr.drewN ?_ _ | refine Gr.drew ?_ | refine Gr.alloc ?_ _ | refine Gr.grow ?_ _ | (refine Gr.trans ?_ (by assumption))))⟩

theorem gregNext_w (n : Int) (w : World) (w0 : (Lit.int .i64 n).wf = true) : Calls Try.prog 3 #[.int .i64 n] w fun e w' => e = .returned (.bool true) ∧ Gr w w' := by
  by_cases h : n < -1373427 ∨ 2278650 < n
  · exact next_out n w h
  · obtain ⟨m, d, hok, hd⟩ := date_of n
    have c1 : ∀ w, Calls Try.prog 7 #[.int .i64 n] w fun e w' => e = .returned (.tuple #[.agg #[.int .i64 (gyr n), .int .i64 (m : Int), .int .i64 d], .int .i64 0]) ∧ Gr w w' := fun w => gfrom_in n _ m d w (by omega) (by omega) rfl hok hd
    by_cases k : n = 2278650
    · subst k
      exact next_last _ _ _ w c1
    · obtain ⟨p1, p2, p3⟩ := next_date rfl hok hd
      obtain ⟨m0, m1, d0, d1⟩ := hok
      have r := gmd_12 (gl (gyr n)) (m : Int) (by omega) (by omega)
      have yr := gyr_is n
      have y0 : -10000 ≤ gyr n ∧ gyr n ≤ 10000 := by unfold gb at yr; omega
      by_cases a : d < gmd (gl (gyr n)) m
      · obtain ⟨q1, q2, q3⟩ := p1 a
        exact next_core n (gyr n) d (gyr n) m (d + 1) _ m w (by omega) (by omega) y0.1 y0.2 m0 m1 d0 d1 r.2 rfl c1 (fun w => gfrom_in (n + 1) _ m (d + 1) w (by omega) (by omega) q1 q2 q3) (.inl ⟨a, rfl, rfl, rfl⟩)
      · have a' : d = gmd (gl (gyr n)) m := by omega
        by_cases b : m < 12
        · obtain ⟨q1, q2, q3⟩ := p2 a' b
          exact next_core n (gyr n) d (gyr n) ((m : Int) + 1) 1 _ m w (by omega) (by omega) y0.1 y0.2 m0 m1 d0 d1 r.2 rfl c1 (fun w => gfrom_in (n + 1) _ (m + 1) 1 w (by omega) (by omega) q1 q2 q3) (.inr (.inl ⟨a', b, rfl, rfl, rfl⟩))
        · obtain ⟨q1, q2, q3⟩ := p3 a' (by omega)
          exact next_core n (gyr n) d (gyr n + 1) 1 1 _ m w (by omega) (by omega) y0.1 y0.2 m0 m1 d0 d1 r.2 rfl c1 (fun w => gfrom_in (n + 1) _ 1 1 w (by omega) (by omega) q1 q2 q3) (.inr (.inr ⟨a', by omega, rfl, rfl, rfl⟩))

end Go.Proofs.Ytgjgkldkdmohjaa.Walks
