/- Walks of add: the walker's days; a duration, added to a date. -/
import Derived.Test.YtkiopgegdkeojaaGreatDoorAdd
import Derived.Test.YtkiopgegdkeojaaGreatDoorAddMath
set_option linter.unusedVariables false
set_option linter.unusedSimpArgs false
namespace Go.Proofs.YtkiopgegdkeojaaGreatDoor.Walks
open Go Go.RowKit Go.Sort Go.Proofs.YtkiopgegdkeojaaGreatDoor.Base Go.Proofs.YtkiopgegdkeojaaGreatDoor.Plain Go.Proofs.YtkiopgegdkeojaaGreatDoor.Math

set_option maxRecDepth 20000 in
set_option maxHeartbeats 4000000 in
theorem wdays_skip {w : World} {b : Nat} {y n d m e : Int} {c : Bool} (k : Int) (B : WK w b y n c d m e) (hE : e ≠ 0) : Calls Tryz.prog 22 #[.pointer (some ⟨b, 0, none⟩), .int .i64 k] w (Wpost b w y n c d m e) := by
  have q : (e == 0) = false := beq_eq_false_iff_ne.2 hE
  have B2 := B
  obtain ⟨lt, c0, c1, c2, c3, c4, c5, f0, f1, f2, f3, f4, f5⟩ := B2
  go_enter Tryz.func22, Tryz.ntmps22
  go_wp2
  exact ⟨rfl, _, results_none rfl _ _ _, ⟨_, rfl⟩, B, Kb.refl _ _⟩
set_option maxRecDepth 20000 in
set_option maxHeartbeats 8000000 in
theorem wdays_go {w : World} {b : Nat} {y n d m H R1 R2 R4 E : Int} {c R3 : Bool} (k : Int) (B : WK w b y n c d m 0) (h0 : -1373427 ≤ H) (h1 : H ≤ 2278650) (k0 : -40000000 ≤ k) (k1 : k ≤ 40000000)
    (c1 : ∀ W, Kb b w W → Calls Tryz.prog 31 #[.agg #[.int .i64 y, .int .i64 n, .bool c, .int .i64 d]] W fun e w' => e = .returned (.tuple #[.int .i64 H, .int .i64 0]) ∧ Gr W w')
    (c2 : ∀ W, Kb b w W → Calls Tryz.prog 44 #[.int .i64 (H + k)] W fun e w' => e = .returned (.tuple #[.agg #[.int .i64 R1, .int .i64 R2, .bool R3, .int .i64 R4], .int .i64 E]) ∧ Gr W w') :
    Calls Tryz.prog 22 #[.pointer (some ⟨b, 0, none⟩), .int .i64 k] w (Wpost b w R1 R2 R3 R4 m E) := by
  have C1 := Lib.hid c1
  have C2 := Lib.hid c2
  clear c1 c2
  have B2 := B
  obtain ⟨lt, c0, c1, c2, c3, c4, c5, f0, f1, f2, f3, f4, f5⟩ := B2
  go_enter Tryz.func22, Tryz.ntmps22
  go_wp2_with (first | ((go_at_call 31; (with_reducible refine (C1.out _ (Kb.refl _ _)).mono ?_); rintro e wA ⟨rfl, hgwA⟩); have KA : Kb b w wA := (Kb.refl b w).gr hgwA; have BA := B.gr hgwA; clear hgwA lt c0 c1 c2 c3 c4 c5 f0 f1 f2 f3 f4 f5 B) | ((go_at_call 44; (with_reducible refine (C2.out _ KA).mono ?_); rintro e wB ⟨rfl, hgwB⟩); have KB : Kb b w wB := KA.gr hgwB; have BB := BA.gr hgwB; clear hgwB KA BA; have B2 := BB; obtain ⟨lt, c0, c1, c2, c3, c4, c5, f0, f1, f2, f3, f4, f5⟩ := B2))
  exact ⟨rfl, _, results_none rfl _ _ _, ⟨_, rfl⟩, ((((BB.s0 R1).s1 R2).s2 R3).s3 R4).s5 E, ((((KB.set _ _).set _ _).set _ _).set _ _).set _ _⟩

/-- A duration in a box. -/
structure S4 (w : World) (b : Nat) (p q r s : Int) : Prop where
  lt : b < w.heap.size
  c0 : w.cell? ⟨b, 0, none⟩ = some (.int .i64 p)
  c1 : w.cell? ⟨b, 1, none⟩ = some (.int .i64 q)
  c2 : w.cell? ⟨b, 2, none⟩ = some (.int .i64 r)
  c3 : w.cell? ⟨b, 3, none⟩ = some (.int .i64 s)
theorem S4.gr {w w' : World} {b : Nat} {p q r s : Int} (h : S4 w b p q r s) (g : Gr w w') : S4 w' b p q r s := ⟨g.lt h.lt, g.keep h.lt h.c0, g.keep h.lt h.c1, g.keep h.lt h.c2, g.keep h.lt h.c3⟩
/-- A date in a box. -/
structure D5 (w : World) (b : Nat) (y n : Int) (c : Bool) (d : Int) : Prop where
  lt : b < w.heap.size
  c0 : w.cell? ⟨b, 0, none⟩ = some (.int .i64 y)
  c1 : w.cell? ⟨b, 1, none⟩ = some (.int .i64 n)
  c2 : w.cell? ⟨b, 2, none⟩ = some (.bool c)
  c3 : w.cell? ⟨b, 3, none⟩ = some (.int .i64 d)
  f0 : w.frozen? ⟨b, 0, none⟩ = false
  f1 : w.frozen? ⟨b, 1, none⟩ = false
  f2 : w.frozen? ⟨b, 2, none⟩ = false
  f3 : w.frozen? ⟨b, 3, none⟩ = false
theorem D5.gr {w w' : World} {b : Nat} {y n d : Int} {c : Bool} (h : D5 w b y n c d) (g : Gr w w') : D5 w' b y n c d :=
  ⟨g.lt h.lt, g.keep h.lt h.c0, g.keep h.lt h.c1, g.keep h.lt h.c2, g.keep h.lt h.c3, g.thaw h.lt h.f0, g.thaw h.lt h.f1, g.thaw h.lt h.f2, g.thaw h.lt h.f3⟩
/-- The boxes of To. -/
theorem to_new (w : World) (y n d p q r s : Int) (c : Bool) : ∃ W, W = ((w.alloc (.cells #[.int .i64 y, .int .i64 n, .bool c, .int .i64 d] 25)).alloc (.cells #[.int .i64 p, .int .i64 q, .int .i64 r, .int .i64 s] 27)).alloc (.cells #[.int .i64 0, .int .i64 0, .bool false, .int .i64 0] 25) ∧
    D5 W w.heap.size y n c d ∧ S4 W (w.heap.size + 1) p q r s ∧ D5 W (w.heap.size + 1 + 1) 0 0 false 0 ∧ Gr w W :=
  ⟨_, rfl, ⟨by simp; omega, by simp [go_sem], by simp [go_sem], by simp [go_sem], by simp [go_sem], by simp [go_sem], by simp [go_sem], by simp [go_sem], by simp [go_sem]⟩,
    ⟨by simp, by simp [go_sem], by simp [go_sem], by simp [go_sem], by simp [go_sem]⟩, ⟨by simp, by simp [go_sem], by simp [go_sem], by simp [go_sem], by simp [go_sem], by simp [go_sem], by simp [go_sem], by simp [go_sem], by simp [go_sem]⟩, (by repeat (first | exact Gr.refl _ | refine Gr.setCell ?_ _ _ (by first | exact Nat.le_refl _ | (simp; omega) | (simp; done)) | refine Gr.grown ?_ _ _ | refine Gr.drewN ?_ _ | refine Gr.drew ?_ | refine Gr.alloc ?_ _ | refine Gr.grow ?_ _ | (refine Gr.trans ?_ (by assumption))))⟩

set_option maxRecDepth 20000 in
set_option maxHeartbeats 8000000 in
theorem to_core (y n d p q r s m : Int) (c : Bool) (y1 n1 y2 n2 d3 E0 E1 E2 E3 E Z1 Z2 Z4 R1 R2 R4 : Int) (c1 c2 Z3 R3 : Bool) (w : World) (hR : spR p q r s = true) (hm : m = 0 ∨ m = 1)
    (k0 : ∀ W, Gr w W → Calls Tryz.prog 18 #[.agg #[.int .i64 y, .int .i64 n, .bool c, .int .i64 d]] W fun e w' => e = .returned (.int .i64 E0) ∧ Gr W w')
    (k1 : ∀ W b, Gr w W → WK W b y n c d m E0 → Calls Tryz.prog 19 #[.pointer (some ⟨b, 0, none⟩), .int .i64 p] W (Wpost b W y1 n1 c1 d m E1))
    (k2 : ∀ W b, Gr w W → w.heap.size ≤ b → WK W b y1 n1 c1 d m E1 → Calls Tryz.prog 20 #[.pointer (some ⟨b, 0, none⟩), .int .i64 q] W (Wpost b W y2 n2 c2 d m E2))
    (k3 : ∀ W b, Gr w W → w.heap.size ≤ b → WK W b y2 n2 c2 d m E2 → Calls Tryz.prog 21 #[.pointer (some ⟨b, 0, none⟩)] W (Wpost b W y2 n2 c2 d3 m E3))
    (k4 : ∀ W b, Gr w W → w.heap.size ≤ b → WK W b y2 n2 c2 d3 m E3 → Calls Tryz.prog 22 #[.pointer (some ⟨b, 0, none⟩), .int .i64 (7 * r + s)] W (Wpost b W Z1 Z2 Z3 Z4 m E))
    (hE : (E = 0 ∧ R1 = Z1 ∧ R2 = Z2 ∧ R3 = Z3 ∧ R4 = Z4) ∨ (E ≠ 0 ∧ R1 = 0 ∧ R2 = 0 ∧ R3 = false ∧ R4 = 0)) :
    Calls Tryz.prog 7 #[.agg #[.int .i64 y, .int .i64 n, .bool c, .int .i64 d], .agg #[.int .i64 p, .int .i64 q, .int .i64 r, .int .i64 s], .int .i64 m] w fun e w' => e = .returned (.tuple #[.agg #[.int .i64 R1, .int .i64 R2, .bool R3, .int .i64 R4], .int .i64 E]) ∧ Gr w w' := by
  have K0 := Lib.hid k0
  have K1 := Lib.hid k1
  have K2 := Lib.hid k2
  have K3 := Lib.hid k3
  have K4 := Lib.hid k4
  have HE := Lib.hid hE
  have CR : RowKit.Hid (∀ W, Calls Tryz.prog 10 #[.agg #[.int .i64 p, .int .i64 q, .int .i64 r, .int .i64 s]] W fun e w' => e = .returned (.bool true) ∧ Gr W w') := Lib.hid fun W => by
    have := right_c p q r s W
    rwa [hR] at this
  have hs : -4000000 ≤ r ∧ r ≤ 4000000 ∧ -4000000 ≤ s ∧ s ≤ 4000000 := by
    unfold spR spF at hR
    simp only [Bool.and_eq_true, decide_eq_true_eq] at hR
    omega
  obtain ⟨s0, s1, s2, s3⟩ := hs
  clear k0 k1 k2 k3 k4 hE hR


  go_enter Tryz.func7, Tryz.ntmps7
  rcases hm with rfl | rfl
  · go_wp2_with (first | (go_at_call 10; fail))
    obtain ⟨W0, hW0, DA, SA, RA, GA⟩ := to_new w y n d p q r s c
    rw [← hW0]
    clear hW0
    refine (CR.out _).mono ?_
    rintro e wA ⟨rfl, hgA⟩
    have DA := DA.gr hgA
    have SA := SA.gr hgA
    have RA := RA.gr hgA
    have GA := GA.trans hgA
    clear hgA
    go_wp2
    have u0 := gcell_in DA.lt DA.c0
    have u1 := gcell_in DA.lt DA.c1
    have u2 := gcell_in DA.lt DA.c2
    have u3 := gcell_in DA.lt DA.c3
    (refine wp_region_grown_tail 4 mixed (by kernel_rfl) ?_; simp only [List.take_succ_cons, List.take_zero, List.drop_succ_cons, List.drop_zero]; (repeat (first | go_big_quiet_step ((first | (go_at_call 18; exact gr_of (K0.out _ ((by repeat (first | exact Gr.refl _ | refine Gr.setCell ?_ _ _ (by first | exact Nat.le_refl _ | (simp; omega) | (simp; done)) | refine Gr.grown ?_ _ _ | refine Gr.drewN ?_ _ | refine Gr.drew ?_ | refine Gr.alloc ?_ _ | refine Gr.grow ?_ _ | (refine Gr.trans ?_ (by assumption))))))))) | quiet_step ((first | (go_at_call 18; exact gr_of (K0.out _ ((by repeat (first | exact Gr.refl _ | refine Gr.setCell ?_ _ _ (by first | exact Nat.le_refl _ | (simp; omega) | (simp; done)) | refine Gr.grown ?_ _ _ | refine Gr.drewN ?_ _ | refine Gr.drew ?_ | refine Gr.alloc ?_ _ | refine Gr.grow ?_ _ | (refine Gr.trans ?_ (by assumption))))))))))); refine wpQuiet_nil ?_; intro _ hw'; obtain ⟨⟨nq, osq⟩, hw''⟩ := hw'; subst hw'')
    obtain ⟨W3, hW3⟩ : ∃ W3, W3 = grow (wA.drewN nq) osq := ⟨_, rfl⟩
    have G3 : Gr wA W3 := by rw [hW3]; exact (Gr.refl wA).grown nq osq
    rw [← hW3]
    have S3 := SA.gr G3
    have R3' := RA.gr G3
    have GW := GA.trans G3
    clear hW3 u0 u1 u2 u3 DA SA RA GA G3
    obtain ⟨ls, p0, p1, p2, p3⟩ := S3
    have S3 : S4 W3 (w.heap.size + 1) p q r s := ⟨ls, p0, p1, p2, p3⟩
    have hb : w.heap.size ≤ W3.heap.size := GW.size
    go_wp2_with (first | (go_at_call 19; fail))
    obtain ⟨W4, hW4⟩ : ∃ W4, W4 = W3.alloc (.cells #[.int .i64 y, .int .i64 n, .bool c, .int .i64 d, .int .i64 0, .int .i64 E0] 44) := ⟨_, rfl⟩
    rw [← hW4]
    have B4 : WK W4 W3.heap.size y n c d 0 E0 := by rw [hW4]; exact ⟨by simp, by simp [go_sem], by simp [go_sem], by simp [go_sem], by simp [go_sem], by simp [go_sem], by simp [go_sem], by simp [go_sem], by simp [go_sem], by simp [go_sem], by simp [go_sem], by simp [go_sem], by simp [go_sem]⟩
    have G4 : Gr W3 W4 := by rw [hW4]; exact (Gr.refl _).alloc _
    clear hW4
    refine (K1.out _ _ (GW.trans G4) B4).mono ?_
    rintro e wC ⟨⟨vC, rfl⟩, BC, KC⟩
    have GC : Gr W3 wC := KC W3 G4 (Nat.le_refl _)
    clear ls p0 p1 p2 p3
    obtain ⟨ls, p0, p1, p2, p3⟩ := S3.gr GC
    go_wp2_with (first | (go_at_call 20; fail))
    refine (K2.out _ _ (GW.trans GC) hb BC).mono ?_
    rintro e wD ⟨⟨vD, rfl⟩, BD, KD⟩
    have GD : Gr W3 wD := KD W3 GC (Nat.le_refl _)
    clear ls p0 p1 p2 p3
    obtain ⟨ls, p0, p1, p2, p3⟩ := S3.gr GD
    go_wp2_with (first | (go_at_call 21; fail))
    refine (K3.out _ _ (GW.trans GD) hb BD).mono ?_
    rintro e wE ⟨⟨vE, rfl⟩, BE, KE⟩
    have GE : Gr W3 wE := KE W3 GD (Nat.le_refl _)
    clear ls p0 p1 p2 p3
    obtain ⟨ls, p0, p1, p2, p3⟩ := S3.gr GE
    go_wp2_with (first | (go_at_call 22; fail))
    refine (K4.out _ _ (GW.trans GE) hb BE).mono ?_
    rintro e wF ⟨⟨vF, rfl⟩, BF, KF⟩
    have GF : Gr W3 wF := KF W3 GE (Nat.le_refl _)
    clear ls p0 p1 p2 p3
    obtain ⟨ls, p0, p1, p2, p3⟩ := S3.gr GF
    obtain ⟨lr, r0, r1, r2, r3, g0, g1, g2, g3⟩ := R3'.gr GF
    have GZ := GW.trans GF
    have hn := R3'.lt
    have hn1 : ¬ w.heap.size + 1 + 1 = W3.heap.size := by omega
    have hn2 : ¬ W3.heap.size = w.heap.size + 1 + 1 := by omega
    clear ls p0 p1 p2 p3 BC BD BE KC KD KE KF GC GD GE G4 B4 S3 R3'
    have lb := BF.lt
    obtain ⟨lw, b0, b1, b2, b3, b4, b5, f0, f1, f2, f3, f4, f5⟩ := BF
    rcases HE.out with ⟨rfl, rfl, rfl, rfl, rfl⟩ | ⟨e, rfl, rfl, rfl, rfl⟩
    · go_wp2
      exact bodyPost_ret (v := .tuple #[.agg #[.int .i64 R1, .int .i64 R2, .bool R3, .int .i64 R4], .int .i64 0]) (by simp [results, Tryz.results7, go_sem, *]) rfl ⟨rfl, (by repeat (first | exact Gr.refl _ | refine Gr.setCell ?_ _ _ (by first | exact Nat.le_refl _ | (simp; omega) | (simp; done)) | refine Gr.grown ?_ _ _ | refine Gr.drewN ?_ _ | refine Gr.drew ?_ | refine Gr.alloc ?_ _ | refine Gr.grow ?_ _ | (refine Gr.trans ?_ (by assumption))))⟩
    · have q1 : (E == 0) = false := beq_eq_false_iff_ne.2 e
      have q2 : (E != 0) = true := by simp [bne_iff_ne, e]
      go_wp2
      go_region_held3 (fun w' => w'.cell? ⟨W3.heap.size, 5, none⟩ = some (.int .i64 E)) (first | go_keep | (simp [go_sem, *]; done)) (fail)
      all_goals (
        go_wp2
        exact bodyPost_ret (v := .tuple #[.agg #[.int .i64 0, .int .i64 0, .bool false, .int .i64 0], .int .i64 E]) (by simp [results, Tryz.results7, go_sem, *]) rfl ⟨rfl, (by repeat (first | exact Gr.refl _ | refine Gr.setCell ?_ _ _ (by first | exact Nat.le_refl _ | (simp; omega) | (simp; done)) | refine Gr.grown ?_ _ _ | refine Gr.drewN ?_ _ | refine Gr.drew ?_ | refine Gr.alloc ?_ _ | refine Gr.grow ?_ _ | (refine Gr.trans ?_ (by assumption))))⟩)
  · go_wp2_with (first | (go_at_call 10; fail))
    obtain ⟨W0, hW0, DA, SA, RA, GA⟩ := to_new w y n d p q r s c
    rw [← hW0]
    clear hW0
    refine (CR.out _).mono ?_
    rintro e wA ⟨rfl, hgA⟩
    have DA := DA.gr hgA
    have SA := SA.gr hgA
    have RA := RA.gr hgA
    have GA := GA.trans hgA
    clear hgA
    go_wp2
    have u0 := gcell_in DA.lt DA.c0
    have u1 := gcell_in DA.lt DA.c1
    have u2 := gcell_in DA.lt DA.c2
    have u3 := gcell_in DA.lt DA.c3
    (refine wp_region_grown_tail 4 mixed (by kernel_rfl) ?_; simp only [List.take_succ_cons, List.take_zero, List.drop_succ_cons, List.drop_zero]; (repeat (first | go_big_quiet_step ((first | (go_at_call 18; exact gr_of (K0.out _ ((by repeat (first | exact Gr.refl _ | refine Gr.setCell ?_ _ _ (by first | exact Nat.le_refl _ | (simp; omega) | (simp; done)) | refine Gr.grown ?_ _ _ | refine Gr.drewN ?_ _ | refine Gr.drew ?_ | refine Gr.alloc ?_ _ | refine Gr.grow ?_ _ | (refine Gr.trans ?_ (by assumption))))))))) | quiet_step ((first | (go_at_call 18; exact gr_of (K0.out _ ((by repeat (first | exact Gr.refl _ | refine Gr.setCell ?_ _ _ (by first | exact Nat.le_refl _ | (simp; omega) | (simp; done)) | refine Gr.grown ?_ _ _ | refine Gr.drewN ?_ _ | refine Gr.drew ?_ | refine Gr.alloc ?_ _ | refine Gr.grow ?_ _ | (refine Gr.trans ?_ (by assumption))))))))))); refine wpQuiet_nil ?_; intro _ hw'; obtain ⟨⟨nq, osq⟩, hw''⟩ := hw'; subst hw'')
    obtain ⟨W3, hW3⟩ : ∃ W3, W3 = grow (wA.drewN nq) osq := ⟨_, rfl⟩
    have G3 : Gr wA W3 := by rw [hW3]; exact (Gr.refl wA).grown nq osq
    rw [← hW3]
    have S3 := SA.gr G3
    have R3' := RA.gr G3
    have GW := GA.trans G3
    clear hW3 u0 u1 u2 u3 DA SA RA GA G3
    obtain ⟨ls, p0, p1, p2, p3⟩ := S3
    have S3 : S4 W3 (w.heap.size + 1) p q r s := ⟨ls, p0, p1, p2, p3⟩
    have hb : w.heap.size ≤ W3.heap.size := GW.size
    go_wp2_with (first | (go_at_call 19; fail))
    obtain ⟨W4, hW4⟩ : ∃ W4, W4 = W3.alloc (.cells #[.int .i64 y, .int .i64 n, .bool c, .int .i64 d, .int .i64 1, .int .i64 E0] 44) := ⟨_, rfl⟩
    rw [← hW4]
    have B4 : WK W4 W3.heap.size y n c d 1 E0 := by rw [hW4]; exact ⟨by simp, by simp [go_sem], by simp [go_sem], by simp [go_sem], by simp [go_sem], by simp [go_sem], by simp [go_sem], by simp [go_sem], by simp [go_sem], by simp [go_sem], by simp [go_sem], by simp [go_sem], by simp [go_sem]⟩
    have G4 : Gr W3 W4 := by rw [hW4]; exact (Gr.refl _).alloc _
    clear hW4
    refine (K1.out _ _ (GW.trans G4) B4).mono ?_
    rintro e wC ⟨⟨vC, rfl⟩, BC, KC⟩
    have GC : Gr W3 wC := KC W3 G4 (Nat.le_refl _)
    clear ls p0 p1 p2 p3
    obtain ⟨ls, p0, p1, p2, p3⟩ := S3.gr GC
    go_wp2_with (first | (go_at_call 20; fail))
    refine (K2.out _ _ (GW.trans GC) hb BC).mono ?_
    rintro e wD ⟨⟨vD, rfl⟩, BD, KD⟩
    have GD : Gr W3 wD := KD W3 GC (Nat.le_refl _)
    clear ls p0 p1 p2 p3
    obtain ⟨ls, p0, p1, p2, p3⟩ := S3.gr GD
    go_wp2_with (first | (go_at_call 21; fail))
    refine (K3.out _ _ (GW.trans GD) hb BD).mono ?_
    rintro e wE ⟨⟨vE, rfl⟩, BE, KE⟩
    have GE : Gr W3 wE := KE W3 GD (Nat.le_refl _)
    clear ls p0 p1 p2 p3
    obtain ⟨ls, p0, p1, p2, p3⟩ := S3.gr GE
    go_wp2_with (first | (go_at_call 22; fail))
    refine (K4.out _ _ (GW.trans GE) hb BE).mono ?_
    rintro e wF ⟨⟨vF, rfl⟩, BF, KF⟩
    have GF : Gr W3 wF := KF W3 GE (Nat.le_refl _)
    clear ls p0 p1 p2 p3
    obtain ⟨ls, p0, p1, p2, p3⟩ := S3.gr GF
    obtain ⟨lr, r0, r1, r2, r3, g0, g1, g2, g3⟩ := R3'.gr GF
    have GZ := GW.trans GF
    have hn := R3'.lt
    have hn1 : ¬ w.heap.size + 1 + 1 = W3.heap.size := by omega
    have hn2 : ¬ W3.heap.size = w.heap.size + 1 + 1 := by omega
    clear ls p0 p1 p2 p3 BC BD BE KC KD KE KF GC GD GE G4 B4 S3 R3'
    have lb := BF.lt
    obtain ⟨lw, b0, b1, b2, b3, b4, b5, f0, f1, f2, f3, f4, f5⟩ := BF
    rcases HE.out with ⟨rfl, rfl, rfl, rfl, rfl⟩ | ⟨e, rfl, rfl, rfl, rfl⟩
    · go_wp2
      exact bodyPost_ret (v := .tuple #[.agg #[.int .i64 R1, .int .i64 R2, .bool R3, .int .i64 R4], .int .i64 0]) (by simp [results, Tryz.results7, go_sem, *]) rfl ⟨rfl, (by repeat (first | exact Gr.refl _ | refine Gr.setCell ?_ _ _ (by first | exact Nat.le_refl _ | (simp; omega) | (simp; done)) | refine Gr.grown ?_ _ _ | refine Gr.drewN ?_ _ | refine Gr.drew ?_ | refine Gr.alloc ?_ _ | refine Gr.grow ?_ _ | (refine Gr.trans ?_ (by assumption))))⟩
    · have q1 : (E == 0) = false := beq_eq_false_iff_ne.2 e
      have q2 : (E != 0) = true := by simp [bne_iff_ne, e]
      go_wp2
      go_region_held3 (fun w' => w'.cell? ⟨W3.heap.size, 5, none⟩ = some (.int .i64 E)) (first | go_keep | (simp [go_sem, *]; done)) (fail)
      all_goals (
        go_wp2
        exact bodyPost_ret (v := .tuple #[.agg #[.int .i64 0, .int .i64 0, .bool false, .int .i64 0], .int .i64 E]) (by simp [results, Tryz.results7, go_sem, *]) rfl ⟨rfl, (by repeat (first | exact Gr.refl _ | refine Gr.setCell ?_ _ _ (by first | exact Nat.le_refl _ | (simp; omega) | (simp; done)) | refine Gr.grown ?_ _ _ | refine Gr.drewN ?_ _ | refine Gr.drew ?_ | refine Gr.alloc ?_ _ | refine Gr.grow ?_ _ | (refine Gr.trans ?_ (by assumption))))⟩)

end Go.Proofs.YtkiopgegdkeojaaGreatDoor.Walks
