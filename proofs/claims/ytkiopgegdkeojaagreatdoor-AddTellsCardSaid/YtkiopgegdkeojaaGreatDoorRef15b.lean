/- The walk of almanackerref15.Months: year by year. -/
import Derived.Test.YtkiopgegdkeojaaGreatDoorRef15
set_option linter.unusedVariables false
set_option linter.unusedSimpArgs false
namespace Go.Proofs.YtkiopgegdkeojaaGreatDoor.Walks
open Go Go.RowKit Go.Sort Go.Proofs.YtkiopgegdkeojaaGreatDoor.Base Go.Proofs.YtkiopgegdkeojaaGreatDoor.Plain Go.Proofs.YtkiopgegdkeojaaGreatDoor.Math

set_option maxHeartbeats 2000000 in
theorem rmonths_e (y n q E : Int) (c : Bool) (w : World) (hE : E ≠ 0) (h : ∀ w, Calls Tryz.prog 45 #[.int .i64 y, .agg #[.int .i64 n, .bool c]] w fun e w' => e = .returned (.tuple #[.int .i64 0, .int .i64 E]) ∧ Gr w w') :
    Calls Tryz.prog 25 #[.int .i64 y, .agg #[.int .i64 n, .bool c], .int .i64 q] w fun e w' => e = .returned (.tuple #[.int .i64 0, .agg #[.int .i64 0, .bool false], .int .i64 E]) ∧ Gr w w' := by
  have C1 := Lib.hid h
  have qE : (E == 0) = false := beq_eq_false_iff_ne.2 hE
  clear h hE
  go_enter Tryz.func25, Tryz.ntmps25
  go_wp2_with (first | ((go_at_call 45; (with_reducible refine (C1.out _).mono ?_); rintro e wA ⟨rfl, hgwA⟩); obtain ⟨lt, c0, c1, f0, f1⟩ := (ZC.at (w := w.alloc (.cells #[.int .i64 n, .bool c] 23)) (b := w.heap.size + 1) (by simp)).gr hgwA))
  exact bodyPost_ret (v := .tuple #[.int .i64 0, .agg #[.int .i64 0, .bool false], .int .i64 E]) (by simp [results, Tryz.results25, go_sem, *]) rfl ⟨rfl, (by repeat (first | exact Gr.refl _ | refine Gr.setCell ?_ _ _ (by first | exact Nat.le_refl _ | (simp; omega) | (simp; done)) | refine Gr.grown ?_ _ _ | refine Gr.drewN ?_ _ | refine Gr.drew ?_ | refine Gr.alloc ?_ _ | refine Gr.grow ?_ _ | (refine Gr.trans ?_ (by assumption))))⟩
set_option maxHeartbeats 2000000 in
theorem rmonths_q (y n q L : Int) (c : Bool) (w : World) (hq : q < -4000000 ∨ 4000000 < q) (h : ∀ w, Calls Tryz.prog 45 #[.int .i64 y, .agg #[.int .i64 n, .bool c]] w fun e w' => e = .returned (.tuple #[.int .i64 L, .int .i64 0]) ∧ Gr w w') :
    Calls Tryz.prog 25 #[.int .i64 y, .agg #[.int .i64 n, .bool c], .int .i64 q] w fun e w' => e = .returned (.tuple #[.int .i64 0, .agg #[.int .i64 0, .bool false], .int .i64 1]) ∧ Gr w w' := by
  have C1 := Lib.hid h
  clear h
  by_cases g : q < -4000000
  all_goals (
    try (have g2 : 4000000 < q := by omega)
    clear hq
    go_enter Tryz.func25, Tryz.ntmps25
    go_wp2_with (first | ((go_at_call 45; (with_reducible refine (C1.out _).mono ?_); rintro e wA ⟨rfl, hgwA⟩); obtain ⟨lt, c0, c1, f0, f1⟩ := (ZC.at (w := w.alloc (.cells #[.int .i64 n, .bool c] 23)) (b := w.heap.size + 1) (by simp)).gr hgwA))
    exact bodyPost_ret (v := .tuple #[.int .i64 0, .agg #[.int .i64 0, .bool false], .int .i64 1]) (by simp [results, Tryz.results25, go_sem, *]) rfl ⟨rfl, (by repeat (first | exact Gr.refl _ | refine Gr.setCell ?_ _ _ (by first | exact Nat.le_refl _ | (simp; omega) | (simp; done)) | refine Gr.grown ?_ _ _ | refine Gr.drewN ?_ _ | refine Gr.drew ?_ | refine Gr.alloc ?_ _ | refine Gr.grow ?_ _ | (refine Gr.trans ?_ (by assumption))))⟩)

set_option maxRecDepth 20000 in
set_option maxHeartbeats 16000000 in
theorem rmonths_at (y n q L M T Z R N E : Int) (c l C : Bool) (w : World) (y0 : 1 ≤ y) (y1 : y ≤ 9999) (q0 : -4000000 ≤ q) (q1 : q ≤ 4000000) (M0 : 1 ≤ M) (M1 : M ≤ 13)
    (hT : bf y + M - 1 + q = T) (z0 : 0 ≤ Z) (z1 : Z ≤ 10000) (hz : ∀ y, 1 ≤ y → y ≤ 9999 → ((bf (y + 1) ≤ T ↔ y < Z) ∧ (T < bf y ↔ Z < y)))
    (h1 : ∀ w, Calls Tryz.prog 45 #[.int .i64 y, .agg #[.int .i64 n, .bool c]] w fun e w' => e = .returned (.tuple #[.int .i64 L, .int .i64 0]) ∧ Gr w w')
    (hl : lp y = l) (h3 : ∀ w, Calls Tryz.prog 37 #[.bool l, .agg #[.int .i64 n, .bool c]] w fun e w' => e = .returned (.tuple #[.int .i64 M, .bool true]) ∧ Gr w w')
    (hr : (1 ≤ Z ∧ Z ≤ 9999 → R = Z ∧ E = 0 ∧ ∀ w, Calls Tryz.prog 51 #[.bool (lp Z), .int .i64 (T - bf Z + 1)] w fun e w' => e = .returned (.tuple #[.agg #[.int .i64 N, .bool C], .bool true]) ∧ Gr w w'))
    (hr2 : ¬ (1 ≤ Z ∧ Z ≤ 9999) → R = 0 ∧ N = 0 ∧ C = false ∧ E = 2) :
    Calls Tryz.prog 25 #[.int .i64 y, .agg #[.int .i64 n, .bool c], .int .i64 q] w fun e w' => e = .returned (.tuple #[.int .i64 R, .agg #[.int .i64 N, .bool C], .int .i64 E]) ∧ Gr w w' := by
  have C1 := Lib.hid h1
  have C2 : RowKit.Hid (∀ w, Calls Tryz.prog 49 #[.int .i64 y] w fun e w' => e = .returned (.bool l) ∧ Gr w w') := Lib.hid fun w => by have := ris_c y w (by omega) (by omega); rwa [hl] at this
  have C3 := Lib.hid h3
  have HZ := Lib.hid hz
  have HR := Lib.hid hr
  have HR2 := Lib.hid hr2
  have HT := Lib.hid hT
  have T0 : -4100000 ≤ T ∧ T ≤ 4200000 := by have := bf_mono y0; have := bf_mono (show y ≤ 10000 by omega); have := bf_1; have := bf_all; omega
  have TL := T0.1
  have TU := T0.2
  clear h1 hl h3 hr hr2 hz hT T0
  go_enter Tryz.func25, Tryz.ntmps25
  go_wp2_with (first | ((go_at_call 45; (with_reducible refine (C1.out _).mono ?_); rintro e wA ⟨rfl, hgwA⟩); have c0 := hgwA.keep (b := w.heap.size) (o := 0) (v := .int .i64 n) (by first | (simp; done) | (simp; omega)) (by simp [go_sem]); have c1 := hgwA.keep (b := w.heap.size) (o := 1) (v := .bool c) (by first | (simp; done) | (simp; omega)) (by simp [go_sem]); have hl0 := hgwA.lt (b := w.heap.size) (by simp; omega); have ZA := (ZC.at (w := w.alloc (.cells #[.int .i64 n, .bool c] 23)) (b := w.heap.size + 1) (by simp)).gr hgwA; have GA : Gr w wA := (by repeat (first | exact Gr.refl _ | refine Gr.setCell ?_ _ _ (by first | exact Nat.le_refl _ | (simp; omega) | (simp; done)) | refine Gr.grown ?_ _ _ | refine Gr.drewN ?_ _ | refine Gr.drew ?_ | refine Gr.alloc ?_ _ | refine Gr.grow ?_ _ | (refine Gr.trans ?_ (by assumption))))))
  have x0 := gcell_in hl0 c0; have x1 := gcell_in hl0 c1
  clear hgwA c0 c1
  (refine wp_region_quiet_grown mixed (by kernel_rfl) ?_; (repeat (first | go_big_quiet_step ((first | (go_at_call 49; exact gr_of (C2.out _)) | (go_at_call 37; exact gr_of (C3.out _)))) | quiet_step ((first | (go_at_call 49; exact gr_of (C2.out _)) | (go_at_call 37; exact gr_of (C3.out _)))))); refine wpQuiet_nil ?_; intro _ hw'; obtain ⟨⟨nq, osq⟩, hw''⟩ := hw'; subst hw'')
  have ZB := ZA.gr ((Gr.refl wA).grown nq osq)
  have GB : Gr w (grow (wA.drewN nq) osq) := GA.grown nq osq
  obtain ⟨wB, hB⟩ : ∃ wB, wB = grow (wA.drewN nq) osq := ⟨_, rfl⟩
  rw [← hB] at ZB GB ⊢
  clear hB ZA GA x0 x1 hl0 C1 C2 C3
  go_wp2
  go_loopg [0, 11] 10001 (fun kx s0 s11 wr => ∃ u m : Int, s0 = .int .i64 u ∧ s11 = .int .i64 m ∧ 0 ≤ u ∧ u ≤ 10000 ∧ bf u + m - 1 = T ∧ (Z - u).natAbs ≤ kx ∧ ((1 ≤ u ∧ u ≤ 9999) ∨ u = Z) ∧ ZC wr (w.heap.size + 1) ∧ Gr w wr)
  case atStart => exact ⟨y, M + q, rfl, rfl, by omega, by omega, by have := HT.out; omega, by omega, .inl ⟨y0, y1⟩, ZB, GB⟩
  case round =>
    clear ZB GB
    obtain ⟨u, m, rfl, rfl, u0, u1, hm, hk, hu, ZR, hg⟩ := hrel
    have bu := bf_range (y := u) (by omega) (by omega)
    by_cases e : 1 ≤ u ∧ u ≤ 9999
    · obtain ⟨e0, e1⟩ := e
      have hzu := HZ.out u e0 e1
      have nx := bf_next u
      have m13 := mct_le (lp u)
      have CR : RowKit.Hid (∀ w, Calls Tryz.prog 47 #[.int .i64 u] w fun e w' => e = .returned (.bool true) ∧ Gr w w') := Lib.hid fun w => by
        have := rright7_c u w; rwa [show kyR u = true from decide_eq_true ⟨e0, e1⟩] at this
      have CI : RowKit.Hid (∀ w, Calls Tryz.prog 50 #[.int .i64 u] w fun e w' => e = .returned (.tuple #[.int .i64 (mct (lp u) : Int), .int .i64 0]) ∧ Gr w w') := Lib.hid fun w => by
        have := rin_c u w; rwa [inN_in (by omega) (by omega), yE_in (by omega) (by omega), ml_mct] at this
      obtain ⟨I, hI⟩ : ∃ I : Int, (mct (lp u) : Int) = I := ⟨_, rfl⟩
      rw [hI] at CI nx
      have i0 : 12 ≤ I := by omega
      have i1 : I ≤ 13 := by omega
      have ml0 : -4300000 ≤ m := by omega
      have ml1 : m ≤ 4300000 := by omega
      by_cases a : I < m
      · have up : u < Z := by omega
        have HN := Lib.hid nx
        have HM := Lib.hid hm
        clear hzu nx hI hm bu m13 hu
        go_wp2_with (first | ((go_at_call 47; (with_reducible refine (CR.out _).mono ?_); rintro e w1 ⟨rfl, hgw1⟩); have Z1 := ZR.gr hgw1; have G1 : Gr w w1 := hg.trans hgw1; clear hgw1) | ((go_at_call 50; (with_reducible refine (CI.out _).mono ?_); rintro e w2 ⟨rfl, hgw2⟩); have Z2 := Z1.gr hgw2; have G2 : Gr w w2 := G1.trans hgw2; clear hgw2))
        go_roundg ((Z - (u + 1)).natAbs)
        case measure => omega
        case rel => exact ⟨u + 1, m - I, rfl, rfl, by omega, by omega, by have := HN.out; have := HM.out; omega, Nat.le_refl _, by omega, Z2, G2⟩
      · by_cases b : 1 ≤ m
        · have uz : u = Z := by omega
          subst uz
          have ma : m ≤ I := by omega
          obtain ⟨rfl, rfl, h8⟩ := HR.out ⟨e0, e1⟩
          have CS : RowKit.Hid (∀ w, Calls Tryz.prog 49 #[.int .i64 R] w fun e w' => e = .returned (.bool (lp R)) ∧ Gr w w') := Lib.hid fun w => ris_c R w (by omega) (by omega)
          have CO : RowKit.Hid (∀ w, Calls Tryz.prog 51 #[.bool (lp R), .int .i64 m] w fun e w' => e = .returned (.tuple #[.agg #[.int .i64 N, .bool C], .bool true]) ∧ Gr w w') := Lib.hid (by rw [show m = T - bf R + 1 by omega]; exact h8)
          obtain ⟨lR, hlR⟩ : ∃ l, lp R = l := ⟨_, rfl⟩
          rw [hlR] at CS CO
          clear hzu nx hI hm bu m13 hlR h8 a hu
          go_wp2_with (first | ((go_at_call 47; (with_reducible refine (CR.out _).mono ?_); rintro e w1 ⟨rfl, hgw1⟩); have Z1 := ZR.gr hgw1; have G1 : Gr w w1 := hg.trans hgw1; clear hgw1) | ((go_at_call 50; (with_reducible refine (CI.out _).mono ?_); rintro e w2 ⟨rfl, hgw2⟩); have Z2 := Z1.gr hgw2; have G2 : Gr w w2 := G1.trans hgw2; clear hgw2) | ((go_at_call 49; (with_reducible refine (CS.out _).mono ?_); rintro e w3 ⟨rfl, hgw3⟩); have Z3 := Z2.gr hgw3; have G3 : Gr w w3 := G2.trans hgw3; clear hgw3) | ((go_at_call 51; (with_reducible refine (CO.out _).mono ?_); rintro e w4 ⟨rfl, hgw4⟩); have Z4 := Z3.gr hgw4; have G4 : Gr w w4 := G3.trans hgw4; clear hgw4))
          obtain ⟨W, hW⟩ : ∃ W, W = w4.alloc (.cells #[.int .i64 N, .bool C] 23) := ⟨_, rfl⟩
          rw [← hW]
          have lB : w4.heap.size < W.heap.size := by rw [hW]; simp
          have x0 := gcell_in (w := W) (b := w4.heap.size) (o := 0) (v := .int .i64 N) lB (by rw [hW]; simp [go_sem])
          have x1 := gcell_in (w := W) (b := w4.heap.size) (o := 1) (v := .bool C) lB (by rw [hW]; simp [go_sem])
          have ZW : ZC W (w.heap.size + 1) := by rw [hW]; exact Z4.gr ((Gr.refl _).alloc _)
          have GW : Gr w W := by rw [hW]; exact G4.alloc _
          clear hW lB Z1 Z2 Z3 Z4 G1 G2 G3 G4 ZR hg
          (refine wp_region_grown_tail 3 mixed (by kernel_rfl) ?_; simp only [List.take_succ_cons, List.take_zero, List.drop_succ_cons, List.drop_zero]; (repeat (first | go_big_quiet_step (fail) | quiet_step (fail))); refine wpQuiet_nil ?_; intro _ hw'; obtain ⟨⟨nq, osq⟩, hw''⟩ := hw'; subst hw'')
          obtain ⟨lt, c0, c1, f0, f1⟩ := ZW.gr ((Gr.refl W).grown nq osq)
          clear x0 x1 ZW
          go_wp2
          exact bodyPost_ret (v := .tuple #[.int .i64 R, .agg #[.int .i64 N, .bool C], .int .i64 0]) (by simp [results, Tryz.results25, go_sem, *]) rfl ⟨rfl, (by repeat (first | exact Gr.refl _ | refine Gr.setCell ?_ _ _ (by first | exact Nat.le_refl _ | (simp; omega) | (simp; done)) | refine Gr.grown ?_ _ _ | refine Gr.drewN ?_ _ | refine Gr.drew ?_ | refine Gr.alloc ?_ _ | refine Gr.grow ?_ _ | (refine Gr.trans ?_ (by assumption))))⟩
        · have dn : Z < u := by omega
          have b2 : m < 1 := by omega
          have ma : m ≤ I := by omega
          have nx2 := bf_next (u - 1)
          rw [show u - 1 + 1 = u by omega] at nx2
          have CJ : RowKit.Hid (∀ w, Calls Tryz.prog 50 #[.int .i64 (u - 1)] w fun e w' => e = .returned (.tuple #[.int .i64 (mct (lp (u - 1)) : Int), .int .i64 0]) ∧ Gr w w') := Lib.hid fun w => by
            have := rin_c (u - 1) w; rwa [inN_in (by omega) (by omega), yE_in (by omega) (by omega), ml_mct] at this
          have m13b := mct_le (lp (u - 1))
          obtain ⟨J, hJ⟩ : ∃ J : Int, (mct (lp (u - 1)) : Int) = J := ⟨_, rfl⟩
          rw [hJ] at CJ nx2
          have j0 : 12 ≤ J := by omega
          have j1 : J ≤ 13 := by omega
          have HN := Lib.hid nx2
          have HM := Lib.hid hm
          clear hzu nx nx2 hI hJ hm bu m13 m13b a b hu
          go_wp2_with (first | ((go_at_call 47; (with_reducible refine (CR.out _).mono ?_); rintro e w1 ⟨rfl, hgw1⟩); have Z1 := ZR.gr hgw1; have G1 : Gr w w1 := hg.trans hgw1; clear hgw1) | ((go_at_call 50; (with_reducible refine (CI.out _).mono ?_); rintro e w2 ⟨rfl, hgw2⟩); have Z2 := Z1.gr hgw2; have G2 : Gr w w2 := G1.trans hgw2; clear hgw2) | ((go_at_call 50; (with_reducible refine (CJ.out _).mono ?_); rintro e w3 ⟨rfl, hgw3⟩); have Z3 := Z2.gr hgw3; have G3 : Gr w w3 := G2.trans hgw3; clear hgw3))
          go_roundg ((Z - (u - 1)).natAbs)
          case measure => omega
          case rel => exact ⟨u - 1, m + J, rfl, rfl, by omega, by omega, by have := HN.out; have := HM.out; omega, Nat.le_refl _, by omega, Z3, G3⟩
    · have CR : RowKit.Hid (∀ w, Calls Tryz.prog 47 #[.int .i64 u] w fun e w' => e = .returned (.bool false) ∧ Gr w w') := Lib.hid fun w => by
        have := rright7_c u w; rwa [show kyR u = false from decide_eq_false e] at this
      have out : ¬ (1 ≤ Z ∧ Z ≤ 9999) := by omega
      obtain ⟨rfl, rfl, rfl, rfl⟩ := HR2.out out
      clear e out hm bu hu
      go_wp2_with (first | ((go_at_call 47; (with_reducible refine (CR.out _).mono ?_); rintro e w1 ⟨rfl, hgw1⟩); obtain ⟨lt, c0, c1, f0, f1⟩ := ZR.gr hgw1; have G1 : Gr w w1 := hg.trans hgw1; clear hgw1))
      exact bodyPost_ret (v := .tuple #[.int .i64 0, .agg #[.int .i64 0, .bool false], .int .i64 2]) (by simp [results, Tryz.results25, go_sem, *]) rfl ⟨rfl, (by repeat (first | exact Gr.refl _ | refine Gr.setCell ?_ _ _ (by first | exact Nat.le_refl _ | (simp; omega) | (simp; done)) | refine Gr.grown ?_ _ _ | refine Gr.drewN ?_ _ | refine Gr.drew ?_ | refine Gr.alloc ?_ _ | refine Gr.grow ?_ _ | (refine Gr.trans ?_ (by assumption))))⟩

end Go.Proofs.YtkiopgegdkeojaaGreatDoor.Walks
