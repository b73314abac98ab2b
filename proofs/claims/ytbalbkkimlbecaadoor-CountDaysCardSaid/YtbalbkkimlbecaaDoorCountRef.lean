/- Walks of almanackerref27: the date behind, and the one ahead. -/
import Derived.Test.YtbalbkkimlbecaaDoorCount3
import Derived.Test.YtbalbkkimlbecaaDoorTail
set_option linter.unusedVariables false
set_option linter.unusedSimpArgs false
namespace Go.Proofs.YtbalbkkimlbecaaDoor.Walks
open Go Go.RowKit Go.Sort Go.Proofs.YtbalbkkimlbecaaDoor.Base Go.Proofs.YtbalbkkimlbecaaDoor.Plain Go.Proofs.YtbalbkkimlbecaaDoor.Math

set_option maxHeartbeats 2000000 in
theorem r27next_e (y n d E : Int) (c : Bool) (w : World) (hE : E ≠ 0) (h : ∀ W, Calls Tryd.prog 14 #[.agg #[.int .i64 y, .int .i64 n, .bool c, .int .i64 d]] W fun e w' => e = .returned (.int .i64 E) ∧ Gr W w') :
    Calls Tryd.prog 16 #[.agg #[.int .i64 y, .int .i64 n, .bool c, .int .i64 d]] w fun e w' => e = .returned (.tuple #[.agg #[.int .i64 0, .int .i64 0, .bool false, .int .i64 0], .int .i64 E]) ∧ Gr w w' := by
  have C1 := Lib.hid h
  have q : (E == 0) = false := beq_eq_false_iff_ne.2 hE
  clear h hE
  go_enter Tryd.func16, Tryd.ntmps16
  go_wp2_with (first | ((go_at_call 14; (with_reducible refine (C1.out _).mono ?_); rintro e wA ⟨rfl, hgwA⟩); obtain ⟨lt, c0, c1, c2, c3, f0, f1, f2, f3⟩ := (D4.two w y n d c).2.gr hgwA))
  exact bodyPost_ret (v := .tuple #[.agg #[.int .i64 0, .int .i64 0, .bool false, .int .i64 0], .int .i64 E]) (by simp [results, Tryd.results16, go_sem, *]) rfl ⟨rfl, (by repeat (first | exact Gr.refl _ | refine Gr.setCell ?_ _ _ (by first | exact Nat.le_refl _ | (simp; omega) | (simp; done)) | refine Gr.grown ?_ _ _ | refine Gr.drewN ?_ _ | refine Gr.drew ?_ | refine Gr.alloc ?_ _ | refine Gr.grow ?_ _ | (refine Gr.trans ?_ (by assumption))))⟩
set_option maxHeartbeats 2000000 in
theorem r27ahead_e (y n d E : Int) (c : Bool) (w : World) (hE : E ≠ 0) (h : ∀ W, Calls Tryd.prog 14 #[.agg #[.int .i64 y, .int .i64 n, .bool c, .int .i64 d]] W fun e w' => e = .returned (.int .i64 E) ∧ Gr W w') :
    Calls Tryd.prog 17 #[.agg #[.int .i64 y, .int .i64 n, .bool c, .int .i64 d]] w fun e w' => e = .returned (.tuple #[.agg #[.int .i64 0, .int .i64 0, .bool false, .int .i64 0], .int .i64 E]) ∧ Gr w w' := by
  have C1 := Lib.hid h
  have q : (E == 0) = false := beq_eq_false_iff_ne.2 hE
  clear h hE
  go_enter Tryd.func17, Tryd.ntmps17
  go_wp2_with (first | ((go_at_call 14; (with_reducible refine (C1.out _).mono ?_); rintro e wA ⟨rfl, hgwA⟩); obtain ⟨lt, c0, c1, c2, c3, f0, f1, f2, f3⟩ := (D4.two w y n d c).2.gr hgwA))
  exact bodyPost_ret (v := .tuple #[.agg #[.int .i64 0, .int .i64 0, .bool false, .int .i64 0], .int .i64 E]) (by simp [results, Tryd.results17, go_sem, *]) rfl ⟨rfl, (by repeat (first | exact Gr.refl _ | refine Gr.setCell ?_ _ _ (by first | exact Nat.le_refl _ | (simp; omega) | (simp; done)) | refine Gr.grown ?_ _ _ | refine Gr.drewN ?_ _ | refine Gr.drew ?_ | refine Gr.alloc ?_ _ | refine Gr.grow ?_ _ | (refine Gr.trans ?_ (by assumption))))⟩

set_option maxRecDepth 20000 in
set_option maxHeartbeats 8000000 in
theorem r27next_core (y n d b k L M K : Int) (c l : Bool) (R1 R2 R4 RE : Int) (R3 : Bool) (w : World) (y0 : 1 ≤ y) (y1 : y ≤ 9999) (d0 : 1 ≤ d) (d1 : d ≤ 30) (M0 : 1 ≤ M) (M1 : M ≤ 13)
    (h1 : ∀ W, Calls Tryd.prog 14 #[.agg #[.int .i64 y, .int .i64 n, .bool c, .int .i64 d]] W fun e w' => e = .returned (.int .i64 0) ∧ Gr W w')
    (h2 : ∀ w, Calls Tryd.prog 44 #[.int .i64 y] w fun e w' => e = .returned (.tuple #[.agg #[.int .i64 b, .int .i64 k, .bool l], .int .i64 0]) ∧ Gr w w')
    (h6 : ∀ w, Calls Tryd.prog 45 #[.bool l, .agg #[.int .i64 n, .bool c]] w fun e w' => e = .returned (.tuple #[.int .i64 M, .bool true]) ∧ Gr w w')
    (h3 : ∀ W, Calls Tryd.prog 46 #[.agg #[.int .i64 b, .int .i64 k, .bool l], .int .i64 M] W fun e w' => e = .returned (.int .i64 L) ∧ Gr W w')
    (h4 : ∀ W, Calls Tryd.prog 47 #[.agg #[.int .i64 b, .int .i64 k, .bool l]] W fun e w' => e = .returned (.int .i64 K) ∧ Gr W w')
    (hr : (d < L ∧ R1 = y ∧ R2 = n ∧ R3 = c ∧ R4 = d + 1 ∧ RE = 0) ∨
      (L ≤ d ∧ M < K ∧ RE = 0 ∧ R1 = y ∧ R4 = 1 ∧ ∀ w, Calls Tryd.prog 48 #[.bool l, .int .i64 (M + 1)] w fun e w' => e = .returned (.tuple #[.agg #[.int .i64 R2, .bool R3], .bool true]) ∧ Gr w w') ∨
      (L ≤ d ∧ K ≤ M ∧ y ≠ 9999 ∧ RE = 0 ∧ R1 = y + 1 ∧ R2 = 1 ∧ R3 = false ∧ R4 = 1) ∨
      (L ≤ d ∧ K ≤ M ∧ y = 9999 ∧ R1 = 0 ∧ R2 = 0 ∧ R3 = false ∧ R4 = 0 ∧ RE = 2)) :
    Calls Tryd.prog 16 #[.agg #[.int .i64 y, .int .i64 n, .bool c, .int .i64 d]] w fun e w' => e = .returned (.tuple #[.agg #[.int .i64 R1, .int .i64 R2, .bool R3, .int .i64 R4], .int .i64 RE]) ∧ Gr w w' := by
  have C1 := Lib.hid h1
  have C2 := Lib.hid h2
  have C3 := Lib.hid h3
  have C4 := Lib.hid h4
  have C6 := Lib.hid h6
  have HR := Lib.hid hr
  clear h1 h2 h3 h4 h6 hr
  go_enter Tryd.func16, Tryd.ntmps16
  go_wp2_with (first | ((go_at_call 14; (with_reducible refine (C1.out _).mono ?_); rintro e wA ⟨rfl, hgwA⟩); have DA := (D4.two w y n d c).1.gr hgwA; have RA := (D4.two w y n d c).2.gr hgwA; have DA2 := DA; obtain ⟨lt, c0, c1, c2, c3, f0, f1, f2, f3⟩ := DA2; have GA : Gr w wA := ((by repeat (first | exact Gr.refl _ | refine Gr.setCell ?_ _ _ (by first | exact Nat.le_refl _ | (simp; omega) | (simp; done)) | refine Gr.grown ?_ _ _ | refine Gr.drewN ?_ _ | refine Gr.drew ?_ | refine Gr.alloc ?_ _ | refine Gr.grow ?_ _ | (refine Gr.trans ?_ (by assumption))))); clear hgwA) | ((go_at_call 44; (with_reducible refine (C2.out _).mono ?_); rintro e wB ⟨rfl, hgwB⟩); have DB := DA.gr hgwB; have RB := RA.gr hgwB; have GB : Gr w wB := GA.trans hgwB; clear hgwB lt c0 c1 c2 c3 f0 f1 f2 f3 DA RA GA; have DB2 := DB; obtain ⟨lt, c0, c1, c2, c3, f0, f1, f2, f3⟩ := DB2) |
    ((go_at_call 45; (with_reducible refine (C6.out _).mono ?_); rintro e wC ⟨rfl, hgwC⟩); have D5 := (DB.gr ((Gr.refl _).alloc _)).gr hgwC; have K5 := (K3.at wB b k l).gr hgwC; have R5 := (RB.gr ((Gr.refl _).alloc _)).gr hgwC; have GW : Gr w wC := ((by repeat (first | exact Gr.refl _ | refine Gr.setCell ?_ _ _ (by first | exact Nat.le_refl _ | (simp; omega) | (simp; done)) | refine Gr.grown ?_ _ _ | refine Gr.drewN ?_ _ | refine Gr.drew ?_ | refine Gr.alloc ?_ _ | refine Gr.grow ?_ _ | (refine Gr.trans ?_ (by assumption))))); clear hgwC lt c0 c1 c2 c3 f0 f1 f2 f3 DB RB GB))
  have x3 := gcell_in D5.lt D5.c3
  have k0 := gcell_in K5.lt K5.c0
  have k1 := gcell_in K5.lt K5.c1
  have k2 := gcell_in K5.lt K5.c2
  (refine wp_region_quiet_grown mixed (by kernel_rfl) ?_; (repeat (first | go_big_quiet_step ((first | (go_at_call 46; exact gr_of (C3.out _)))) | quiet_step ((first | (go_at_call 46; exact gr_of (C3.out _)))))); refine wpQuiet_nil ?_; intro _ hw'; obtain ⟨⟨nq, osq⟩, hw''⟩ := hw'; subst hw'')
  obtain ⟨wD, hC⟩ : ∃ wD, wD = grow (wC.drewN nq) osq := ⟨_, rfl⟩
  have G6 : Gr wC wD := by rw [hC]; exact (Gr.refl wC).grown nq osq
  rw [← hC]
  have D6 := D5.gr G6
  have R6 := R5.gr G6
  have K6 := K5.gr G6
  have GC := GW.trans G6
  clear hC x3 k0 k1 k2 D5 R5 K5 GW G6
  have D7 := D6
  have K7 := K6
  obtain ⟨lt, c0, c1, c2, c3, f0, f1, f2, f3⟩ := D7
  obtain ⟨lk, k0, k1, k2, e0, e1, e2⟩ := K7
  rcases HR.out with ⟨a1, rfl, rfl, rfl, rfl, rfl⟩ | ⟨a1, a2, rfl, rfl, rfl, h5⟩ | ⟨a1, a2, a3, rfl, rfl, rfl, rfl, rfl⟩ | ⟨a1, a2, rfl, rfl, rfl, rfl, rfl, rfl⟩
  · obtain ⟨lr, r0, r1, r2, r3, g0, g1, g2, g3⟩ := R6
    clear HR C1 C2 C3 C4
    go_wp2
    exact bodyPost_ret (v := .tuple #[.agg #[.int .i64 R1, .int .i64 R2, .bool R3, .int .i64 (d + 1)], .int .i64 0]) (by simp [results, Tryd.results16, go_sem, *]) rfl ⟨rfl, (by repeat (first | exact Gr.refl _ | refine Gr.setCell ?_ _ _ (by first | exact Nat.le_refl _ | (simp; omega) | (simp; done)) | refine Gr.grown ?_ _ _ | refine Gr.drewN ?_ _ | refine Gr.drew ?_ | refine Gr.alloc ?_ _ | refine Gr.grow ?_ _ | (refine Gr.trans ?_ (by assumption))))⟩
  · have C5 := Lib.hid h5
    clear HR C1 C2 C3 h5
    go_wp2_with (first | ((go_at_call 47; (with_reducible refine (C4.out _).mono ?_); rintro e wE ⟨rfl, hgwE⟩); have D8 := D6.gr hgwE; have K8 := K6.gr hgwE; have R8 := R6.gr hgwE; have GE := GC.trans hgwE; clear hgwE lt c0 c1 c2 c3 f0 f1 f2 f3 lk k0 k1 k2 e0 e1 e2 D6 K6 R6 GC; obtain ⟨lk, k0, k1, k2, e0, e1, e2⟩ := K8) | ((go_at_call 48; (with_reducible refine (C5.out _).mono ?_); rintro e wF ⟨rfl, hgwF⟩); obtain ⟨lr, r0, r1, r2, r3, g0, g1, g2, g3⟩ := R8.gr hgwF; obtain ⟨lt, c0, c1, c2, c3, f0, f1, f2, f3⟩ := D8.gr hgwF; have GF := GE.trans hgwF; clear hgwF lk k0 k1 k2 e0 e1 e2 D8 R8 GE))
    exact bodyPost_ret (v := .tuple #[.agg #[.int .i64 R1, .int .i64 R2, .bool R3, .int .i64 1], .int .i64 0]) (by simp [results, Tryd.results16, go_sem, *]) rfl ⟨rfl, (by repeat (first | exact Gr.refl _ | refine Gr.setCell ?_ _ _ (by first | exact Nat.le_refl _ | (simp; omega) | (simp; done)) | refine Gr.grown ?_ _ _ | refine Gr.drewN ?_ _ | refine Gr.drew ?_ | refine Gr.alloc ?_ _ | refine Gr.grow ?_ _ | (refine Gr.trans ?_ (by assumption))))⟩
  · have qy : (y == 9999) = false := beq_eq_false_iff_ne.2 a3
    clear HR C1 C2 C3
    go_wp2_with (first | ((go_at_call 47; (with_reducible refine (C4.out _).mono ?_); rintro e wE ⟨rfl, hgwE⟩); have GE := GC.trans hgwE; clear lt c0 c1 c2 c3 f0 f1 f2 f3; obtain ⟨lr, r0, r1, r2, r3, g0, g1, g2, g3⟩ := R6.gr hgwE; obtain ⟨lt, c0, c1, c2, c3, f0, f1, f2, f3⟩ := D6.gr hgwE; clear hgwE lk k0 k1 k2 e0 e1 e2 D6 K6 R6 GC))
    exact bodyPost_ret (v := .tuple #[.agg #[.int .i64 (y + 1), .int .i64 1, .bool false, .int .i64 1], .int .i64 0]) (by simp [results, Tryd.results16, go_sem, *]) rfl ⟨rfl, (by repeat (first | exact Gr.refl _ | refine Gr.setCell ?_ _ _ (by first | exact Nat.le_refl _ | (simp; omega) | (simp; done)) | refine Gr.grown ?_ _ _ | refine Gr.drewN ?_ _ | refine Gr.drew ?_ | refine Gr.alloc ?_ _ | refine Gr.grow ?_ _ | (refine Gr.trans ?_ (by assumption))))⟩
  · clear HR C1 C2 C3
    go_wp2_with (first | ((go_at_call 47; (with_reducible refine (C4.out _).mono ?_); rintro e wE ⟨rfl, hgwE⟩); have GE := GC.trans hgwE; clear lt c0 c1 c2 c3 f0 f1 f2 f3; obtain ⟨lr, r0, r1, r2, r3, g0, g1, g2, g3⟩ := R6.gr hgwE; obtain ⟨lt, c0, c1, c2, c3, f0, f1, f2, f3⟩ := D6.gr hgwE; clear hgwE lk k0 k1 k2 e0 e1 e2 D6 K6 R6 GC))
    exact bodyPost_ret (v := .tuple #[.agg #[.int .i64 0, .int .i64 0, .bool false, .int .i64 0], .int .i64 2]) (by simp [results, Tryd.results16, go_sem, *]) rfl ⟨rfl, (by repeat (first | exact Gr.refl _ | refine Gr.setCell ?_ _ _ (by first | exact Nat.le_refl _ | (simp; omega) | (simp; done)) | refine Gr.grown ?_ _ _ | refine Gr.drewN ?_ _ | refine Gr.drew ?_ | refine Gr.alloc ?_ _ | refine Gr.grow ?_ _ | (refine Gr.trans ?_ (by assumption))))⟩

set_option maxRecDepth 20000 in
set_option maxHeartbeats 8000000 in
theorem r27ahead_core (y n d b k L M : Int) (c l : Bool) (R1 R2 R4 RE : Int) (R3 : Bool) (w : World) (y0 : 1 ≤ y) (y1 : y ≤ 9999) (d0 : 1 ≤ d) (d1 : d ≤ 30) (M0 : 1 ≤ M) (M1 : M ≤ 13)
    (h1 : ∀ W, Calls Tryd.prog 14 #[.agg #[.int .i64 y, .int .i64 n, .bool c, .int .i64 d]] W fun e w' => e = .returned (.int .i64 0) ∧ Gr W w')
    (h2 : ∀ w, Calls Tryd.prog 44 #[.int .i64 y] w fun e w' => e = .returned (.tuple #[.agg #[.int .i64 b, .int .i64 k, .bool l], .int .i64 0]) ∧ Gr w w')
    (h6 : ∀ w, Calls Tryd.prog 45 #[.bool l, .agg #[.int .i64 n, .bool c]] w fun e w' => e = .returned (.tuple #[.int .i64 M, .bool true]) ∧ Gr w w')
    (hr : (1 < d ∧ R1 = y ∧ R2 = n ∧ R3 = c ∧ R4 = d - 1 ∧ RE = 0) ∨
      (d ≤ 1 ∧ 1 < M ∧ RE = 0 ∧ R1 = y ∧ R4 = L ∧ (∀ w, Calls Tryd.prog 48 #[.bool l, .int .i64 (M - 1)] w fun e w' => e = .returned (.tuple #[.agg #[.int .i64 R2, .bool R3], .bool true]) ∧ Gr w w') ∧
        (∀ W, Calls Tryd.prog 46 #[.agg #[.int .i64 b, .int .i64 k, .bool l], .int .i64 (M - 1)] W fun e w' => e = .returned (.int .i64 L) ∧ Gr W w')) ∨
      (d ≤ 1 ∧ M = 1 ∧ y ≠ 1 ∧ RE = 0 ∧ R1 = y - 1 ∧ R2 = 12 ∧ R3 = false ∧ R4 = 29) ∨
      (d ≤ 1 ∧ M = 1 ∧ y = 1 ∧ R1 = 0 ∧ R2 = 0 ∧ R3 = false ∧ R4 = 0 ∧ RE = 2)) :
    Calls Tryd.prog 17 #[.agg #[.int .i64 y, .int .i64 n, .bool c, .int .i64 d]] w fun e w' => e = .returned (.tuple #[.agg #[.int .i64 R1, .int .i64 R2, .bool R3, .int .i64 R4], .int .i64 RE]) ∧ Gr w w' := by
  have C1 := Lib.hid h1
  have C2 := Lib.hid h2
  have C6 := Lib.hid h6
  clear h1 h2 h6
  rcases hr with ⟨a1, rfl, rfl, rfl, rfl, rfl⟩ | ⟨a1, a2, rfl, rfl, rfl, h5, h7⟩ | ⟨a1, rfl, a3, rfl, rfl, rfl, rfl, rfl⟩ | ⟨a1, rfl, rfl, rfl, rfl, rfl, rfl, rfl⟩
  · go_enter Tryd.func17, Tryd.ntmps17
    go_wp2_with (first | ((go_at_call 14; (with_reducible refine (C1.out _).mono ?_); rintro e wA ⟨rfl, hgwA⟩); obtain ⟨lr, r0, r1, r2, r3, g0, g1, g2, g3⟩ := (D4.two w R1 R2 d R3).2.gr hgwA; obtain ⟨lt, c0, c1, c2, c3, f0, f1, f2, f3⟩ := (D4.two w R1 R2 d R3).1.gr hgwA; have GA : Gr w wA := ((by repeat (first | exact Gr.refl _ | refine Gr.setCell ?_ _ _ (by first | exact Nat.le_refl _ | (simp; omega) | (simp; done)) | refine Gr.grown ?_ _ _ | refine Gr.drewN ?_ _ | refine Gr.drew ?_ | refine Gr.alloc ?_ _ | refine Gr.grow ?_ _ | (refine Gr.trans ?_ (by assumption))))); clear hgwA))
    exact bodyPost_ret (v := .tuple #[.agg #[.int .i64 R1, .int .i64 R2, .bool R3, .int .i64 (d - 1)], .int .i64 0]) (by simp [results, Tryd.results17, go_sem, *]) rfl ⟨rfl, (by repeat (first | exact Gr.refl _ | refine Gr.setCell ?_ _ _ (by first | exact Nat.le_refl _ | (simp; omega) | (simp; done)) | refine Gr.grown ?_ _ _ | refine Gr.drewN ?_ _ | refine Gr.drew ?_ | refine Gr.alloc ?_ _ | refine Gr.grow ?_ _ | (refine Gr.trans ?_ (by assumption))))⟩
  · have C5 := Lib.hid h5
    have C7 := Lib.hid h7
    clear h5 h7
    go_enter Tryd.func17, Tryd.ntmps17
    go_wp2_with (first | ((go_at_call 14; (with_reducible refine (C1.out _).mono ?_); rintro e wA ⟨rfl, hgwA⟩); have DA := (D4.two w R1 n d c).1.gr hgwA; have RA := (D4.two w R1 n d c).2.gr hgwA; have DA2 := DA; obtain ⟨lt, c0, c1, c2, c3, f0, f1, f2, f3⟩ := DA2; have GA : Gr w wA := ((by repeat (first | exact Gr.refl _ | refine Gr.setCell ?_ _ _ (by first | exact Nat.le_refl _ | (simp; omega) | (simp; done)) | refine Gr.grown ?_ _ _ | refine Gr.drewN ?_ _ | refine Gr.drew ?_ | refine Gr.alloc ?_ _ | refine Gr.grow ?_ _ | (refine Gr.trans ?_ (by assumption))))); clear hgwA) | ((go_at_call 44; (with_reducible refine (C2.out _).mono ?_); rintro e wB ⟨rfl, hgwB⟩); have DB := DA.gr hgwB; have RB := RA.gr hgwB; have GB : Gr w wB := GA.trans hgwB; clear hgwB lt c0 c1 c2 c3 f0 f1 f2 f3 DA RA GA; have DB2 := DB; obtain ⟨lt, c0, c1, c2, c3, f0, f1, f2, f3⟩ := DB2) |
      ((go_at_call 45; (with_reducible refine (C6.out _).mono ?_); rintro e wC ⟨rfl, hgwC⟩); have D5 := (DB.gr ((Gr.refl _).alloc _)).gr hgwC; have K5 := (K3.at wB b k l).gr hgwC; have R5 := (RB.gr ((Gr.refl _).alloc _)).gr hgwC; have GW : Gr w wC := ((by repeat (first | exact Gr.refl _ | refine Gr.setCell ?_ _ _ (by first | exact Nat.le_refl _ | (simp; omega) | (simp; done)) | refine Gr.grown ?_ _ _ | refine Gr.drewN ?_ _ | refine Gr.drew ?_ | refine Gr.alloc ?_ _ | refine Gr.grow ?_ _ | (refine Gr.trans ?_ (by assumption))))); clear hgwC lt c0 c1 c2 c3 f0 f1 f2 f3 DB RB GB; have K55 := K5; obtain ⟨lk, k0, k1, k2, e0, e1, e2⟩ := K55) |
      ((go_at_call 48; (with_reducible refine (C5.out _).mono ?_); rintro e wF ⟨rfl, hgwF⟩); have D6 := (D5.gr hgwF).gr ((Gr.refl _).alloc (.cells #[.int .i64 R2, .bool R3] 23)); have K6 := (K5.gr hgwF).gr ((Gr.refl _).alloc (.cells #[.int .i64 R2, .bool R3] 23)); have R6 := (R5.gr hgwF).gr ((Gr.refl _).alloc (.cells #[.int .i64 R2, .bool R3] 23)); have GF := (GW.trans hgwF).alloc (.cells #[.int .i64 R2, .bool R3] 23); clear hgwF lk k0 k1 k2 e0 e1 e2 D5 R5 K5 GW))
    obtain ⟨W6, hW6⟩ : ∃ W6, W6 = wF.alloc (.cells #[.int .i64 R2, .bool R3] 23) := ⟨_, rfl⟩
    have x0 : W6.cell? ⟨wF.heap.size, 0, none⟩ = some (.int .i64 R2) := by rw [hW6]; simp [go_sem]
    have x1 : W6.cell? ⟨wF.heap.size, 1, none⟩ = some (.bool R3) := by rw [hW6]; simp [go_sem]
    have xl : wF.heap.size < W6.heap.size := by rw [hW6]; simp
    rw [← hW6] at D6 K6 R6 GF ⊢
    clear hW6
    have y0' := gcell_in D6.lt D6.c0
    have k0 := gcell_in K6.lt K6.c0
    have k1 := gcell_in K6.lt K6.c1
    have k2 := gcell_in K6.lt K6.c2
    have x0' := gcell_in xl x0
    have x1' := gcell_in xl x1
    have rf0 := gfrozen_in R6.lt R6.f0
    have rf1 := gfrozen_in R6.lt R6.f1
    have rf2 := gfrozen_in R6.lt R6.f2
    have rf3 := gfrozen_in R6.lt R6.f3
    have rc0 := gcell_in R6.lt R6.c0
    have rc1 := gcell_in R6.lt R6.c1
    have rc2 := gcell_in R6.lt R6.c2
    have rc3 := gcell_in R6.lt R6.c3
    clear x0 x1
    (refine wp_region_grown_tail 8 mixed (by kernel_rfl) ?_; simp only [List.take_succ_cons, List.take_zero, List.drop_succ_cons, List.drop_zero]; (repeat (first | go_big_quiet_step ((first | (go_at_call 46; exact gr_of (C7.out _)))) | quiet_step ((first | (go_at_call 46; exact gr_of (C7.out _)))))); refine wpQuiet_nil ?_; intro _ hw'; obtain ⟨⟨nq, osq⟩, hw''⟩ := hw'; subst hw'')
    obtain ⟨W7, hW7⟩ : ∃ W7, W7 = grow (W6.drewN nq) osq := ⟨_, rfl⟩
    have G7 : Gr W6 W7 := by rw [hW7]; exact (Gr.refl W6).grown nq osq
    rw [← hW7]
    have GE := GF.trans G7
    obtain ⟨lr, r0, r1, r2, r3, g0, g1, g2, g3⟩ := R6.gr G7
    clear hW7 y0' k0 k1 k2 x0' x1' rf0 rf1 rf2 rf3 rc0 rc1 rc2 rc3 D6 K6 R6 GF G7
    go_wp2
    exact bodyPost_ret (v := .tuple #[.agg #[.int .i64 R1, .int .i64 R2, .bool R3, .int .i64 R4], .int .i64 0]) (by simp [results, Tryd.results17, go_sem, *]) rfl ⟨rfl, (by repeat (first | exact Gr.refl _ | refine Gr.setCell ?_ _ _ (by first | exact Nat.le_refl _ | (simp; omega) | (simp; done)) | refine Gr.grown ?_ _ _ | refine Gr.drewN ?_ _ | refine Gr.drew ?_ | refine Gr.alloc ?_ _ | refine Gr.grow ?_ _ | (refine Gr.trans ?_ (by assumption))))⟩
  · have qy : (y == 1) = false := beq_eq_false_iff_ne.2 a3
    go_enter Tryd.func17, Tryd.ntmps17
    go_wp2_with (first | ((go_at_call 14; (with_reducible refine (C1.out _).mono ?_); rintro e wA ⟨rfl, hgwA⟩); have DA := (D4.two w y n d c).1.gr hgwA; have RA := (D4.two w y n d c).2.gr hgwA; have DA2 := DA; obtain ⟨lt, c0, c1, c2, c3, f0, f1, f2, f3⟩ := DA2; have GA : Gr w wA := ((by repeat (first | exact Gr.refl _ | refine Gr.setCell ?_ _ _ (by first | exact Nat.le_refl _ | (simp; omega) | (simp; done)) | refine Gr.grown ?_ _ _ | refine Gr.drewN ?_ _ | refine Gr.drew ?_ | refine Gr.alloc ?_ _ | refine Gr.grow ?_ _ | (refine Gr.trans ?_ (by assumption))))); clear hgwA) | ((go_at_call 44; (with_reducible refine (C2.out _).mono ?_); rintro e wB ⟨rfl, hgwB⟩); have DB := DA.gr hgwB; have RB := RA.gr hgwB; have GB : Gr w wB := GA.trans hgwB; clear hgwB lt c0 c1 c2 c3 f0 f1 f2 f3 DA RA GA; have DB2 := DB; obtain ⟨lt, c0, c1, c2, c3, f0, f1, f2, f3⟩ := DB2) |
      ((go_at_call 45; (with_reducible refine (C6.out _).mono ?_); rintro e wC ⟨rfl, hgwC⟩); have D5 := (DB.gr ((Gr.refl _).alloc _)).gr hgwC; have R5 := (RB.gr ((Gr.refl _).alloc _)).gr hgwC; have GW : Gr w wC := ((by repeat (first | exact Gr.refl _ | refine Gr.setCell ?_ _ _ (by first | exact Nat.le_refl _ | (simp; omega) | (simp; done)) | refine Gr.grown ?_ _ _ | refine Gr.drewN ?_ _ | refine Gr.drew ?_ | refine Gr.alloc ?_ _ | refine Gr.grow ?_ _ | (refine Gr.trans ?_ (by assumption))))); clear hgwC lt c0 c1 c2 c3 f0 f1 f2 f3 DB RB GB; obtain ⟨lt, c0, c1, c2, c3, f0, f1, f2, f3⟩ := D5; obtain ⟨lr, r0, r1, r2, r3, g0, g1, g2, g3⟩ := R5))
    exact bodyPost_ret (v := .tuple #[.agg #[.int .i64 (y - 1), .int .i64 12, .bool false, .int .i64 29], .int .i64 0]) (by simp [results, Tryd.results17, go_sem, *]) rfl ⟨rfl, (by repeat (first | exact Gr.refl _ | refine Gr.setCell ?_ _ _ (by first | exact Nat.le_refl _ | (simp; omega) | (simp; done)) | refine Gr.grown ?_ _ _ | refine Gr.drewN ?_ _ | refine Gr.drew ?_ | refine Gr.alloc ?_ _ | refine Gr.grow ?_ _ | (refine Gr.trans ?_ (by assumption))))⟩
  · go_enter Tryd.func17, Tryd.ntmps17
    go_wp2_with (first | ((go_at_call 14; (with_reducible refine (C1.out _).mono ?_); rintro e wA ⟨rfl, hgwA⟩); have DA := (D4.two w 1 n d c).1.gr hgwA; have RA := (D4.two w 1 n d c).2.gr hgwA; have DA2 := DA; obtain ⟨lt, c0, c1, c2, c3, f0, f1, f2, f3⟩ := DA2; have GA : Gr w wA := ((by repeat (first | exact Gr.refl _ | refine Gr.setCell ?_ _ _ (by first | exact Nat.le_refl _ | (simp; omega) | (simp; done)) | refine Gr.grown ?_ _ _ | refine Gr.drewN ?_ _ | refine Gr.drew ?_ | refine Gr.alloc ?_ _ | refine Gr.grow ?_ _ | (refine Gr.trans ?_ (by assumption))))); clear hgwA) | ((go_at_call 44; (with_reducible refine (C2.out _).mono ?_); rintro e wB ⟨rfl, hgwB⟩); have DB := DA.gr hgwB; have RB := RA.gr hgwB; have GB : Gr w wB := GA.trans hgwB; clear hgwB lt c0 c1 c2 c3 f0 f1 f2 f3 DA RA GA; have DB2 := DB; obtain ⟨lt, c0, c1, c2, c3, f0, f1, f2, f3⟩ := DB2) |
      ((go_at_call 45; (with_reducible refine (C6.out _).mono ?_); rintro e wC ⟨rfl, hgwC⟩); have D5 := (DB.gr ((Gr.refl _).alloc _)).gr hgwC; have R5 := (RB.gr ((Gr.refl _).alloc _)).gr hgwC; have GW : Gr w wC := ((by repeat (first | exact Gr.refl _ | refine Gr.setCell ?_ _ _ (by first | exact Nat.le_refl _ | (simp; omega) | (simp; done)) | refine Gr.grown ?_ _ _ | refine Gr.drewN ?_ _ | refine Gr.drew ?_ | refine Gr.alloc ?_ _ | refine Gr.grow ?_ _ | (refine Gr.trans ?_ (by assumption))))); clear hgwC lt c0 c1 c2 c3 f0 f1 f2 f3 DB RB GB; obtain ⟨lt, c0, c1, c2, c3, f0, f1, f2, f3⟩ := D5; obtain ⟨lr, r0, r1, r2, r3, g0, g1, g2, g3⟩ := R5))
    exact bodyPost_ret (v := .tuple #[.agg #[.int .i64 0, .int .i64 0, .bool false, .int .i64 0], .int .i64 2]) (by simp [results, Tryd.results17, go_sem, *]) rfl ⟨rfl, (by repeat (first | exact Gr.refl _ | refine Gr.setCell ?_ _ _ (by first | exact Nat.le_refl _ | (simp; omega) | (simp; done)) | refine Gr.grown ?_ _ _ | refine Gr.drewN ?_ _ | refine Gr.drew ?_ | refine Gr.alloc ?_ _ | refine Gr.grow ?_ _ | (refine Gr.trans ?_ (by assumption))))⟩

theorem hd_lin2 (t : Int) (i : Nat) (d : Int) : hd t i d = hd t i 1 + (d - 1) := by unfold hd; omega
theorem r27next_c (y : Int) (j : Nat) (d : Int) (h : HV y j d) : (∃ (Y : Int) (J : Nat) (D : Int), HV Y J D ∧ hd Y J D = hd y j d + 1 ∧ ∀ w, Calls Tryd.prog 16 #[.agg #[.int .i64 y, .int .i64 (cN (lp y) j), .bool (cL (lp y) j), .int .i64 d]] w fun e w' => e = .returned (.tuple #[.agg #[.int .i64 Y, .int .i64 (cN (lp Y) J), .bool (cL (lp Y) J), .int .i64 D], .int .i64 0]) ∧ Gr w w') ∨
    (hd y j d = 2278650 ∧ ∀ w, Calls Tryd.prog 16 #[.agg #[.int .i64 y, .int .i64 (cN (lp y) j), .bool (cL (lp y) j), .int .i64 d]] w fun e w' => e = .returned (.tuple #[.agg #[.int .i64 0, .int .i64 0, .bool false, .int .i64 0], .int .i64 2]) ∧ Gr w w') := by
  have j1 := h.j1
  have hm := mct_le (lp y)
  have l := mlen_range (kk y) (lp y) j
  have nY := mN_year h.y0 h.y1
  have dd := h.d1
  have y1 := h.y1
  have core := fun (R1 R2 R4 RE : Int) (R3 : Bool) (w : World) => r27next_core y (cN (lp y) j) d (kb y) (kk y) (mlen (kk y) (lp y) j) ((j : Int) + 1) (mct (lp y) : Int) (cL (lp y) j) (lp y) R1 R2 R4 RE R3 w h.y0 h.y1 h.d0 (by omega) (by omega) (by omega)
    (fun W => r10check_in y j d W h) (fun w => rkof_in y w h.y0 h.y1) (fun w => rplace9_in (lp y) j w h.j1) (fun W => rdays_in (kb y) (kk y) (lp y) j W (by omega)) (fun W => by have := rcount_c (kb y) (kk y) (lp y) W; rwa [nY] at this)
  by_cases a : d < mlen (kk y) (lp y) j
  · obtain ⟨h2, e2⟩ := hd_next_day h a
    exact .inl ⟨y, j, d + 1, h2, e2, fun w => core _ _ _ _ _ w (.inl ⟨a, rfl, rfl, rfl, rfl, rfl⟩)⟩
  · by_cases b : j + 1 < mct (lp y)
    · obtain ⟨h2, e2⟩ := hd_next_month h (by omega) b
      exact .inl ⟨y, j + 1, 1, h2, e2, fun w => core _ _ _ _ _ w (.inr (.inl ⟨by omega, by omega, rfl, rfl, rfl, fun w => by have := rof9_in (lp y) (j + 1) w b; push_cast at this; exact this⟩))⟩
    · have e2 := hd_next_year h (by omega) (by omega)
      by_cases g : y = 9999
      · refine .inr ⟨?_, fun w => core _ _ _ _ _ w (.inr (.inr (.inr ⟨by omega, by omega, g, rfl, rfl, rfl, rfl, rfl⟩)))⟩
        have t := fy_top
        rw [g] at e2
        rw [show (9999 : Int) + 1 = 10000 from rfl] at e2
        rw [g]
        omega
      · obtain ⟨h3, e3⟩ := HV_first (y := y + 1) (by have := h.y0; omega) (by omega)
        refine .inl ⟨y + 1, 0, 1, h3, by omega, fun w => ?_⟩
        rw [(cfirst_zero (lp (y + 1))).1, (cfirst_zero (lp (y + 1))).2]
        exact core _ _ _ _ _ w (.inr (.inr (.inl ⟨by omega, by omega, g, rfl, rfl, rfl, rfl, rfl⟩)))
theorem r27ahead_c (y : Int) (j : Nat) (d : Int) (h : HV y j d) : (∃ (Y : Int) (J : Nat) (D : Int), HV Y J D ∧ hd Y J D + 1 = hd y j d ∧ ∀ w, Calls Tryd.prog 17 #[.agg #[.int .i64 y, .int .i64 (cN (lp y) j), .bool (cL (lp y) j), .int .i64 d]] w fun e w' => e = .returned (.tuple #[.agg #[.int .i64 Y, .int .i64 (cN (lp Y) J), .bool (cL (lp Y) J), .int .i64 D], .int .i64 0]) ∧ Gr w w') ∨
    (hd y j d = -1373427 ∧ ∀ w, Calls Tryd.prog 17 #[.agg #[.int .i64 y, .int .i64 (cN (lp y) j), .bool (cL (lp y) j), .int .i64 d]] w fun e w' => e = .returned (.tuple #[.agg #[.int .i64 0, .int .i64 0, .bool false, .int .i64 0], .int .i64 2]) ∧ Gr w w') := by
  have j1 := h.j1
  have hm := mct_le (lp y)
  have l := mlen_range (kk y) (lp y) j
  have nY := mN_year h.y0 h.y1
  have d0 := h.d0
  have dd := h.d1
  have y0 := h.y0
  have y1 := h.y1
  have core := fun (L R1 R2 R4 RE : Int) (R3 : Bool) (w : World) => r27ahead_core y (cN (lp y) j) d (kb y) (kk y) L ((j : Int) + 1) (cL (lp y) j) (lp y) R1 R2 R4 RE R3 w h.y0 h.y1 h.d0 (by omega) (by omega) (by omega)
    (fun W => r10check_in y j d W h) (fun w => rkof_in y w h.y0 h.y1) (fun w => rplace9_in (lp y) j w h.j1)
  by_cases a : 1 < d
  · have h2 : HV y j (d - 1) := ⟨y0, y1, j1, by omega, by omega⟩
    exact .inl ⟨y, j, d - 1, h2, by have := hd_lin2 y j d; have := hd_lin2 y j (d - 1); omega, fun w => core 0 _ _ _ _ _ w (.inl ⟨a, rfl, rfl, rfl, rfl, rfl⟩)⟩
  · by_cases b : 0 < j
    · obtain ⟨i, rfl⟩ : ∃ i, j = i + 1 := ⟨j - 1, by omega⟩
      have li := mlen_range (kk y) (lp y) i
      have h2 : HV y i (mlen (kk y) (lp y) i) := ⟨y0, y1, by omega, by omega, by omega⟩
      obtain ⟨h3, e3⟩ := hd_next_month h2 rfl j1
      have e1 : d = 1 := by omega
      refine .inl ⟨y, i, _, h2, by rw [e1, e3], fun w => core (mlen (kk y) (lp y) i) _ _ _ _ _ w (.inr (.inl ⟨by omega, by omega, rfl, rfl, rfl, fun w => ?_, fun w => ?_⟩))⟩
      · have := rof9_in (lp y) i w (by omega)
        rw [show (((i + 1 : Nat) : Int) + 1 - 1) = (i : Int) + 1 by omega]
        exact this
      · have := rdays_in (kb y) (kk y) (lp y) i w (by omega)
        rw [show (((i + 1 : Nat) : Int) + 1 - 1) = (i : Int) + 1 by omega]
        exact this
    · have ej : j = 0 := by omega
      subst ej
      have e1 : d = 1 := by omega
      subst e1
      by_cases g : y = 1
      · refine .inr ⟨?_, fun w => core 0 _ _ _ _ _ w (.inr (.inr (.inr ⟨by omega, by omega, g, rfl, rfl, rfl, rfl, rfl⟩)))⟩
        have t := fy_low
        rw [g]
        unfold hd
        simp only [mah]
        omega
      · have m2 := mct_le (lp (y - 1))
        have lj := mlen_range (kk (y - 1)) (lp (y - 1)) (mct (lp (y - 1)) - 1)
        have l29 : mlen (kk (y - 1)) (lp (y - 1)) (mct (lp (y - 1)) - 1) = 29 := by cases lp (y - 1) <;> simp [mct, mlen]
        have h2 : HV (y - 1) (mct (lp (y - 1)) - 1) 29 := ⟨by omega, by omega, by omega, by omega, by omega⟩
        have e2 := hd_next_year h2 l29.symm (by omega)
        rw [show y - 1 + 1 = y by omega] at e2
        have cl : ∀ l : Bool, cN l (mct l - 1) = 12 ∧ cL l (mct l - 1) = false := by decide
        refine .inl ⟨y - 1, mct (lp (y - 1)) - 1, 29, h2, by rw [e2]; unfold hd; simp only [mah]; omega, fun w => ?_⟩
        rw [(cl _).1, (cl _).2]
        exact core 0 _ _ _ _ _ w (.inr (.inr (.inl ⟨by omega, by omega, g, rfl, rfl, rfl, rfl, rfl⟩)))

end Go.Proofs.YtbalbkkimlbecaaDoor.Walks
