/- Any duration, added to any date by any mode, whether it may be, and turned about, are the document's: the walk of the law; every input. -/
import Derived.Test.YtkiopgegdkeojaaGreatDoorAwake16
import Derived.Test.YtkiopgegdkeojaaGreatDoorRef16m
set_option linter.unusedVariables false
set_option linter.unusedSimpArgs false
namespace Go.Proofs.YtkiopgegdkeojaaGreatDoor.Walks
open Go Go.RowKit Go.Sort Go.Proofs.YtkiopgegdkeojaaGreatDoor.Base Go.Proofs.YtkiopgegdkeojaaGreatDoor.Plain Go.Proofs.YtkiopgegdkeojaaGreatDoor.Math

theorem rmonths_rng (y : Int) (j : Nat) (q : Int) (w : World) (y0 : 1 ≤ y) (y1 : y ≤ 9999) (hj : j < mct (lp y)) (q0 : -4000000 ≤ q) (q1 : q ≤ 4000000) (h : bf y + j + q < 0 ∨ 123671 ≤ bf y + j + q) :
    Calls Tryz.prog 25 #[.int .i64 y, .agg #[.int .i64 (cN (lp y) j), .bool (cL (lp y) j)], .int .i64 q] w fun e w' => e = .returned (.tuple #[.int .i64 0, .agg #[.int .i64 0, .bool false], .int .i64 2]) ∧ Gr w w' := by
  have m13 := mct_le (lp y)
  obtain ⟨Z, z0, z1, hz, hc⟩ := zyear (bf y + j + q)
  rcases hc with ⟨rfl, ht⟩ | ⟨rfl, ht⟩ | ⟨za, zb, J, hJ, e⟩
  · exact rmonths_at y _ q _ ((j : Int) + 1) _ 0 0 0 2 _ (lp y) false w y0 y1 (by omega) (by omega) (by omega) (by omega) (by omega) z0 z1 hz (fun w => r10last_in y j w y0 y1 hj) rfl (fun w => rplace9_in (lp y) j w hj) (fun z => absurd z (by omega)) (fun _ => ⟨rfl, rfl, rfl, rfl⟩)
  · exact rmonths_at y _ q _ ((j : Int) + 1) _ 10000 0 0 2 _ (lp y) false w y0 y1 (by omega) (by omega) (by omega) (by omega) (by omega) z0 z1 hz (fun w => r10last_in y j w y0 y1 hj) rfl (fun w => rplace9_in (lp y) j w hj) (fun z => absurd z (by omega)) (fun _ => ⟨rfl, rfl, rfl, rfl⟩)
  · have := month_in za zb hJ
    omega
theorem rmonths_in (y : Int) (j : Nat) (q Y : Int) (K : Nat) (w : World) (y0 : 1 ≤ y) (y1 : y ≤ 9999) (hj : j < mct (lp y)) (q0 : -4000000 ≤ q) (q1 : q ≤ 4000000) (Y0 : 1 ≤ Y) (Y1 : Y ≤ 9999) (hK : K < mct (lp Y)) (e : bf Y + K = bf y + j + q) :
    Calls Tryz.prog 25 #[.int .i64 y, .agg #[.int .i64 (cN (lp y) j), .bool (cL (lp y) j)], .int .i64 q] w fun e w' => e = .returned (.tuple #[.int .i64 Y, .agg #[.int .i64 (cN (lp Y) K), .bool (cL (lp Y) K)], .int .i64 0]) ∧ Gr w w' := by
  have m13 := mct_le (lp y)
  have mi := month_in Y0 Y1 hK
  obtain ⟨Z, z0, z1, hz, hc⟩ := zyear (bf y + j + q)
  rcases hc with ⟨rfl, ht⟩ | ⟨rfl, ht⟩ | ⟨za, zb, J, hJ, e2⟩
  · omega
  · omega
  · obtain ⟨rfl, rfl⟩ := month_inj hJ hK (by omega)
    exact rmonths_at y _ q _ ((j : Int) + 1) _ Z Z _ 0 _ (lp y) _ w y0 y1 (by omega) (by omega) (by omega) (by omega) (by omega) z0 z1 hz (fun w => r10last_in y j w y0 y1 hj) rfl (fun w => rplace9_in (lp y) j w hj)
      (fun _ => ⟨rfl, rfl, fun w => by rw [← e2, show bf Z + (J : Int) - bf Z + 1 = (J : Int) + 1 by omega]; exact rof9_in (lp Z) J w hJ⟩) (fun z => absurd ⟨za, zb⟩ z)
/-- The document's To, of a date that may be. -/
theorem rto_c {y : Int} {j : Nat} {d sy sm sw sd m E R1 R2 R4 : Int} {R3 : Bool} (h : HV y j d) (hR : spR sy sm sw sd = true) (hm : m = 0 ∨ m = 1) (k : ToK y j d sy sm sw sd m E R1 R2 R3 R4) (w : World) :
    Calls Tryz.prog 8 #[.agg #[.int .i64 y, .int .i64 (cN (lp y) j), .bool (cL (lp y) j), .int .i64 d], .agg #[.int .i64 sy, .int .i64 sm, .int .i64 sw, .int .i64 sd], .int .i64 m] w fun e w' => e = .returned (.tuple #[.agg #[.int .i64 R1, .int .i64 R2, .bool R3, .int .i64 R4], .int .i64 E]) ∧ Gr w w' := by
  obtain ⟨⟨p0, p1⟩, ⟨q0, q1⟩, ⟨r0, r1⟩, s0, s1⟩ := spR_of hR
  have k0 := fun w => r10check_in y j d w h
  have ld := mlen_range (kk y) (lp y) j
  have dd := h.d1
  have d0 := h.d0
  have k1 := fun w => rinto_c (y + sy) (cN (lp y) j) m (cL (lp y) j) w
  cases k with
  | into _ e hE => exact rto_1 y _ d sy sm sw sd m _ _ E _ w hR hm h.y0 h.y1 hE k0 (fun w => by have := k1 w; rwa [e] at this)
  | months i h1 a =>
    simp only [h1.e, h1.n, h1.c] at k1
    exact rto_2 y _ d sy sm sw sd m _ _ 0 0 2 _ false w hR hm h.y0 h.y1 (by decide) k0 k1 (fun w => rmonths_rng (y + sy) i sm w h1.t0 h1.t1 h1.i1 q0 q1 a)
  | fit i Y J h1 h2 m1 g =>
    have lY := mlen_range (kk Y) (lp Y) J
    simp only [h1.e, h1.n, h1.c] at k1
    refine rto_3 y _ d sy sm sw sd m _ _ Y _ 0 7 _ _ w hR hm h.y0 h.y1 (by decide) k0 k1 (fun w => rmonths_in (y + sy) i sm Y J w h1.t0 h1.t1 h1.i1 q0 q1 h2.y0 h2.y1 h2.j1 h2.e) (fun w => ?_)
    have := rfit_c Y _ d m _ 0 _ w fun w => r10last_in Y J w h2.y0 h2.y1 h2.j1
    have e : fitE (mlen (kk Y) (lp Y) J) 0 d m = 7 := by unfold fitE; rw [if_pos hm, if_pos rfl, if_pos (by omega), if_neg (by omega), if_pos m1]
    have e2 : fitN (mlen (kk Y) (lp Y) J) 0 d m = 0 := by unfold fitN; rw [e, if_neg (by decide)]
    rwa [e, e2] at this
  | out i Y J N h1 h2 h3 g =>
    have hv := ft_hv h3 h2.y0 h2.y1 h2.j1 d0
    have rr := hd_range hv
    have ff := ft_fit h3 hm d0 (by omega)
    simp only [h1.e, h1.n, h1.c] at k1
    refine rto_5 y _ d sy sm sw sd m _ _ Y _ N (hd Y J N) 0 0 0 2 _ _ false w hR hm h.y0 h.y1 rr.1 rr.2 k0 k1 (fun w => rmonths_in (y + sy) i sm Y J w h1.t0 h1.t1 h1.i1 q0 q1 h2.y0 h2.y1 h2.j1 h2.e) (fun w => ?_) (fun w => r10today_in Y J N w hv) (fun w => r10from_out _ w (by omega))
    have := rfit_c Y _ d m _ 0 _ w fun w => r10last_in Y J w h2.y0 h2.y1 h2.j1
    rwa [ff.1, ff.2] at this
  | ok i Y J N Y' J' N' h1 h2 h3 h4 e =>
    have hv := ft_hv h3 h2.y0 h2.y1 h2.j1 d0
    have rr := hd_range hv
    have ff := ft_fit h3 hm d0 (by omega)
    simp only [h1.e, h1.n, h1.c] at k1
    refine rto_5 y _ d sy sm sw sd m _ _ Y _ N (hd Y J N) R1 _ R4 0 _ _ _ w hR hm h.y0 h.y1 rr.1 rr.2 k0 k1 (fun w => rmonths_in (y + sy) i sm Y J w h1.t0 h1.t1 h1.i1 q0 q1 h2.y0 h2.y1 h2.j1 h2.e) (fun w => ?_) (fun w => r10today_in Y J N w hv) (fun w => r10from_in R1 J' R4 _ w h4 (by omega))
    have := rfit_c Y _ d m _ 0 _ w fun w => r10last_in Y J w h2.y0 h2.y1 h2.j1
    rwa [ff.1, ff.2] at this
theorem to_both (y n d p q r s m : Int) (c : Bool) : ∃ (R1 R2 R4 E : Int) (R3 : Bool),
    (∀ w, GT w → Calls Tryz.prog 7 #[.agg #[.int .i64 y, .int .i64 n, .bool c, .int .i64 d], .agg #[.int .i64 p, .int .i64 q, .int .i64 r, .int .i64 s], .int .i64 m] w fun e w' => e = .returned (.tuple #[.agg #[.int .i64 R1, .int .i64 R2, .bool R3, .int .i64 R4], .int .i64 E]) ∧ Gr w w') ∧
    (∀ w, Calls Tryz.prog 8 #[.agg #[.int .i64 y, .int .i64 n, .bool c, .int .i64 d], .agg #[.int .i64 p, .int .i64 q, .int .i64 r, .int .i64 s], .int .i64 m] w fun e w' => e = .returned (.tuple #[.agg #[.int .i64 R1, .int .i64 R2, .bool R3, .int .i64 R4], .int .i64 E]) ∧ Gr w w') := by
  by_cases h0 : spR p q r s = false ∨ ¬ (m = 0 ∨ m = 1)
  · exact ⟨_, _, _, _, _, fun w G => to_bad _ _ _ _ _ _ _ _ _ w h0, fun w => rto_bad _ _ _ _ _ _ _ _ _ w h0⟩
  · have hR : spR p q r s = true := by cases e : spR p q r s <;> simp_all
    have hm : m = 0 ∨ m = 1 := by omega
    by_cases h : ∃ j, n = cN (lp y) j ∧ c = cL (lp y) j ∧ HV y j d
    · obtain ⟨j, rfl, rfl, hv⟩ := h
      obtain ⟨E, R1, R2, R3, R4, k⟩ := toK_ex hv p q r s m hm
      exact ⟨_, _, _, _, _, fun w G => to_c hv hR hm k w G, fun w => rto_c hv hR hm k w⟩
    · obtain ⟨E, e0, e1, c1, c2⟩ := adate_bad y n c d h
      exact ⟨_, _, _, _, _, fun w G => to_date y n d p q r s m E c w hR hm (by omega) fun W hW => c1 W (G.gr hW), fun w => rto_0 y n d p q r s m c E w hR hm (by omega) c2⟩
set_option maxHeartbeats 2000000 in
theorem minus_c (p q r s : Int) (w : World) (hR : spR p q r s = true) : Calls Tryz.prog 12 #[.agg #[.int .i64 p, .int .i64 q, .int .i64 r, .int .i64 s]] w fun e w' => e = .returned (.agg #[.int .i64 (-p), .int .i64 (-q), .int .i64 (-r), .int .i64 (-s)]) ∧ Gr w w' := by
  obtain ⟨⟨p0, p1⟩, ⟨q0, q1⟩, ⟨r0, r1⟩, s0, s1⟩ := spR_of hR
  clear hR
  go_enter Tryz.func12, Tryz.ntmps12
  go_wp2
  exact bodyPost_ret (v := .agg #[.int .i64 (-p), .int .i64 (-q), .int .i64 (-r), .int .i64 (-s)]) (by simp [results, Tryz.results12, go_sem, *]) rfl ⟨rfl, (by repeat (first | exact Gr.refl _ | refine Gr.setCell ?_ _ _ (by first | exact Nat.le_refl _ | (simp; omega) | (simp; done)) | refine Gr.grown ?_ _ _ | refine Gr.drewN ?_ _ | refine Gr.drew ?_ | refine Gr.alloc ?_ _ | refine Gr.grow ?_ _ | (refine Gr.trans ?_ (by assumption))))⟩
set_option maxHeartbeats 2000000 in
theorem rminus_c (p q r s : Int) (w : World) (hR : spR p q r s = true) : Calls Tryz.prog 13 #[.agg #[.int .i64 p, .int .i64 q, .int .i64 r, .int .i64 s]] w fun e w' => e = .returned (.agg #[.int .i64 (-p), .int .i64 (-q), .int .i64 (-r), .int .i64 (-s)]) ∧ Gr w w' := by
  obtain ⟨⟨p0, p1⟩, ⟨q0, q1⟩, ⟨r0, r1⟩, s0, s1⟩ := spR_of hR
  clear hR
  go_enter Tryz.func13, Tryz.ntmps13
  go_wp2
  exact bodyPost_ret (v := .agg #[.int .i64 (-p), .int .i64 (-q), .int .i64 (-r), .int .i64 (-s)]) (by simp [results, Tryz.results13, go_sem, *]) rfl ⟨rfl, (by repeat (first | exact Gr.refl _ | refine Gr.setCell ?_ _ _ (by first | exact Nat.le_refl _ | (simp; omega) | (simp; done)) | refine Gr.grown ?_ _ _ | refine Gr.drewN ?_ _ | refine Gr.drew ?_ | refine Gr.alloc ?_ _ | refine Gr.grow ?_ _ | (refine Gr.trans ?_ (by assumption))))⟩

theorem D5.at {w : World} {b : Nat} (h : w.heap.size = b) (y n d : Int) (c : Bool) : D5 (w.alloc (.cells #[.int .i64 y, .int .i64 n, .bool c, .int .i64 d] 25)) b y n c d := by
  subst h
  exact ⟨by simp, by simp [go_sem], by simp [go_sem], by simp [go_sem], by simp [go_sem], by simp [go_sem], by simp [go_sem], by simp [go_sem], by simp [go_sem]⟩
theorem S4.at {w : World} {b : Nat} (h : w.heap.size = b) (p q r s : Int) : S4 (w.alloc (.cells #[.int .i64 p, .int .i64 q, .int .i64 r, .int .i64 s] 27)) b p q r s := by
  subst h
  exact ⟨by simp, by simp [go_sem], by simp [go_sem], by simp [go_sem], by simp [go_sem]⟩
set_option maxRecDepth 20000 in
set_option maxHeartbeats 16000000 in
theorem addTells_t (y n : Int) (c : Bool) (d p q r s m : Int) (w : World) (G : GT w) :
    Calls Tryz.prog 3 #[.agg #[.int .i64 y, .int .i64 n, .bool c, .int .i64 d], .agg #[.int .i64 p, .int .i64 q, .int .i64 r, .int .i64 s], .int .i64 m] w fun e w' => e = .returned (.bool true) ∧ Gr w w' := by
  obtain ⟨A1, A2, A4, E, A3, c1, c2⟩ := to_both y n d p q r s m c
  have C1 := Lib.hid fun W (hW : Gr w W) => c1 W (G.gr hW)
  have C2 := Lib.hid c2
  have C3 := Lib.hid fun W => right_c p q r s W
  have C4 := Lib.hid fun W => rright16_c p q r s W
  have C5 := Lib.hid fun W => minus_c p q r s W
  have C6 := Lib.hid fun W => rminus_c p q r s W
  have C9 := Lib.hid fun W (hW : Gr w W) => awake16_c W (G.gr hW)
  obtain ⟨R, hR⟩ : ∃ R, spR p q r s = R := ⟨_, rfl⟩
  rw [hR] at C3 C4 C5 C6
  clear c1 c2 G hR
  go_enter Tryz.func3, Tryz.ntmps3
  go_wp2_with (first | ((go_at_call 7; (with_reducible refine (C1.out _ ((by repeat (first | exact Gr.refl _ | refine Gr.setCell ?_ _ _ (by first | exact Nat.le_refl _ | (simp; omega) | (simp; done)) | refine Gr.grown ?_ _ _ | refine Gr.drewN ?_ _ | refine Gr.drew ?_ | refine Gr.alloc ?_ _ | refine Gr.grow ?_ _ | (refine Gr.trans ?_ (by assumption)))))).mono ?_); rintro e wA ⟨rfl, hgwA⟩); have DA := (D5.at (w := w) rfl y n d c).gr (((Gr.refl _).alloc _).trans hgwA); have SA := (S4.at (w := w.alloc (.cells #[.int .i64 y, .int .i64 n, .bool c, .int .i64 d] 25)) (b := w.heap.size + 1) (by simp) p q r s).gr hgwA; have GA : Gr w wA := ((by repeat (first | exact Gr.refl _ | refine Gr.setCell ?_ _ _ (by first | exact Nat.le_refl _ | (simp; omega) | (simp; done)) | refine Gr.grown ?_ _ _ | refine Gr.drewN ?_ _ | refine Gr.drew ?_ | refine Gr.alloc ?_ _ | refine Gr.grow ?_ _ | (refine Gr.trans ?_ (by assumption))))); clear hgwA; obtain ⟨lt, c0, c1, c2, c3, z0, z1, z2, z3⟩ := DA; have S_ := SA; obtain ⟨ls, p0, p1, p2, p3⟩ := S_) |
    ((go_at_call 8; (with_reducible refine (C2.out _).mono ?_); rintro e wB ⟨rfl, hgwB⟩); have g1 := ((Gr.refl wA).alloc _).trans hgwB; have SB := SA.gr g1; have PA := (D5.at (w := wA) rfl A1 A2 A4 A3).gr hgwB; have GB := GA.trans g1; clear g1 hgwB SA GA lt c0 c1 c2 c3 z0 z1 z2 z3 ls p0 p1 p2 p3))
  obtain ⟨W4, hW4⟩ : ∃ W4, W4 = wB.alloc (.cells #[.int .i64 A1, .int .i64 A2, .bool A3, .int .i64 A4] 25) := ⟨_, rfl⟩
  have g4 : Gr wB W4 := by rw [hW4]; exact (Gr.refl _).alloc _
  have P4 : D5 W4 wB.heap.size A1 A2 A3 A4 := by rw [hW4]; exact D5.at rfl A1 A2 A4 A3
  rw [← hW4]
  have S5 := SB.gr g4
  have Q4 := PA.gr g4
  have G4 := GB.trans g4
  clear hW4 SB PA GB g4
  have s0 := gcell_in S5.lt S5.c0
  have s1 := gcell_in S5.lt S5.c1
  have s2 := gcell_in S5.lt S5.c2
  have s3 := gcell_in S5.lt S5.c3
  have u0 := gcell_in P4.lt P4.c0
  have u1 := gcell_in P4.lt P4.c1
  have u2 := gcell_in P4.lt P4.c2
  have u3 := gcell_in P4.lt P4.c3
  have v0 := gcell_in Q4.lt Q4.c0
  have v1 := gcell_in Q4.lt Q4.c1
  have v2 := gcell_in Q4.lt Q4.c2
  have v3 := gcell_in Q4.lt Q4.c3
  clear S5 P4 Q4
  cases R
  · (refine wp_region_quiet_grown mixed (by kernel_rfl) ?_; (repeat (first | go_big_quiet_step ((first | (go_at_call 9; exact gr_of (C9.out _ ((by repeat (first | exact Gr.refl _ | refine Gr.setCell ?_ _ _ (by first | exact Nat.le_refl _ | (simp; omega) | (simp; done)) | refine Gr.grown ?_ _ _ | refine Gr.drewN ?_ _ | refine Gr.drew ?_ | refine Gr.alloc ?_ _ | refine Gr.grow ?_ _ | (refine Gr.trans ?_ (by assumption))))))) | (go_at_call 10; exact gr_of (C3.out _)) | (go_at_call 11; exact gr_of (C4.out _)))) | quiet_step ((first | (go_at_call 9; exact gr_of (C9.out _ ((by repeat (first | exact Gr.refl _ | refine Gr.setCell ?_ _ _ (by first | exact Nat.le_refl _ | (simp; omega) | (simp; done)) | refine Gr.grown ?_ _ _ | refine Gr.drewN ?_ _ | refine Gr.drew ?_ | refine Gr.alloc ?_ _ | refine Gr.grow ?_ _ | (refine Gr.trans ?_ (by assumption))))))) | (go_at_call 10; exact gr_of (C3.out _)) | (go_at_call 11; exact gr_of (C4.out _)))))); refine wpQuiet_nil ?_; intro _ hw'; obtain ⟨⟨nq, osq⟩, hw''⟩ := hw'; subst hw'')
    go_wp2
    go_ret
    exact ⟨rfl, (by repeat (first | exact Gr.refl _ | refine Gr.setCell ?_ _ _ (by first | exact Nat.le_refl _ | (simp; omega) | (simp; done)) | refine Gr.grown ?_ _ _ | refine Gr.drewN ?_ _ | refine Gr.drew ?_ | refine Gr.alloc ?_ _ | refine Gr.grow ?_ _ | (refine Gr.trans ?_ (by assumption))))⟩
  · (refine wp_region_quiet_grown mixed (by kernel_rfl) ?_; (repeat (first | go_big_quiet_step ((first | (go_at_call 9; exact gr_of (C9.out _ ((by repeat (first | exact Gr.refl _ | refine Gr.setCell ?_ _ _ (by first | exact Nat.le_refl _ | (simp; omega) | (simp; done)) | refine Gr.grown ?_ _ _ | refine Gr.drewN ?_ _ | refine Gr.drew ?_ | refine Gr.alloc ?_ _ | refine Gr.grow ?_ _ | (refine Gr.trans ?_ (by assumption))))))) | (go_at_call 10; exact gr_of (C3.out _)) | (go_at_call 11; exact gr_of (C4.out _)) | (go_at_call 12; exact gr_of (C5.out _ rfl)) | (go_at_call 13; exact gr_of (C6.out _ rfl)))) | quiet_step ((first | (go_at_call 9; exact gr_of (C9.out _ ((by repeat (first | exact Gr.refl _ | refine Gr.setCell ?_ _ _ (by first | exact Nat.le_refl _ | (simp; omega) | (simp; done)) | refine Gr.grown ?_ _ _ | refine Gr.drewN ?_ _ | refine Gr.drew ?_ | refine Gr.alloc ?_ _ | refine Gr.grow ?_ _ | (refine Gr.trans ?_ (by assumption))))))) | (go_at_call 10; exact gr_of (C3.out _)) | (go_at_call 11; exact gr_of (C4.out _)) | (go_at_call 12; exact gr_of (C5.out _ rfl)) | (go_at_call 13; exact gr_of (C6.out _ rfl)))))); refine wpQuiet_nil ?_; intro _ hw'; obtain ⟨⟨nq, osq⟩, hw''⟩ := hw'; subst hw'')
    go_wp2
    go_ret
    exact ⟨rfl, (by repeat (first | exact Gr.refl _ | refine Gr.setCell ?_ _ _ (by first | exact Nat.le_refl _ | (simp; omega) | (simp; done)) | refine Gr.grown ?_ _ _ | refine Gr.drewN ?_ _ | refine Gr.drew ?_ | refine Gr.alloc ?_ _ | refine Gr.grow ?_ _ | (refine Gr.trans ?_ (by assumption))))⟩

end Go.Proofs.YtkiopgegdkeojaaGreatDoor.Walks
