/- More years, or more months, lead to a later date, if no weeks and days are added: the walk of the law; every input. -/
import Derived.Test.YtkiopgegdkeojaaDoorAwake16
set_option linter.unusedVariables false
set_option linter.unusedSimpArgs false
namespace Go.Proofs.YtkiopgegdkeojaaDoor.Walks
open Go Go.RowKit Go.Sort Go.Proofs.YtkiopgegdkeojaaDoor.Base Go.Proofs.YtkiopgegdkeojaaDoor.Plain Go.Proofs.YtkiopgegdkeojaaDoor.Math

/-- A later month's days come later. -/
theorem hd_month {Y : Int} {J : Nat} {N : Int} {Y' : Int} {J' : Nat} {N' : Int} (h : HV Y J N) (h' : HV Y' J' N') (e : bf Y + (J : Int) < bf Y' + (J' : Int)) : hd Y J N < hd Y' J' N' := by
  have a := hd_in h
  have b := hd_in h'
  have j1 := h.j1
  have j1' := h'.j1
  have m := mct_le (lp Y)
  have m' := mct_le (lp Y')
  rcases Int.lt_trichotomy Y Y' with z | z | z
  · have := fy_mono (a := Y + 1) (b := Y') (by have := h.y0; omega) (by omega) (by have := h'.y1; omega)
    omega
  · subst z
    have c := mah_le (kk Y) (lp Y) (i := J + 1) (j := J') (by omega)
    have := h.d1
    have := h'.d0
    simp only [mah] at c
    unfold hd
    omega
  · have := bf_mono (a := Y' + 1) (b := Y) (by omega)
    have := bf_next Y'
    omega
/-- Later days, later dates. -/
theorem dLess_day {y : Int} {j : Nat} {d : Int} {y' : Int} {j' : Nat} {d' : Int} (h : HV y j d) (h' : HV y' j' d') (e : hd y j d < hd y' j' d') : dLess y (cN (lp y) j) (cL (lp y) j) d y' (cN (lp y') j') (cL (lp y') j') d' = true := by
  rw [dLess_at h h']
  refine decide_eq_true ?_
  rcases Int.lt_trichotomy y y' with z | z | z
  · exact .inl z
  · subst z
    refine .inr ⟨rfl, ?_⟩
    by_cases a : j < j'
    · exact .inl a
    · by_cases b : j = j'
      · subst b
        refine .inr ⟨rfl, ?_⟩
        unfold hd at e
        omega
      · have c := mah_le (kk y) (lp y) (i := j' + 1) (j := j) (by omega)
        have := h'.d1
        have := h.d0
        simp only [mah] at c
        unfold hd at e
        omega
  · have a := hd_in h
    have b := hd_in h'
    have := fy_mono (a := y' + 1) (b := y) (by have := h'.y0; omega) (by omega) (by have := h.y1; omega)
    omega
/-- What is said of two sums without weeks and days, the one's month behind the other's. -/
theorem tok_rise {y : Int} {j : Nat} {d sy sm ty tm R1 R2 R4 S1 S2 S4 : Int} {R3 S3 : Bool} (h : HV y j d) (hm : (sy < ty ∧ sm = tm) ∨ (sy = ty ∧ sm < tm))
    (a : ToK y j d sy sm 0 0 0 0 R1 R2 R3 R4) (b : ToK y j d ty tm 0 0 0 0 S1 S2 S3 S4) : dLess R1 R2 R3 R4 S1 S2 S3 S4 = true := by
  cases a with
  | into _ _ z => exact absurd rfl z
  | ok i Y J N Y' J' N' h1 h2 h3 h4 e =>
    cases b with
    | into _ _ z => exact absurd rfl z
    | ok i' Z K M Z' K' M' g1 g2 g3 g4 f =>
      have v := ft_hv h3 h2.y0 h2.y1 h2.j1 h.d0
      have u := ft_hv g3 g2.y0 g2.y1 g2.j1 h.d0
      have i1 := h1.i1
      have T : bf (y + sy) + (i : Int) + sm < bf (y + ty) + (i' : Int) + tm := by
        rcases hm with ⟨p, q⟩ | ⟨p, q⟩
        · have := bf_mono (a := y + sy + 1) (b := y + ty) (by omega)
          have := bf_next (y + sy)
          omega
        · subst p
          have := code_inj h1.i1 g1.i1 (by rw [← h1.n, ← g1.n]) (by rw [← h1.c, ← g1.c])
          omega
      have := hd_month v u (by rw [h2.e, g2.e]; exact T)
      exact dLess_day h4 g4 (by rw [e, f]; omega)

theorem D5.at {w : World} {b : Nat} (h : w.heap.size = b) (y n d : Int) (c : Bool) : D5 (w.alloc (.cells #[.int .i64 y, .int .i64 n, .bool c, .int .i64 d] 25)) b y n c d := by
  subst h
  exact ⟨by simp, by simp [go_sem], by simp [go_sem], by simp [go_sem], by simp [go_sem], by simp [go_sem], by simp [go_sem], by simp [go_sem], by simp [go_sem]⟩
theorem S4.at {w : World} {b : Nat} (h : w.heap.size = b) (p q r s : Int) : S4 (w.alloc (.cells #[.int .i64 p, .int .i64 q, .int .i64 r, .int .i64 s] 27)) b p q r s := by
  subst h
  exact ⟨by simp, by simp [go_sem], by simp [go_sem], by simp [go_sem], by simp [go_sem]⟩
theorem rise_put {W4 W5 : World} {t u : Nat} {a b : Int} (x z : Int) (g : Gr W4 W5) (lt : W4.heap.size ≤ t) (lu : W4.heap.size ≤ u) (n : t ≠ u) (T : S4 W5 t a b 0 0) (U : S4 W5 u a b 0 0) :
    ∃ W6, W6 = (W5.setCell ⟨t, 0, none⟩ (.int .i64 x)).setCell ⟨u, 1, none⟩ (.int .i64 z) ∧ Gr W4 W6 ∧ S4 W6 t x b 0 0 ∧ S4 W6 u a z 0 0 := by
  refine ⟨_, rfl, (g.setCell _ _ lt).setCell _ _ lu, ⟨?_, ?_, ?_, ?_, ?_⟩, ?_, ?_, ?_, ?_, ?_⟩
  · rw [set_size, set_size]; exact T.lt
  · rw [set_other _ _ _ _ _ _ n, set_cell T.c0]; simp
  · rw [set_other _ _ _ _ _ _ n, set_cell T.c1]; simp
  · rw [set_other _ _ _ _ _ _ n, set_cell T.c2]; simp
  · rw [set_other _ _ _ _ _ _ n, set_cell T.c3]; simp
  · rw [set_size, set_size]; exact U.lt
  · rw [set_cell ((set_other _ _ _ _ _ _ n.symm).trans U.c0)]; simp
  · rw [set_cell ((set_other _ _ _ _ _ _ n.symm).trans U.c1)]; simp
  · rw [set_cell ((set_other _ _ _ _ _ _ n.symm).trans U.c2)]; simp
  · rw [set_cell ((set_other _ _ _ _ _ _ n.symm).trans U.c3)]; simp
set_option maxRecDepth 20000 in
set_option maxHeartbeats 16000000 in
theorem rises_core (y n d a b m A1 A2 A4 E B1 B2 B4 F D1 D2 D4 H : Int) (c A3 B3 D3 : Bool) (w : World) (G : GT w) (a0 : -32768 ≤ a) (a1 : a ≤ 32767) (b0 : -32768 ≤ b) (b1 : b ≤ 32767) (m0 : 0 ≤ m) (m1 : m ≤ 255)
    (c1 : ∀ W, Gr w W → Calls Tryd.prog 6 #[.agg #[.int .i64 y, .int .i64 n, .bool c, .int .i64 d], .agg #[.int .i64 a, .int .i64 b, .int .i64 0, .int .i64 0], .int .i64 0] W fun e w' => e = .returned (.tuple #[.agg #[.int .i64 A1, .int .i64 A2, .bool A3, .int .i64 A4], .int .i64 E]) ∧ Gr W w')
    (c2 : ∀ W, Gr w W → Calls Tryd.prog 6 #[.agg #[.int .i64 y, .int .i64 n, .bool c, .int .i64 d], .agg #[.int .i64 (a + 1 + m), .int .i64 b, .int .i64 0, .int .i64 0], .int .i64 0] W fun e w' => e = .returned (.tuple #[.agg #[.int .i64 B1, .int .i64 B2, .bool B3, .int .i64 B4], .int .i64 F]) ∧ Gr W w')
    (c3 : ∀ W, Gr w W → Calls Tryd.prog 6 #[.agg #[.int .i64 y, .int .i64 n, .bool c, .int .i64 d], .agg #[.int .i64 a, .int .i64 (b + 1 + m), .int .i64 0, .int .i64 0], .int .i64 0] W fun e w' => e = .returned (.tuple #[.agg #[.int .i64 D1, .int .i64 D2, .bool D3, .int .i64 D4], .int .i64 H]) ∧ Gr W w')
    (h1 : E ≠ 0 ∨ F ≠ 0 ∨ dLess A1 A2 A3 A4 B1 B2 B3 B4 = true) (h2 : E ≠ 0 ∨ H ≠ 0 ∨ dLess A1 A2 A3 A4 D1 D2 D3 D4 = true) :
    Calls Tryd.prog 4 #[.agg #[.int .i64 y, .int .i64 n, .bool c, .int .i64 d, .int .i16 a, .int .i16 b, .int .u8 m]] w fun e w' => e = .returned (.bool true) ∧ Gr w w' := by
  have C1 := Lib.hid c1
  have C2 := Lib.hid c2
  have C3 := Lib.hid c3
  have C9 := Lib.hid fun W (hW : Gr w W) => awake16_c W (G.gr hW)
  clear c1 c2 c3 G
  go_enter Tryd.func4, Tryd.ntmps4
  go_wp2
  obtain ⟨W1, hW1⟩ : ∃ W1, W1 = w.alloc (.cells #[.int .i64 y, .int .i64 n, .bool c, .int .i64 d, .int .i16 a, .int .i16 b, .int .u8 m] 35) := ⟨_, rfl⟩
  have z0 : W1.cell? ⟨w.heap.size, 0, none⟩ = some (.int .i64 y) := by rw [hW1]; simp [go_sem]
  have z1 : W1.cell? ⟨w.heap.size, 1, none⟩ = some (.int .i64 n) := by rw [hW1]; simp [go_sem]
  have z2 : W1.cell? ⟨w.heap.size, 2, none⟩ = some (.bool c) := by rw [hW1]; simp [go_sem]
  have z3 : W1.cell? ⟨w.heap.size, 3, none⟩ = some (.int .i64 d) := by rw [hW1]; simp [go_sem]
  have z4 : W1.cell? ⟨w.heap.size, 4, none⟩ = some (.int .i16 a) := by rw [hW1]; simp [go_sem]
  have z5 : W1.cell? ⟨w.heap.size, 5, none⟩ = some (.int .i16 b) := by rw [hW1]; simp [go_sem]
  have z6 : W1.cell? ⟨w.heap.size, 6, none⟩ = some (.int .u8 m) := by rw [hW1]; simp [go_sem]
  have zl : w.heap.size < W1.heap.size := by rw [hW1]; simp
  have G1 : Gr w W1 := by rw [hW1]; exact (Gr.refl _).alloc _
  rw [← hW1]
  clear hW1
  go_region_held3 (fun w' => w'.cell? ⟨w.heap.size, 0, none⟩ = some (.int .i64 y) ∧ w'.cell? ⟨w.heap.size, 1, none⟩ = some (.int .i64 n) ∧ w'.cell? ⟨w.heap.size, 2, none⟩ = some (.bool c) ∧ w'.cell? ⟨w.heap.size, 3, none⟩ = some (.int .i64 d) ∧ w'.cell? ⟨w.heap.size, 4, none⟩ = some (.int .i16 a) ∧ w'.cell? ⟨w.heap.size, 5, none⟩ = some (.int .i16 b) ∧ w'.cell? ⟨w.heap.size, 6, none⟩ = some (.int .u8 m)) (first | go_keep | (simp [go_sem, *]; done)) (fail)
  obtain ⟨W2, hW2⟩ : ∃ W2, W2 = (W1.alloc (.cells #[.int .i64 y, .int .i64 n, .bool c, .int .i64 d] 25)).drew := ⟨_, rfl⟩
  have g2 : Gr W1 W2 := by rw [hW2]; exact ((Gr.refl _).alloc _).drew
  have P2 : D5 W2 W1.heap.size y n c d := by rw [hW2]; exact (D5.at rfl y n d c).gr (Gr.refl _).drew
  have G2 : Gr w W2 := G1.trans g2
  rw [← hW2]
  obtain ⟨D, hD⟩ : ∃ D, D = W1.heap.size := ⟨_, rfl⟩
  rw [← hD] at P2 ⊢
  clear hW2 hD g2 z0 z1 z2 z3 z4 z5 z6 zl G1
  obtain ⟨lt, x0, x1, x2, x3, y0, y1, y2, y3⟩ := P2
  go_wp2_with (first | ((go_at_call 6; (with_reducible refine (C1.out _ ((by repeat (first | exact Gr.refl _ | refine Gr.setCell ?_ _ _ (by first | exact Nat.le_refl _ | (simp; omega) | (simp; done)) | refine Gr.grown ?_ _ _ | refine Gr.drewN ?_ _ | refine Gr.drew ?_ | refine Gr.alloc ?_ _ | refine Gr.grow ?_ _ | (refine Gr.trans ?_ (by assumption)))))).mono ?_); rintro e wA ⟨rfl, hgwA⟩); have SA := (S4.at (w := W2) rfl a b 0 0).gr hgwA; have DA := (⟨lt, x0, x1, x2, x3, y0, y1, y2, y3⟩ : D5 W2 D y n c d).gr (((Gr.refl _).alloc _).trans hgwA); have GA : Gr w wA := ((by repeat (first | exact Gr.refl _ | refine Gr.setCell ?_ _ _ (by first | exact Nat.le_refl _ | (simp; omega) | (simp; done)) | refine Gr.grown ?_ _ _ | refine Gr.drewN ?_ _ | refine Gr.drew ?_ | refine Gr.alloc ?_ _ | refine Gr.grow ?_ _ | (refine Gr.trans ?_ (by assumption))))); clear hgwA G2 lt x0 x1 x2 x3 y0 y1 y2 y3))
  obtain ⟨W4, hW4⟩ : ∃ W4, W4 = wA.alloc (.cells #[.int .i64 A1, .int .i64 A2, .bool A3, .int .i64 A4] 25) := ⟨_, rfl⟩
  have g4 : Gr wA W4 := by rw [hW4]; exact (Gr.refl _).alloc _
  have P4 : D5 W4 wA.heap.size A1 A2 A3 A4 := by rw [hW4]; exact D5.at rfl A1 A2 A4 A3
  rw [← hW4]
  have S4_ := SA.gr g4
  have D4_ := DA.gr g4
  have G4 := GA.trans g4
  obtain ⟨S, hS⟩ : ∃ S, S = W2.heap.size := ⟨_, rfl⟩
  obtain ⟨P, hP⟩ : ∃ P, P = wA.heap.size := ⟨_, rfl⟩
  rw [← hS] at S4_ ⊢
  rw [← hP] at P4 ⊢
  clear hW4 SA DA GA g4 hS hP
  obtain ⟨ls, s0, s1, s2, s3⟩ := S4_
  go_region_held3 (fun w' => w'.cell? ⟨S, 0, none⟩ = some (.int .i64 a) ∧ w'.cell? ⟨S, 1, none⟩ = some (.int .i64 b) ∧ w'.cell? ⟨S, 2, none⟩ = some (.int .i64 0) ∧ w'.cell? ⟨S, 3, none⟩ = some (.int .i64 0)) (first | go_keep | (simp [go_sem, *]; done)) (fail)
  all_goals (
    obtain ⟨W5, hW5⟩ : ∃ W5, W5 = ((W4.alloc (.cells #[.int .i64 a, .int .i64 b, .int .i64 0, .int .i64 0] 27)).alloc (.cells #[.int .i64 a, .int .i64 b, .int .i64 0, .int .i64 0] 27)).drew := ⟨_, rfl⟩
    have g5 : Gr W4 W5 := by rw [hW5]; exact (((Gr.refl _).alloc _).alloc _).drew
    have T5 : S4 W5 W4.heap.size a b 0 0 := by rw [hW5]; exact (S4.at rfl a b 0 0).gr (((Gr.refl _).alloc _).drew)
    have U5 : S4 W5 (W4.heap.size + 1) a b 0 0 := by rw [hW5]; exact (S4.at (by simp) a b 0 0).gr (Gr.refl _).drew
    have t0 : W5.frozen? ⟨W4.heap.size, 0, none⟩ = false := by rw [hW5]; simp [go_sem]
    have t1 : W5.frozen? ⟨W4.heap.size, 1, none⟩ = false := by rw [hW5]; simp [go_sem]
    have t2 : W5.frozen? ⟨W4.heap.size + 1, 0, none⟩ = false := by rw [hW5]; simp [go_sem]
    have t3 : W5.frozen? ⟨W4.heap.size + 1, 1, none⟩ = false := by rw [hW5]; simp [go_sem]
    rw [← hW5]
    clear hW5 s0 s1 s2 s3 ls
    have T5_ := T5
    have U5_ := U5
    obtain ⟨lt, x0, x1, x2, x3⟩ := T5_
    obtain ⟨lu, z0, z1, z2, z3⟩ := U5_
    have lD := D4_.lt
    have nD : D ≠ W4.heap.size := by omega
    have nE : D ≠ W4.heap.size + 1 := by omega
    obtain ⟨ld, d0, d1, d2, d3, d4, d5, d6, d7⟩ := D4_.gr g5
    go_wp2_with (first | (go_at_call 6; fail))
    first
      | (obtain ⟨W6, hW6, g6, T6, U6⟩ := rise_put (a + 1 + m) (b + 1 + m) g5 (Nat.le_add_right _ 1) (Nat.le_refl _) (by omega) U5 T5; rw [← hW6])
      | (obtain ⟨W6, hW6, g6, T6, U6⟩ := rise_put (a + 1 + m) (b + 1 + m) g5 (Nat.le_refl _) (Nat.le_add_right _ 1) (by omega) T5 U5; rw [← hW6])
    refine (C2.out W6 (G4.trans g6)).mono ?_
    rintro e wB ⟨rfl, hgB⟩
    have gB := g6.trans hgB
    have D8 := D4_.gr gB
    have P8 := P4.gr gB
    have U8 := U6.gr hgB
    have G8 := G4.trans gB
    clear hW6 g6 T6 U6 hgB gB lD nD nE ld d0 d1 d2 d3 d4 d5 d6 d7 lu z0 z1 z2 z3 lt x0 x1 x2 x3 T5 U5 t0 t1 t2 t3 g5
    obtain ⟨ld, d0, d1, d2, d3, d4, d5, d6, d7⟩ := D8
    obtain ⟨lu, u0, u1, u2, u3⟩ := U8
    go_wp2_with (first | ((go_at_call 6; (with_reducible refine (C3.out _ ((by repeat (first | exact Gr.refl _ | refine Gr.setCell ?_ _ _ (by first | exact Nat.le_refl _ | (simp; omega) | (simp; done)) | refine Gr.grown ?_ _ _ | refine Gr.drewN ?_ _ | refine Gr.drew ?_ | refine Gr.alloc ?_ _ | refine Gr.grow ?_ _ | (refine Gr.trans ?_ (by assumption)))))).mono ?_); rintro e wC ⟨rfl, hgwC⟩); have PC := P8.gr (((Gr.refl _).alloc _).trans hgwC); have BC := (D5.at (w := wB) rfl B1 B2 B4 B3).gr hgwC; have GC := (G8.alloc _).trans hgwC; clear hgwC G8 ld d0 d1 d2 d3 d4 d5 d6 d7 lu u0 u1 u2 u3))
    obtain ⟨WG, hWG⟩ : ∃ WG, WG = wC.alloc (.cells #[.int .i64 D1, .int .i64 D2, .bool D3, .int .i64 D4] 25) := ⟨_, rfl⟩
    have g9 : Gr wC WG := by rw [hWG]; exact (Gr.refl _).alloc _
    have CG : D5 WG wC.heap.size D1 D2 D3 D4 := by rw [hWG]; exact D5.at rfl D1 D2 D4 D3
    have PG := PC.gr g9
    have BG := BC.gr g9
    have GG := GC.trans g9
    rw [← hWG]
    obtain ⟨Q, hQ⟩ : ∃ Q, Q = wB.heap.size := ⟨_, rfl⟩
    obtain ⟨R, hR⟩ : ∃ R, R = wC.heap.size := ⟨_, rfl⟩
    rw [← hQ] at BG ⊢
    rw [← hR] at CG ⊢
    clear hQ hR hWG g9 PC BC GC P8 P4
    refine (C9.out WG GG).mono ?_
    rintro e wG ⟨rfl, hgG⟩
    have P9 := PG.gr hgG
    have B9 := BG.gr hgG
    have C_ := CG.gr hgG
    have G9 := GG.trans hgG
    clear hgG PG BG CG GG
    obtain ⟨lP, p0, p1, p2, p3, p4, p5, p6, p7⟩ := id P9
    obtain ⟨lQ, q0, q1, q2, q3, q4, q5, q6, q7⟩ := id B9
    obtain ⟨lR, r0, r1, r2, r3, r4, r5, r6, r7⟩ := id C_
    by_cases hE : E = 0
    · subst hE
      have k1 := h1.resolve_left (by decide)
      have k2 := h2.resolve_left (by decide)
      clear h1 h2
      by_cases hF : F = 0
      · subst hF
        have k3 := k1.resolve_left (by decide)
        have L1 := Lib.hid fun W => r10less_c A1 A2 A4 B1 B2 B4 A3 B3 W
        rw [k3] at L1
        clear k1 k3
        by_cases hH : H = 0
        · subst hH
          have k3 := k2.resolve_left (by decide)
          have L2 := Lib.hid fun W => r10less_c A1 A2 A4 D1 D2 D4 A3 D3 W
          rw [k3] at L2
          clear k2 k3
          go_wp2_with (first | ((go_at_call 8; (with_reducible refine (L1.out _).mono ?_); rintro e wL ⟨rfl, hgwL⟩); obtain ⟨hclL, hfzL, hszL⟩ := gcell hgwL; have P9 := P9.gr hgwL; have C_ := C_.gr hgwL; have lPL := P9.lt; have lRL := C_.lt) | ((go_at_call 8; (with_reducible refine (L2.out _).mono ?_); rintro e wM ⟨rfl, hgwM⟩))); exact bodyPost_ret (v := .bool true) (by simp [results, Tryd.results4, go_sem, *]) rfl ⟨rfl, (by repeat (first | exact Gr.refl _ | refine Gr.setCell ?_ _ _ (by first | exact Nat.le_refl _ | (simp; omega) | (simp; done) | (show (_ : Nat) ≤ _; omega)) | refine Gr.grown ?_ _ _ | refine Gr.drewN ?_ _ | refine Gr.drew ?_ | refine Gr.alloc ?_ _ | refine Gr.grow ?_ _ | (refine Gr.trans ?_ (by assumption))))⟩
        · have e1 : (H == 0) = false := beq_eq_false_iff_ne.2 hH
          have e2 : (H != 0) = true := by simp [bne_iff_ne, hH]
          clear k2
          go_wp2_with (first | ((go_at_call 8; (with_reducible refine (L1.out _).mono ?_); rintro e wL ⟨rfl, hgwL⟩); obtain ⟨hclL, hfzL, hszL⟩ := gcell hgwL; have P9 := P9.gr hgwL; have C_ := C_.gr hgwL; have lPL := P9.lt; have lRL := C_.lt)); exact bodyPost_ret (v := .bool true) (by simp [results, Tryd.results4, go_sem, *]) rfl ⟨rfl, (by repeat (first | exact Gr.refl _ | refine Gr.setCell ?_ _ _ (by first | exact Nat.le_refl _ | (simp; omega) | (simp; done) | (show (_ : Nat) ≤ _; omega)) | refine Gr.grown ?_ _ _ | refine Gr.drewN ?_ _ | refine Gr.drew ?_ | refine Gr.alloc ?_ _ | refine Gr.grow ?_ _ | (refine Gr.trans ?_ (by assumption))))⟩
      · have e3 : (F == 0) = false := beq_eq_false_iff_ne.2 hF
        have e4 : (F != 0) = true := by simp [bne_iff_ne, hF]
        clear k1
        by_cases hH : H = 0
        · subst hH
          have k3 := k2.resolve_left (by decide)
          have L2 := Lib.hid fun W => r10less_c A1 A2 A4 D1 D2 D4 A3 D3 W
          rw [k3] at L2
          clear k2 k3
          go_wp2_with (first | ((go_at_call 8; (with_reducible refine (L2.out _).mono ?_); rintro e wM ⟨rfl, hgwM⟩))); exact bodyPost_ret (v := .bool true) (by simp [results, Tryd.results4, go_sem, *]) rfl ⟨rfl, (by repeat (first | exact Gr.refl _ | refine Gr.setCell ?_ _ _ (by first | exact Nat.le_refl _ | (simp; omega) | (simp; done) | (show (_ : Nat) ≤ _; omega)) | refine Gr.grown ?_ _ _ | refine Gr.drewN ?_ _ | refine Gr.drew ?_ | refine Gr.alloc ?_ _ | refine Gr.grow ?_ _ | (refine Gr.trans ?_ (by assumption))))⟩
        · have e1 : (H == 0) = false := beq_eq_false_iff_ne.2 hH
          have e2 : (H != 0) = true := by simp [bne_iff_ne, hH]
          clear k2
          go_wp2; exact bodyPost_ret (v := .bool true) (by simp [results, Tryd.results4, go_sem, *]) rfl ⟨rfl, (by repeat (first | exact Gr.refl _ | refine Gr.setCell ?_ _ _ (by first | exact Nat.le_refl _ | (simp; omega) | (simp; done) | (show (_ : Nat) ≤ _; omega)) | refine Gr.grown ?_ _ _ | refine Gr.drewN ?_ _ | refine Gr.drew ?_ | refine Gr.alloc ?_ _ | refine Gr.grow ?_ _ | (refine Gr.trans ?_ (by assumption))))⟩
    · have e5 : (E == 0) = false := beq_eq_false_iff_ne.2 hE
      have e6 : (E != 0) = true := by simp [bne_iff_ne, hE]
      clear h1 h2
      go_wp2; exact bodyPost_ret (v := .bool true) (by simp [results, Tryd.results4, go_sem, *]) rfl ⟨rfl, (by repeat (first | exact Gr.refl _ | refine Gr.setCell ?_ _ _ (by first | exact Nat.le_refl _ | (simp; omega) | (simp; done) | (show (_ : Nat) ≤ _; omega)) | refine Gr.grown ?_ _ _ | refine Gr.drewN ?_ _ | refine Gr.drew ?_ | refine Gr.alloc ?_ _ | refine Gr.grow ?_ _ | (refine Gr.trans ?_ (by assumption))))⟩)

theorem spR_small {p q : Int} (p0 : -33000 ≤ p) (p1 : p ≤ 33100) (q0 : -33000 ≤ q) (q1 : q ≤ 33100) : spR p q 0 0 = true := by
  unfold spR spF
  simp only [Bool.and_eq_true, decide_eq_true_eq]
  omega
theorem addRises_t (y n : Int) (c : Bool) (d a b m : Int) (w : World) (G : GT w) (w0 : (Lit.int .i64 y).wf = true) (w1 : (Lit.int .i64 n).wf = true) (w2 : (Lit.int .i64 d).wf = true) (w3 : (Lit.int .i16 a).wf = true) (w4 : (Lit.int .i16 b).wf = true) (w5 : (Lit.int .u8 m).wf = true) :
    Calls Tryd.prog 4 #[.agg #[.int .i64 y, .int .i64 n, .bool c, .int .i64 d, .int .i16 a, .int .i16 b, .int .u8 m]] w fun e w' => e = .returned (.bool true) ∧ Gr w w' := by
  obtain ⟨a0, a1⟩ := bounds_i16 w3
  obtain ⟨b0, b1⟩ := bounds_i16 w4
  obtain ⟨m0, m1⟩ := bounds_u8 w5
  have r1 := spR_small (p := a) (q := b) (by omega) (by omega) (by omega) (by omega)
  have r2 := spR_small (p := a + 1 + m) (q := b) (by omega) (by omega) (by omega) (by omega)
  have r3 := spR_small (p := a) (q := b + 1 + m) (by omega) (by omega) (by omega) (by omega)
  by_cases h : ∃ j, n = cN (lp y) j ∧ c = cL (lp y) j ∧ HV y j d
  · obtain ⟨j, rfl, rfl, hv⟩ := h
    obtain ⟨E, A1, A2, A3, A4, k1⟩ := toK_ex hv a b 0 0 0 (.inl rfl)
    obtain ⟨F, B1, B2, B3, B4, k2⟩ := toK_ex hv (a + 1 + m) b 0 0 0 (.inl rfl)
    obtain ⟨H, D1, D2, D3, D4, k3⟩ := toK_ex hv a (b + 1 + m) 0 0 0 (.inl rfl)
    refine rises_core _ _ _ _ _ _ _ _ _ _ _ _ _ _ _ _ _ _ _ _ _ _ w G a0 a1 b0 b1 m0 m1 (fun W hW => to_c hv r1 (.inl rfl) k1 W (G.gr hW)) (fun W hW => to_c hv r2 (.inl rfl) k2 W (G.gr hW)) (fun W hW => to_c hv r3 (.inl rfl) k3 W (G.gr hW)) ?_ ?_
    · by_cases e : E = 0
      · by_cases f : F = 0
        · subst e f
          exact .inr (.inr (tok_rise hv (.inl ⟨by omega, rfl⟩) k1 k2))
        · exact .inr (.inl f)
      · exact .inl e
    · by_cases e : E = 0
      · by_cases f : H = 0
        · subst e f
          exact .inr (.inr (tok_rise hv (.inr ⟨rfl, by omega⟩) k1 k3))
        · exact .inr (.inl f)
      · exact .inl e
  · obtain ⟨E, e0, e1, c1, c2⟩ := adate_bad y n c d h
    exact rises_core _ _ _ _ _ _ _ _ _ _ _ _ _ _ _ _ _ _ _ _ _ _ w G a0 a1 b0 b1 m0 m1 (fun W hW => to_date y n d _ _ 0 0 0 E c W r1 (.inl rfl) (by omega) fun V hV => c1 V ((G.gr hW).gr hV)) (fun W hW => to_date y n d _ _ 0 0 0 E c W r2 (.inl rfl) (by omega) fun V hV => c1 V ((G.gr hW).gr hV)) (fun W hW => to_date y n d _ _ 0 0 0 E c W r3 (.inl rfl) (by omega) fun V hV => c1 V ((G.gr hW).gr hV)) (.inl (by omega)) (.inl (by omega))

end Go.Proofs.YtkiopgegdkeojaaDoor.Walks
