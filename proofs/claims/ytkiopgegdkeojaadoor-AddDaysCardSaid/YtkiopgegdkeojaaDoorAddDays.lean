/- Nothing, added, is the date; days, and weeks, come back, and are so many days on: the walk of the law; every input. -/
import Derived.Test.YtkiopgegdkeojaaDoorAwake16
set_option linter.unusedVariables false
set_option linter.unusedSimpArgs false
namespace Go.Proofs.YtkiopgegdkeojaaDoor.Walks
open Go Go.RowKit Go.Sort Go.Proofs.YtkiopgegdkeojaaDoor.Base Go.Proofs.YtkiopgegdkeojaaDoor.Plain Go.Proofs.YtkiopgegdkeojaaDoor.Math

theorem own_in1 {y : Int} {j : Nat} {d m : Int} (h : HV y j d) (hm : m = 0 ∨ m = 1) : In1 y j m (y + 0) j := by
  have hc := code_has h.j1
  have e : inE y (cN (lp y) j) (cL (lp y) j) m = 0 := by
    unfold inE
    rw [if_pos hm, if_pos ⟨h.y0, h.y1⟩, if_pos (cR_at (lp y) h.j1), if_pos hc]
  rw [Int.add_zero]
  exact ⟨h.y0, h.y1, h.j1, e, by unfold inNum; rw [e, if_pos rfl, if_pos hc], by unfold inLp; rw [e, if_pos rfl, if_pos hc]⟩
theorem day_to {y : Int} {j : Nat} {d m sw sd y' : Int} {j' : Nat} {d' : Int} (h : HV y j d) (h' : HV y' j' d') (hm : m = 0 ∨ m = 1) (e : hd y' j' d' = hd y j d + (7 * sw + sd)) : ToK y j d 0 0 sw sd m 0 y' (cN (lp y') j') (cL (lp y') j') d' :=
  .ok j y j d y' j' d' (own_in1 h hm) ⟨h.y0, h.y1, h.j1, by rw [Int.add_zero, Int.add_zero]⟩ ⟨.inl ⟨h.d1, rfl⟩⟩ h' e
theorem day_out {y : Int} {j : Nat} {d m sw sd : Int} (h : HV y j d) (hm : m = 0 ∨ m = 1) (e : hd y j d + (7 * sw + sd) < -1373427 ∨ 2278650 < hd y j d + (7 * sw + sd)) : ToK y j d 0 0 sw sd m 2 0 0 false 0 :=
  .out j y j d (own_in1 h hm) ⟨h.y0, h.y1, h.j1, by rw [Int.add_zero, Int.add_zero]⟩ ⟨.inl ⟨h.d1, rfl⟩⟩ e

theorem D5.at {w : World} {b : Nat} (h : w.heap.size = b) (y n d : Int) (c : Bool) : D5 (w.alloc (.cells #[.int .i64 y, .int .i64 n, .bool c, .int .i64 d] 25)) b y n c d := by
  subst h
  exact ⟨by simp, by simp [go_sem], by simp [go_sem], by simp [go_sem], by simp [go_sem], by simp [go_sem], by simp [go_sem], by simp [go_sem], by simp [go_sem]⟩
theorem S4.at {w : World} {b : Nat} (h : w.heap.size = b) (p q r s : Int) : S4 (w.alloc (.cells #[.int .i64 p, .int .i64 q, .int .i64 r, .int .i64 s] 27)) b p q r s := by
  subst h
  exact ⟨by simp, by simp [go_sem], by simp [go_sem], by simp [go_sem], by simp [go_sem]⟩
theorem D5.put {w : World} {b : Nat} {y n d : Int} {c : Bool} (h : D5 w b y n c d) (y' n' : Int) (c' : Bool) (d' : Int) : ∃ W, W = (((w.setCell ⟨b, 0, none⟩ (.int .i64 y')).setCell ⟨b, 1, none⟩ (.int .i64 n')).setCell ⟨b, 2, none⟩ (.bool c')).setCell ⟨b, 3, none⟩ (.int .i64 d') ∧ D5 W b y' n' c' d' := by
  refine ⟨_, rfl, by rw [set_size, set_size, set_size, set_size]; exact h.lt, ?_, ?_, ?_, ?_, set_frozen (set_frozen (set_frozen (set_frozen h.f0))), set_frozen (set_frozen (set_frozen (set_frozen h.f1))), set_frozen (set_frozen (set_frozen (set_frozen h.f2))), set_frozen (set_frozen (set_frozen (set_frozen h.f3)))⟩
  · rw [set_cell (set_cell (set_cell (set_cell h.c0)))]; simp
  · rw [set_cell (set_cell (set_cell (set_cell h.c1)))]; simp
  · rw [set_cell (set_cell (set_cell (set_cell h.c2)))]; simp
  · rw [set_cell (set_cell (set_cell (set_cell h.c3)))]; simp
set_option maxHeartbeats 2000000 in
theorem minus_c (p q r s : Int) (w : World) (hR : spR p q r s = true) : Calls Tryd.prog 10 #[.agg #[.int .i64 p, .int .i64 q, .int .i64 r, .int .i64 s]] w fun e w' => e = .returned (.agg #[.int .i64 (-p), .int .i64 (-q), .int .i64 (-r), .int .i64 (-s)]) ∧ Gr w w' := by
  obtain ⟨⟨p0, p1⟩, ⟨q0, q1⟩, ⟨r0, r1⟩, s0, s1⟩ := spR_of hR
  clear hR
  go_enter Tryd.func10, Tryd.ntmps10
  go_wp2
  exact bodyPost_ret (v := .agg #[.int .i64 (-p), .int .i64 (-q), .int .i64 (-r), .int .i64 (-s)]) (by simp [results, Tryd.results10, go_sem, *]) rfl ⟨rfl, (by repeat (first | exact Gr.refl _ | refine Gr.setCell ?_ _ _ (by first | exact Nat.le_refl _ | (simp; omega) | (simp; done)) | refine Gr.grown ?_ _ _ | refine Gr.drewN ?_ _ | refine Gr.drew ?_ | refine Gr.alloc ?_ _ | refine Gr.grow ?_ _ | (refine Gr.trans ?_ (by assumption))))⟩
set_option maxRecDepth 20000 in
set_option maxHeartbeats 16000000 in
theorem days_bad (y n d N V u M E : Int) (c : Bool) (w : World) (G : GT w) (N0 : -2147483648 ≤ N) (N1 : N ≤ 2147483647) (V0 : -2147483648 ≤ V) (V1 : V ≤ 2147483647) (u0 : 0 ≤ u) (u1 : u ≤ 255) (hM : u.tmod 2 = M) (M0 : 0 ≤ M) (M1 : M ≤ 1) (hE : E ≠ 0)
    (c1 : ∀ W, Gr w W → Calls Tryd.prog 6 #[.agg #[.int .i64 y, .int .i64 n, .bool c, .int .i64 d], .agg #[.int .i64 0, .int .i64 0, .int .i64 0, .int .i64 0], .int .i64 M] W fun e w' => e = .returned (.tuple #[.agg #[.int .i64 0, .int .i64 0, .bool false, .int .i64 0], .int .i64 E]) ∧ Gr W w')
    (c2 : ∀ W, Calls Tryd.prog 9 #[.agg #[.int .i64 y, .int .i64 n, .bool c, .int .i64 d]] W fun e w' => e = .returned (.int .i64 E) ∧ Gr W w') :
    Calls Tryd.prog 5 #[.agg #[.int .i64 y, .int .i64 n, .bool c, .int .i64 d, .int .i32 N, .int .i32 V, .int .u8 u]] w fun e w' => e = .returned (.bool true) ∧ Gr w w' := by
  have C1 := Lib.hid c1
  have C2 := Lib.hid c2
  have C9 := Lib.hid fun W (hW : Gr w W) => awake16_c W (G.gr hW)
  have e5 : (E == 0) = false := beq_eq_false_iff_ne.2 hE
  have e6 : (E != 0) = true := by simp [bne_iff_ne, hE]
  clear c1 c2 G
  go_enter Tryd.func5, Tryd.ntmps5
  go_wp2
  obtain ⟨W1, hW1⟩ : ∃ W1, W1 = w.alloc (.cells #[.int .i64 y, .int .i64 n, .bool c, .int .i64 d, .int .i32 N, .int .i32 V, .int .u8 u] 39) := ⟨_, rfl⟩
  have z0 : W1.cell? ⟨w.heap.size, 0, none⟩ = some (.int .i64 y) := by rw [hW1]; simp [go_sem]
  have z1 : W1.cell? ⟨w.heap.size, 1, none⟩ = some (.int .i64 n) := by rw [hW1]; simp [go_sem]
  have z2 : W1.cell? ⟨w.heap.size, 2, none⟩ = some (.bool c) := by rw [hW1]; simp [go_sem]
  have z3 : W1.cell? ⟨w.heap.size, 3, none⟩ = some (.int .i64 d) := by rw [hW1]; simp [go_sem]
  have z4 : W1.cell? ⟨w.heap.size, 4, none⟩ = some (.int .i32 N) := by rw [hW1]; simp [go_sem]
  have z5 : W1.cell? ⟨w.heap.size, 5, none⟩ = some (.int .i32 V) := by rw [hW1]; simp [go_sem]
  have z6 : W1.cell? ⟨w.heap.size, 6, none⟩ = some (.int .u8 u) := by rw [hW1]; simp [go_sem]
  have zl : w.heap.size < W1.heap.size := by rw [hW1]; simp
  have G1 : Gr w W1 := by rw [hW1]; exact (Gr.refl _).alloc _
  rw [← hW1]
  clear hW1
  go_region_held3 (fun w' => w'.cell? ⟨w.heap.size, 0, none⟩ = some (.int .i64 y) ∧ w'.cell? ⟨w.heap.size, 1, none⟩ = some (.int .i64 n) ∧ w'.cell? ⟨w.heap.size, 2, none⟩ = some (.bool c) ∧ w'.cell? ⟨w.heap.size, 3, none⟩ = some (.int .i64 d) ∧ w'.cell? ⟨w.heap.size, 4, none⟩ = some (.int .i32 N) ∧ w'.cell? ⟨w.heap.size, 5, none⟩ = some (.int .i32 V) ∧ w'.cell? ⟨w.heap.size, 6, none⟩ = some (.int .u8 u)) (first | go_keep | (simp [go_sem, *]; done)) (fail)
  obtain ⟨W2, hW2⟩ : ∃ W2, W2 = (W1.alloc (.cells #[.int .i64 y, .int .i64 n, .bool c, .int .i64 d] 25)).drew := ⟨_, rfl⟩
  have g2 : Gr W1 W2 := by rw [hW2]; exact ((Gr.refl _).alloc _).drew
  have P2 : D5 W2 W1.heap.size y n c d := by rw [hW2]; exact (D5.at rfl y n d c).gr (Gr.refl _).drew
  have G2 : Gr w W2 := G1.trans g2
  rw [← hW2]
  obtain ⟨D, hD⟩ : ∃ D, D = W1.heap.size := ⟨_, rfl⟩
  rw [← hD] at P2 ⊢
  clear hW2 hD g2 z0 z1 z2 z3 z4 z5 z6 zl G1
  obtain ⟨lt, x0, x1, x2, x3, y0, y1, y2, y3⟩ := P2
  go_wp2_with (first | ((try rw [hM]); (go_at_call 6; (with_reducible refine (C1.out _ ((by repeat (first | exact Gr.refl _ | refine Gr.setCell ?_ _ _ (by first | exact Nat.le_refl _ | (simp; omega) | (simp; done)) | refine Gr.grown ?_ _ _ | refine Gr.drewN ?_ _ | refine Gr.drew ?_ | refine Gr.alloc ?_ _ | refine Gr.grow ?_ _ | (refine Gr.trans ?_ (by assumption)))))).mono ?_); rintro e wA ⟨rfl, hgwA⟩); have DA := (⟨lt, x0, x1, x2, x3, y0, y1, y2, y3⟩ : D5 W2 D y n c d).gr hgwA; have GA : Gr w wA := ((by repeat (first | exact Gr.refl _ | refine Gr.setCell ?_ _ _ (by first | exact Nat.le_refl _ | (simp; omega) | (simp; done)) | refine Gr.grown ?_ _ _ | refine Gr.drewN ?_ _ | refine Gr.drew ?_ | refine Gr.alloc ?_ _ | refine Gr.grow ?_ _ | (refine Gr.trans ?_ (by assumption))))); clear hgwA G2 lt x0 x1 x2 x3 y0 y1 y2 y3; obtain ⟨lt, x0, x1, x2, x3, y0, y1, y2, y3⟩ := DA) | ((go_at_call 7; (with_reducible refine (C9.out _ ((by repeat (first | exact Gr.refl _ | refine Gr.setCell ?_ _ _ (by first | exact Nat.le_refl _ | (simp; omega) | (simp; done)) | refine Gr.grown ?_ _ _ | refine Gr.drewN ?_ _ | refine Gr.drew ?_ | refine Gr.alloc ?_ _ | refine Gr.grow ?_ _ | (refine Gr.trans ?_ (by assumption)))))).mono ?_); rintro e wG ⟨rfl, hgwG⟩; obtain ⟨hclwG, hfzwG, hszwG⟩ := gcell hgwG; (try simp [Nat.add_one_le_iff] at hszwG); have hlwG_wA : wA.heap.size < wG.heap.size := (by omega)); have lG : D < wG.heap.size := by omega) | (go_at_call 9; (with_reducible refine (C2.out _).mono ?_); rintro e wH ⟨rfl, hgwH⟩))
  exact bodyPost_ret (v := .bool true) (by simp [results, Tryd.results5, go_sem, *]) rfl ⟨rfl, (by repeat (first | exact Gr.refl _ | refine Gr.setCell ?_ _ _ (by first | exact Nat.le_refl _ | (simp; omega) | (simp; done) | (show (_ : Nat) ≤ _; omega)) | refine Gr.grown ?_ _ _ | refine Gr.drewN ?_ _ | refine Gr.drew ?_ | refine Gr.alloc ?_ _ | refine Gr.grow ?_ _ | (refine Gr.trans ?_ (by assumption))))⟩

set_option maxRecDepth 20000 in
set_option maxHeartbeats 16000000 in
theorem days_far (y n d N V u M P Q : Int) (c : Bool) (w : World) (G : GT w) (N0 : -2147483648 ≤ N) (N1 : N ≤ 2147483647) (V0 : -2147483648 ≤ V) (V1 : V ≤ 2147483647) (u0 : 0 ≤ u) (u1 : u ≤ 255) (hM : u.tmod 2 = M) (M0 : 0 ≤ M) (M1 : M ≤ 1) (hP : V.tmod 500000 = P) (P0 : -500000 < P) (P1 : P < 500000) (hQ : N.tmod 4000000 = Q) (Q0 : -4000000 < Q) (Q1 : Q < 4000000)
    (c1 : ∀ W, Gr w W → Calls Tryd.prog 6 #[.agg #[.int .i64 y, .int .i64 n, .bool c, .int .i64 d], .agg #[.int .i64 0, .int .i64 0, .int .i64 0, .int .i64 0], .int .i64 M] W fun e w' => e = .returned (.tuple #[.agg #[.int .i64 y, .int .i64 n, .bool c, .int .i64 d], .int .i64 0]) ∧ Gr W w')
    (c2 : ∀ W, Gr w W → Calls Tryd.prog 6 #[.agg #[.int .i64 y, .int .i64 n, .bool c, .int .i64 d], .agg #[.int .i64 0, .int .i64 0, .int .i64 P, .int .i64 Q], .int .i64 M] W fun e w' => e = .returned (.tuple #[.agg #[.int .i64 0, .int .i64 0, .bool false, .int .i64 0], .int .i64 2]) ∧ Gr W w') :
    Calls Tryd.prog 5 #[.agg #[.int .i64 y, .int .i64 n, .bool c, .int .i64 d, .int .i32 N, .int .i32 V, .int .u8 u]] w fun e w' => e = .returned (.bool true) ∧ Gr w w' := by
  have C1 := Lib.hid c1
  have C2 := Lib.hid c2
  have C9 := Lib.hid fun W (hW : Gr w W) => awake16_c W (G.gr hW)
  clear c1 c2 G
  go_enter Tryd.func5, Tryd.ntmps5
  go_wp2
  obtain ⟨W1, hW1⟩ : ∃ W1, W1 = w.alloc (.cells #[.int .i64 y, .int .i64 n, .bool c, .int .i64 d, .int .i32 N, .int .i32 V, .int .u8 u] 39) := ⟨_, rfl⟩
  have z0 : W1.cell? ⟨w.heap.size, 0, none⟩ = some (.int .i64 y) := by rw [hW1]; simp [go_sem]
  have z1 : W1.cell? ⟨w.heap.size, 1, none⟩ = some (.int .i64 n) := by rw [hW1]; simp [go_sem]
  have z2 : W1.cell? ⟨w.heap.size, 2, none⟩ = some (.bool c) := by rw [hW1]; simp [go_sem]
  have z3 : W1.cell? ⟨w.heap.size, 3, none⟩ = some (.int .i64 d) := by rw [hW1]; simp [go_sem]
  have z4 : W1.cell? ⟨w.heap.size, 4, none⟩ = some (.int .i32 N) := by rw [hW1]; simp [go_sem]
  have z5 : W1.cell? ⟨w.heap.size, 5, none⟩ = some (.int .i32 V) := by rw [hW1]; simp [go_sem]
  have z6 : W1.cell? ⟨w.heap.size, 6, none⟩ = some (.int .u8 u) := by rw [hW1]; simp [go_sem]
  have zl : w.heap.size < W1.heap.size := by rw [hW1]; simp
  have G1 : Gr w W1 := by rw [hW1]; exact (Gr.refl _).alloc _
  rw [← hW1]
  clear hW1
  go_region_held3 (fun w' => w'.cell? ⟨w.heap.size, 0, none⟩ = some (.int .i64 y) ∧ w'.cell? ⟨w.heap.size, 1, none⟩ = some (.int .i64 n) ∧ w'.cell? ⟨w.heap.size, 2, none⟩ = some (.bool c) ∧ w'.cell? ⟨w.heap.size, 3, none⟩ = some (.int .i64 d) ∧ w'.cell? ⟨w.heap.size, 4, none⟩ = some (.int .i32 N) ∧ w'.cell? ⟨w.heap.size, 5, none⟩ = some (.int .i32 V) ∧ w'.cell? ⟨w.heap.size, 6, none⟩ = some (.int .u8 u)) (first | go_keep | (simp [go_sem, *]; done)) (fail)
  obtain ⟨W2, hW2⟩ : ∃ W2, W2 = (W1.alloc (.cells #[.int .i64 y, .int .i64 n, .bool c, .int .i64 d] 25)).drew := ⟨_, rfl⟩
  have g2 : Gr W1 W2 := by rw [hW2]; exact ((Gr.refl _).alloc _).drew
  have P2 : D5 W2 W1.heap.size y n c d := by rw [hW2]; exact (D5.at rfl y n d c).gr (Gr.refl _).drew
  have G2 : Gr w W2 := G1.trans g2
  rw [← hW2]
  obtain ⟨D, hD⟩ : ∃ D, D = W1.heap.size := ⟨_, rfl⟩
  rw [← hD] at P2 ⊢
  clear hW2 hD g2 z0 z1 z2 z3 z4 z5 z6 zl G1
  obtain ⟨lt, x0, x1, x2, x3, y0, y1, y2, y3⟩ := P2
  go_wp2_with (first | ((try rw [hM]); (go_at_call 6; (with_reducible refine (C1.out _ ((by repeat (first | exact Gr.refl _ | refine Gr.setCell ?_ _ _ (by first | exact Nat.le_refl _ | (simp; omega) | (simp; done)) | refine Gr.grown ?_ _ _ | refine Gr.drewN ?_ _ | refine Gr.drew ?_ | refine Gr.alloc ?_ _ | refine Gr.grow ?_ _ | (refine Gr.trans ?_ (by assumption)))))).mono ?_); rintro e wA ⟨rfl, hgwA⟩); have DA := (⟨lt, x0, x1, x2, x3, y0, y1, y2, y3⟩ : D5 W2 D y n c d).gr hgwA; have GA : Gr w wA := ((by repeat (first | exact Gr.refl _ | refine Gr.setCell ?_ _ _ (by first | exact Nat.le_refl _ | (simp; omega) | (simp; done)) | refine Gr.grown ?_ _ _ | refine Gr.drewN ?_ _ | refine Gr.drew ?_ | refine Gr.alloc ?_ _ | refine Gr.grow ?_ _ | (refine Gr.trans ?_ (by assumption))))); clear hgwA G2 lt x0 x1 x2 x3 y0 y1 y2 y3; have DA_ := DA; obtain ⟨lt, x0, x1, x2, x3, y0, y1, y2, y3⟩ := DA_) | ((try rw [hP]); (try rw [hQ]); (go_at_call 6; (with_reducible refine (C2.out _ ((by repeat (first | exact Gr.refl _ | refine Gr.setCell ?_ _ _ (by first | exact Nat.le_refl _ | (simp; omega) | (simp; done)) | refine Gr.grown ?_ _ _ | refine Gr.drewN ?_ _ | refine Gr.drew ?_ | refine Gr.alloc ?_ _ | refine Gr.grow ?_ _ | (refine Gr.trans ?_ (by assumption)))))).mono ?_); rintro e wB ⟨rfl, hgwB⟩); have AB := (D5.at (w := wA) rfl y n d c).gr (((Gr.refl _).alloc _).trans hgwB); have SB := (S4.at (w := wA.alloc (.cells #[.int .i64 y, .int .i64 n, .bool c, .int .i64 d] 25)) (b := wA.heap.size + 1) (by simp) 0 0 P Q).gr hgwB; have DB := DA.gr ((((Gr.refl _).alloc _).alloc _).trans hgwB); have GB : Gr w wB := ((by repeat (first | exact Gr.refl _ | refine Gr.setCell ?_ _ _ (by first | exact Nat.le_refl _ | (simp; omega) | (simp; done)) | refine Gr.grown ?_ _ _ | refine Gr.drewN ?_ _ | refine Gr.drew ?_ | refine Gr.alloc ?_ _ | refine Gr.grow ?_ _ | (refine Gr.trans ?_ (by assumption))))); clear hgwB DA GA lt x0 x1 x2 x3 y0 y1 y2 y3; have DB_ := DB; obtain ⟨lt, x0, x1, x2, x3, y0, y1, y2, y3⟩ := DB_; have AB_ := AB; obtain ⟨la, a0, a1, a2, a3, b0, b1, b2, b3⟩ := AB_) | (go_at_call 7; (with_reducible refine (C9.out _ ((by repeat (first | exact Gr.refl _ | refine Gr.setCell ?_ _ _ (by first | exact Nat.le_refl _ | (simp; omega) | (simp; done)) | refine Gr.grown ?_ _ _ | refine Gr.drewN ?_ _ | refine Gr.drew ?_ | refine Gr.alloc ?_ _ | refine Gr.grow ?_ _ | (refine Gr.trans ?_ (by assumption)))))).mono ?_); rintro e wG ⟨rfl, hgwG⟩))
  exact bodyPost_ret (v := .bool true) (by simp [results, Tryd.results5, go_sem, *]) rfl ⟨rfl, (by repeat (first | exact Gr.refl _ | refine Gr.setCell ?_ _ _ (by first | exact Nat.le_refl _ | (simp; omega) | (simp; done) | (show (_ : Nat) ≤ _; omega)) | refine Gr.grown ?_ _ _ | refine Gr.drewN ?_ _ | refine Gr.drew ?_ | refine Gr.alloc ?_ _ | refine Gr.grow ?_ _ | (refine Gr.trans ?_ (by assumption))))⟩
set_option maxRecDepth 20000 in
set_option maxHeartbeats 16000000 in
theorem days_near (y n d N V u M P Q B1 B2 B4 x z : Int) (c B3 : Bool) (w : World) (G : GT w) (N0 : -2147483648 ≤ N) (N1 : N ≤ 2147483647) (V0 : -2147483648 ≤ V) (V1 : V ≤ 2147483647) (u0 : 0 ≤ u) (u1 : u ≤ 255) (hM : u.tmod 2 = M) (M0 : 0 ≤ M) (M1 : M ≤ 1) (hP : V.tmod 500000 = P) (P0 : -500000 < P) (P1 : P < 500000) (hQ : N.tmod 4000000 = Q) (Q0 : -4000000 < Q) (Q1 : Q < 4000000)
    (hx : -1500000 ≤ x ∧ x ≤ 2300000) (hz : z = x + (7 * P + Q)) (hz2 : -1500000 ≤ z ∧ z ≤ 2300000)
    (c1 : ∀ W, Gr w W → Calls Tryd.prog 6 #[.agg #[.int .i64 y, .int .i64 n, .bool c, .int .i64 d], .agg #[.int .i64 0, .int .i64 0, .int .i64 0, .int .i64 0], .int .i64 M] W fun e w' => e = .returned (.tuple #[.agg #[.int .i64 y, .int .i64 n, .bool c, .int .i64 d], .int .i64 0]) ∧ Gr W w')
    (c2 : ∀ W, Gr w W → Calls Tryd.prog 6 #[.agg #[.int .i64 y, .int .i64 n, .bool c, .int .i64 d], .agg #[.int .i64 0, .int .i64 0, .int .i64 P, .int .i64 Q], .int .i64 M] W fun e w' => e = .returned (.tuple #[.agg #[.int .i64 B1, .int .i64 B2, .bool B3, .int .i64 B4], .int .i64 0]) ∧ Gr W w')
    (c3 : ∀ W, Calls Tryd.prog 10 #[.agg #[.int .i64 0, .int .i64 0, .int .i64 P, .int .i64 Q]] W fun e w' => e = .returned (.agg #[.int .i64 0, .int .i64 0, .int .i64 (-P), .int .i64 (-Q)]) ∧ Gr W w')
    (c4 : ∀ W, Gr w W → Calls Tryd.prog 6 #[.agg #[.int .i64 B1, .int .i64 B2, .bool B3, .int .i64 B4], .agg #[.int .i64 0, .int .i64 0, .int .i64 (-P), .int .i64 (-Q)], .int .i64 M] W fun e w' => e = .returned (.tuple #[.agg #[.int .i64 y, .int .i64 n, .bool c, .int .i64 d], .int .i64 0]) ∧ Gr W w')
    (c5 : ∀ W, Calls Tryd.prog 11 #[.agg #[.int .i64 y, .int .i64 n, .bool c, .int .i64 d]] W fun e w' => e = .returned (.tuple #[.int .i64 x, .int .i64 0]) ∧ Gr W w')
    (c6 : ∀ W, Calls Tryd.prog 11 #[.agg #[.int .i64 B1, .int .i64 B2, .bool B3, .int .i64 B4]] W fun e w' => e = .returned (.tuple #[.int .i64 z, .int .i64 0]) ∧ Gr W w') :
    Calls Tryd.prog 5 #[.agg #[.int .i64 y, .int .i64 n, .bool c, .int .i64 d, .int .i32 N, .int .i32 V, .int .u8 u]] w fun e w' => e = .returned (.bool true) ∧ Gr w w' := by
  have C1 := Lib.hid c1
  have C2 := Lib.hid c2
  have C3 := Lib.hid c3
  have C4 := Lib.hid c4
  have C5 := Lib.hid c5
  have C6 := Lib.hid c6
  have C9 := Lib.hid fun W (hW : Gr w W) => awake16_c W (G.gr hW)
  clear c1 c2 c3 c4 c5 c6 G
  go_enter Tryd.func5, Tryd.ntmps5
  go_wp2
  obtain ⟨W1, hW1⟩ : ∃ W1, W1 = w.alloc (.cells #[.int .i64 y, .int .i64 n, .bool c, .int .i64 d, .int .i32 N, .int .i32 V, .int .u8 u] 39) := ⟨_, rfl⟩
  have z0 : W1.cell? ⟨w.heap.size, 0, none⟩ = some (.int .i64 y) := by rw [hW1]; simp [go_sem]
  have z1 : W1.cell? ⟨w.heap.size, 1, none⟩ = some (.int .i64 n) := by rw [hW1]; simp [go_sem]
  have z2 : W1.cell? ⟨w.heap.size, 2, none⟩ = some (.bool c) := by rw [hW1]; simp [go_sem]
  have z3 : W1.cell? ⟨w.heap.size, 3, none⟩ = some (.int .i64 d) := by rw [hW1]; simp [go_sem]
  have z4 : W1.cell? ⟨w.heap.size, 4, none⟩ = some (.int .i32 N) := by rw [hW1]; simp [go_sem]
  have z5 : W1.cell? ⟨w.heap.size, 5, none⟩ = some (.int .i32 V) := by rw [hW1]; simp [go_sem]
  have z6 : W1.cell? ⟨w.heap.size, 6, none⟩ = some (.int .u8 u) := by rw [hW1]; simp [go_sem]
  have zl : w.heap.size < W1.heap.size := by rw [hW1]; simp
  have G1 : Gr w W1 := by rw [hW1]; exact (Gr.refl _).alloc _
  rw [← hW1]
  clear hW1
  go_region_held3 (fun w' => w'.cell? ⟨w.heap.size, 0, none⟩ = some (.int .i64 y) ∧ w'.cell? ⟨w.heap.size, 1, none⟩ = some (.int .i64 n) ∧ w'.cell? ⟨w.heap.size, 2, none⟩ = some (.bool c) ∧ w'.cell? ⟨w.heap.size, 3, none⟩ = some (.int .i64 d) ∧ w'.cell? ⟨w.heap.size, 4, none⟩ = some (.int .i32 N) ∧ w'.cell? ⟨w.heap.size, 5, none⟩ = some (.int .i32 V) ∧ w'.cell? ⟨w.heap.size, 6, none⟩ = some (.int .u8 u)) (first | go_keep | (simp [go_sem, *]; done)) (fail)
  obtain ⟨W2, hW2⟩ : ∃ W2, W2 = (W1.alloc (.cells #[.int .i64 y, .int .i64 n, .bool c, .int .i64 d] 25)).drew := ⟨_, rfl⟩
  have g2 : Gr W1 W2 := by rw [hW2]; exact ((Gr.refl _).alloc _).drew
  have P2 : D5 W2 W1.heap.size y n c d := by rw [hW2]; exact (D5.at rfl y n d c).gr (Gr.refl _).drew
  have G2 : Gr w W2 := G1.trans g2
  rw [← hW2]
  obtain ⟨D, hD⟩ : ∃ D, D = W1.heap.size := ⟨_, rfl⟩
  rw [← hD] at P2 ⊢
  clear hW2 hD g2 z0 z1 z2 z3 z4 z5 z6 zl G1
  obtain ⟨lt, x0, x1, x2, x3, y0, y1, y2, y3⟩ := P2
  go_wp2_with (first | ((try rw [hM]); (go_at_call 6; (with_reducible refine (C1.out _ ((by repeat (first | exact Gr.refl _ | refine Gr.setCell ?_ _ _ (by first | exact Nat.le_refl _ | (simp; omega) | (simp; done)) | refine Gr.grown ?_ _ _ | refine Gr.drewN ?_ _ | refine Gr.drew ?_ | refine Gr.alloc ?_ _ | refine Gr.grow ?_ _ | (refine Gr.trans ?_ (by assumption)))))).mono ?_); rintro e wA ⟨rfl, hgwA⟩); have DA := (⟨lt, x0, x1, x2, x3, y0, y1, y2, y3⟩ : D5 W2 D y n c d).gr hgwA; have GA : Gr w wA := ((by repeat (first | exact Gr.refl _ | refine Gr.setCell ?_ _ _ (by first | exact Nat.le_refl _ | (simp; omega) | (simp; done)) | refine Gr.grown ?_ _ _ | refine Gr.drewN ?_ _ | refine Gr.drew ?_ | refine Gr.alloc ?_ _ | refine Gr.grow ?_ _ | (refine Gr.trans ?_ (by assumption))))); clear hgwA G2 lt x0 x1 x2 x3 y0 y1 y2 y3; have DA_ := DA; obtain ⟨lt, x0, x1, x2, x3, y0, y1, y2, y3⟩ := DA_) | ((try rw [hP]); (try rw [hQ]); (go_at_call 6; (with_reducible refine (C2.out _ ((by repeat (first | exact Gr.refl _ | refine Gr.setCell ?_ _ _ (by first | exact Nat.le_refl _ | (simp; omega) | (simp; done)) | refine Gr.grown ?_ _ _ | refine Gr.drewN ?_ _ | refine Gr.drew ?_ | refine Gr.alloc ?_ _ | refine Gr.grow ?_ _ | (refine Gr.trans ?_ (by assumption)))))).mono ?_); rintro e wB ⟨rfl, hgwB⟩); have AB := (D5.at (w := wA) rfl y n d c).gr (((Gr.refl _).alloc _).trans hgwB); have SB := (S4.at (w := wA.alloc (.cells #[.int .i64 y, .int .i64 n, .bool c, .int .i64 d] 25)) (b := wA.heap.size + 1) (by simp) 0 0 P Q).gr hgwB; have DB := DA.gr ((((Gr.refl _).alloc _).alloc _).trans hgwB); have GB : Gr w wB := ((by repeat (first | exact Gr.refl _ | refine Gr.setCell ?_ _ _ (by first | exact Nat.le_refl _ | (simp; omega) | (simp; done)) | refine Gr.grown ?_ _ _ | refine Gr.drewN ?_ _ | refine Gr.drew ?_ | refine Gr.alloc ?_ _ | refine Gr.grow ?_ _ | (refine Gr.trans ?_ (by assumption))))); clear hgwB DA GA lt x0 x1 x2 x3 y0 y1 y2 y3; have DB_ := DB; obtain ⟨lt, x0, x1, x2, x3, y0, y1, y2, y3⟩ := DB_; have AB_ := AB; obtain ⟨la, a0, a1, a2, a3, b0, b1, b2, b3⟩ := AB_))
  obtain ⟨W3, hW3⟩ : ∃ W3, W3 = wB.alloc (.cells #[.int .i64 B1, .int .i64 B2, .bool B3, .int .i64 B4] 25) := ⟨_, rfl⟩
  have g3 : Gr wB W3 := by rw [hW3]; exact (Gr.refl _).alloc _
  have B3' : D5 W3 wB.heap.size B1 B2 B3 B4 := by rw [hW3]; exact D5.at rfl B1 B2 B4 B3
  have D3 := DB.gr g3
  have S3 := SB.gr g3
  have G3 := GB.trans g3
  rw [← hW3]
  obtain ⟨R, hR⟩ : ∃ R, R = wB.heap.size := ⟨_, rfl⟩
  obtain ⟨S, hS⟩ : ∃ S, S = wA.heap.size + 1 := ⟨_, rfl⟩
  rw [← hR] at B3' ⊢
  rw [← hS] at S3 ⊢
  clear hR hS hW3 g3 DB SB GB AB lt x0 x1 x2 x3 y0 y1 y2 y3 la a0 a1 a2 a3 b0 b1 b2 b3
  have r0 : ∀ w', Gr W3 w' → w'.cell? ⟨R, 0, none⟩ = some (.int .i64 B1) := fun w' h => h.keep B3'.lt B3'.c0
  have r1 : ∀ w', Gr W3 w' → w'.cell? ⟨R, 1, none⟩ = some (.int .i64 B2) := fun w' h => h.keep B3'.lt B3'.c1
  have r2 : ∀ w', Gr W3 w' → w'.cell? ⟨R, 2, none⟩ = some (.bool B3) := fun w' h => h.keep B3'.lt B3'.c2
  have r3 : ∀ w', Gr W3 w' → w'.cell? ⟨R, 3, none⟩ = some (.int .i64 B4) := fun w' h => h.keep B3'.lt B3'.c3
  have s0 : ∀ w', Gr W3 w' → w'.cell? ⟨S, 0, none⟩ = some (.int .i64 0) := fun w' h => h.keep S3.lt S3.c0
  have s1 : ∀ w', Gr W3 w' → w'.cell? ⟨S, 1, none⟩ = some (.int .i64 0) := fun w' h => h.keep S3.lt S3.c1
  have s2 : ∀ w', Gr W3 w' → w'.cell? ⟨S, 2, none⟩ = some (.int .i64 P) := fun w' h => h.keep S3.lt S3.c2
  have s3 : ∀ w', Gr W3 w' → w'.cell? ⟨S, 3, none⟩ = some (.int .i64 Q) := fun w' h => h.keep S3.lt S3.c3
  have hd : Gr W3 W3.drew := (Gr.refl _).drew
  have hq : (z - x == 7 * P + Q) = true := by rw [beq_iff_eq]; omega
  clear hz
  have HB := Lib.hid B3'
  have HD := Lib.hid D3
  have HS := Lib.hid S3
  have C4' := Lib.hid fun W (h : Gr W3 W) => C4.out W (G3.trans h)
  clear B3' D3 S3 C4 C1 C2
  go_region_held3 (fun w' => Gr W3 w') (repeat (first | exact hd | assumption | exact Gr.refl _ | refine Gr.drew ?_ | refine Gr.setCell ?_ _ _ (by first | exact Nat.le_refl _ | (simp; omega) | (simp at *; omega)) | refine Gr.alloc ?_ _ | (refine Gr.trans ?_ (by assumption)))) (first | ((go_at_call 10; (with_reducible refine (C3.out _).mono ?_); rintro e w1 ⟨rfl, hgw1⟩; obtain ⟨hclw1, hfzw1, hszw1⟩ := gcell hgw1; (try simp [Nat.add_one_le_iff] at hszw1))) | ((go_at_call 6; (refine Calls.mono (C4'.out _ (by first | assumption | (repeat (first | exact hd | assumption | exact Gr.refl _ | refine Gr.drew ?_ | refine Gr.setCell ?_ _ _ (by first | exact Nat.le_refl _ | (simp; omega) | (simp at *; omega)) | refine Gr.alloc ?_ _ | (refine Gr.trans ?_ (by assumption)))))) ?_); rintro e w2 ⟨rfl, hgw2⟩; obtain ⟨hclw2, hfzw2, hszw2⟩ := gcell hgw2; (try simp [Nat.add_one_le_iff] at hszw2))))
  all_goals (
    first
      | (have Z : D5 w2 w1.heap.size 0 0 false 0 := (D5.at rfl 0 0 0 false).gr hgw2
         obtain ⟨WF, hWF, CF⟩ := Z.put y n c d
         rw [← hWF]
         have GF : Gr W3 WF := by rw [hWF]; assumption
         obtain ⟨K, hK⟩ : ∃ K, K = w1.heap.size := ⟨_, rfl⟩
         rw [← hK] at CF ⊢
         clear hK hWF Z)
      | (have Z : D5 w2 W3.heap.size 0 0 false 0 := (D5.at (w := W3) rfl 0 0 0 false).gr (((Gr.refl _).drew.trans hgw1).trans hgw2)
         obtain ⟨WF, hWF, CF⟩ := Z.put y n c d
         rw [← hWF]
         have GF : Gr W3 WF := by rw [hWF]; assumption
         obtain ⟨K, hK⟩ : ∃ K, K = W3.heap.size := ⟨_, rfl⟩
         rw [← hK] at CF ⊢
         clear hK hWF Z)
      | (obtain ⟨WF, hWF⟩ : ∃ WF, WF = w2.alloc (.cells #[.int .i64 y, .int .i64 n, .bool c, .int .i64 d] 25) := ⟨_, rfl⟩
         have CF : D5 WF w2.heap.size y n c d := by rw [hWF]; exact D5.at rfl y n d c
         rw [← hWF]
         have GF : Gr W3 WF := by rw [hWF]; assumption
         obtain ⟨K, hK⟩ : ∃ K, K = w2.heap.size := ⟨_, rfl⟩
         rw [← hK] at CF ⊢
         clear hK hWF)
    have DF := HD.out.gr GF
    have BF := HB.out.gr GF
    have SF := HS.out.gr GF
    have GG := G3.trans GF
    clear hclw1 hfzw1 hszw1 hclw2 hfzw2 hszw2 r0 r1 r2 r3 s0 s1 s2 s3 hd hgw1 hgw2 GF
    have DF_ := DF
    obtain ⟨lt, x0, x1, x2, x3, y0, y1, y2, y3⟩ := DF_
    go_wp2_with (first | ((go_at_call 11; (with_reducible refine (C5.out _).mono ?_); rintro e wE ⟨rfl, hgwE⟩); have CE := CF.gr hgwE; have DE := DF.gr hgwE; have BE := BF.gr hgwE; have SE := SF.gr hgwE; have GE := GG.trans hgwE; clear lt x0 x1 x2 x3 y0 y1 y2 y3 hgwE GG CF DF BF SF; have BE_ := BE; obtain ⟨lt, x0, x1, x2, x3, y0, y1, y2, y3⟩ := BE_) |
      ((go_at_call 11; (with_reducible refine (C6.out _).mono ?_); rintro e wH ⟨rfl, hgwH⟩); have CH := CE.gr hgwH; have DH := DE.gr hgwH; have SH := SE.gr hgwH; have GH := GE.trans hgwH; clear lt x0 x1 x2 x3 y0 y1 y2 y3 hgwH GE CE DE BE SE) |
      ((go_at_call 7; (with_reducible refine (C9.out _ GH).mono ?_); rintro e wI ⟨rfl, hgwI⟩); have CI := CH.gr hgwI; have DI := DH.gr hgwI; have SI := SH.gr hgwI; have GI := GH.trans hgwI; clear hgwI GH CH DH SH; obtain ⟨lt, x0, x1, x2, x3, y0, y1, y2, y3⟩ := CI; obtain ⟨lu, a0, a1, a2, a3, b0, b1, b2, b3⟩ := DI; obtain ⟨lv, s0, s1, s2, s3⟩ := SI))
    exact bodyPost_ret (v := .bool true) (by simp [results, Tryd.results5, go_sem, *]) rfl ⟨rfl, (by repeat (first | exact Gr.refl _ | refine Gr.setCell ?_ _ _ (by first | exact Nat.le_refl _ | (simp; omega) | (simp; done) | (show (_ : Nat) ≤ _; omega)) | refine Gr.grown ?_ _ _ | refine Gr.drewN ?_ _ | refine Gr.drew ?_ | refine Gr.alloc ?_ _ | refine Gr.grow ?_ _ | (refine Gr.trans ?_ (by assumption))))⟩)
theorem spR_days {p q : Int} (p0 : -500000 < p) (p1 : p < 500000) (q0 : -4000000 < q) (q1 : q < 4000000) : spR 0 0 p q = true := by
  unfold spR spF
  simp only [Bool.and_eq_true, decide_eq_true_eq]
  omega
theorem addDays_t (y n : Int) (c : Bool) (d N V u : Int) (w : World) (G : GT w) (w0 : (Lit.int .i64 y).wf = true) (w1 : (Lit.int .i64 n).wf = true) (w2 : (Lit.int .i64 d).wf = true) (w3 : (Lit.int .i32 N).wf = true) (w4 : (Lit.int .i32 V).wf = true) (w5 : (Lit.int .u8 u).wf = true) :
    Calls Tryd.prog 5 #[.agg #[.int .i64 y, .int .i64 n, .bool c, .int .i64 d, .int .i32 N, .int .i32 V, .int .u8 u]] w fun e w' => e = .returned (.bool true) ∧ Gr w w' := by
  obtain ⟨N0, N1⟩ := bounds_i32 w3
  obtain ⟨V0, V1⟩ := bounds_i32 w4
  obtain ⟨u0, u1⟩ := bounds_u8 w5
  have m0 : 0 ≤ u.tmod 2 := Int.tmod_nonneg 2 u0
  have m1 : u.tmod 2 < 2 := Int.tmod_lt_of_pos u (by decide)
  have p0 : -500000 < V.tmod 500000 := Int.lt_tmod_of_pos V (by decide)
  have p1 : V.tmod 500000 < 500000 := Int.tmod_lt_of_pos V (by decide)
  have q0 : -4000000 < N.tmod 4000000 := Int.lt_tmod_of_pos N (by decide)
  have q1 : N.tmod 4000000 < 4000000 := Int.tmod_lt_of_pos N (by decide)
  obtain ⟨M, hM⟩ : ∃ M, u.tmod 2 = M := ⟨_, rfl⟩
  obtain ⟨P, hP⟩ : ∃ P, V.tmod 500000 = P := ⟨_, rfl⟩
  obtain ⟨Q, hQ⟩ : ∃ Q, N.tmod 4000000 = Q := ⟨_, rfl⟩
  rw [hM] at m0 m1
  rw [hP] at p0 p1
  rw [hQ] at q0 q1
  have hm : M = 0 ∨ M = 1 := by omega
  have z0 : spR 0 0 0 0 = true := by decide
  have z1 := spR_days p0 p1 q0 q1
  have z2 := spR_days (p := -P) (q := -Q) (by omega) (by omega) (by omega) (by omega)
  by_cases h : ∃ j, n = cN (lp y) j ∧ c = cL (lp y) j ∧ HV y j d
  · obtain ⟨j, rfl, rfl, hv⟩ := h
    have r := hd_range hv
    have k0 := day_to (m := M) (sw := 0) (sd := 0) hv hv hm (by omega)
    by_cases q : hd y j d + (7 * P + Q) < -1373427 ∨ 2278650 < hd y j d + (7 * P + Q)
    · exact days_far y _ d N V u M P Q _ w G N0 N1 V0 V1 u0 u1 hM m0 (by omega) hP p0 p1 hQ q0 q1 (fun W hW => to_c hv z0 hm k0 W (G.gr hW)) (fun W hW => to_c hv z1 hm (day_out hv hm q) W (G.gr hW))
    · obtain ⟨Y', J', N', hv', e'⟩ := hd_of (n := hd y j d + (7 * P + Q)) (by omega) (by omega)
      have r' := hd_range hv'
      exact days_near y _ d N V u M P Q Y' _ N' (hd y j d) (hd Y' J' N') _ _ w G N0 N1 V0 V1 u0 u1 hM m0 (by omega) hP p0 p1 hQ q0 q1 (by omega) e' (by omega) (fun W hW => to_c hv z0 hm k0 W (G.gr hW)) (fun W hW => to_c hv z1 hm (day_to hv hv' hm e') W (G.gr hW))
        (fun W => by simpa using minus_c 0 0 P Q W z1) (fun W hW => to_c hv' z2 hm (day_to hv' hv hm (by omega)) W (G.gr hW)) (fun W => r10today_in y j d W hv) (fun W => r10today_in Y' J' N' W hv')
  · obtain ⟨E, e0, e1, c1, c2⟩ := adate_bad y n c d h
    exact days_bad y n d N V u M E c w G N0 N1 V0 V1 u0 u1 hM m0 (by omega) (by omega) (fun W hW => to_date y n d _ _ _ _ M E c W z0 hm (by omega) fun U hU => c1 U ((G.gr hW).gr hU)) c2

end Go.Proofs.YtkiopgegdkeojaaDoor.Walks
