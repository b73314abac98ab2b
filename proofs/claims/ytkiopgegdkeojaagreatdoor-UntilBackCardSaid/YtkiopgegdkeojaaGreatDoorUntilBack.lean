/- Added to the first date, with Constrain, the duration leads to the other one; no field opposes the way: the walk of the law; every input. -/
import Derived.Test.YtkiopgegdkeojaaGreatDoorUntilB
set_option linter.unusedVariables false
set_option linter.unusedSimpArgs false
namespace Go.Proofs.YtkiopgegdkeojaaGreatDoor.Walks
open Go Go.RowKit Go.Sort Go.Proofs.YtkiopgegdkeojaaGreatDoor.Base Go.Proofs.YtkiopgegdkeojaaGreatDoor.Plain Go.Proofs.YtkiopgegdkeojaaGreatDoor.Math

theorem spR_all {p q r z : Int} (p0 : -4000000 ≤ p) (p1 : p ≤ 4000000) (q0 : -4000000 ≤ q) (q1 : q ≤ 4000000) (r0 : -4000000 ≤ r) (r1 : r ≤ 4000000) (z0 : -4000000 ≤ z) (z1 : z ≤ 4000000) : spR p q r z = true := by
  unfold spR spF
  simp only [Bool.and_eq_true, decide_eq_true_eq]
  omega
/-- What is known of the duration: it leads there, and no field opposes the way. -/
theorem uk_back {y : Int} {j : Nat} {d y' : Int} {j' : Nat} {d' u p q r z : Int} (h : HV y j d) (h' : HV y' j' d') (k : UK y j d (hd y j d) (hd y' j' d') u p q r z) :
    ToK y j d p q r z 0 0 y' (cN (lp y') j') (cL (lp y') j') d' ∧ spR p q r z = true ∧ ((hd y j d ≤ hd y' j' d' ∧ 0 ≤ p ∧ 0 ≤ q ∧ 0 ≤ r ∧ 0 ≤ z) ∨ (hd y' j' d' < hd y j d ∧ p ≤ 0 ∧ q ≤ 0 ∧ r ≤ 0 ∧ z ≤ 0)) := by
  have rX := hd_range h
  have rT := hd_range h'
  cases k with
  | days =>
    obtain ⟨f, F⟩ := uf_ex h
    obtain ⟨z0, z1⟩ := uf_zero h F
    have U := uf_ok F z0
    unfold UV.X at z1
    exact ⟨.ok _ _ _ _ y' j' d' U.a U.b U.c h' (by omega), spR_all (by omega) (by omega) (by omega) (by omega) (by omega) (by omega) (by omega) (by omega), by omega⟩
  | weeks =>
    obtain ⟨f, F⟩ := uf_ex h
    obtain ⟨z0, z1⟩ := uf_zero h F
    have U := uf_ok F z0
    unfold UV.X at z1
    obtain ⟨t0, t1, t2, t3, t4⟩ := tdiv7 (hd y' j' d' - hd y j d)
    generalize (hd y' j' d' - hd y j d).tdiv 7 = A at *
    generalize (hd y' j' d' - hd y j d).tmod 7 = B at *
    exact ⟨.ok _ _ _ _ y' j' d' U.a U.b U.c h' (by omega), spR_all (by omega) (by omega) (by omega) (by omega) (by omega) (by omega) (by omega) (by omega), by omega⟩
  | months f s N F hs n1 n3 n4 n5 =>
    have U := uf_ok F n3
    have rv := hd_range (ur_hv h U)
    have sN := sN_range (s := s) (by omega) (N := N) (by omega)
    unfold UV.X at n4 ⊢
    refine ⟨.ok _ _ _ _ y' j' d' U.a U.b U.c h' (by omega), spR_all (by omega) (by omega) (by omega) (by omega) (by omega) (by omega) (by omega) (by omega), ?_⟩
    rcases hs with ⟨rfl, g⟩ | ⟨rfl, g⟩
    · left; omega
    · right; omega
  | years f s M N F hs m1 n1 m3 m4 m5 n2 n3 n4 n5 =>
    have U := uf_ok F n3
    have rv := hd_range (ur_hv h U)
    have sM := sN_range (s := s) (by omega) (N := M) (by omega)
    have sN := sN_range (s := s) (by omega) (N := N) (by omega)
    unfold UV.X at n4 ⊢
    refine ⟨.ok _ _ _ _ y' j' d' U.a U.b U.c h' (by omega), spR_all (by omega) (by omega) (by omega) (by omega) (by omega) (by omega) (by omega) (by omega), ?_⟩
    rcases hs with ⟨rfl, g⟩ | ⟨rfl, g⟩
    · left; omega
    · right; omega

set_option maxRecDepth 20000 in
set_option maxHeartbeats 8000000 in
theorem uback_a (y n d y' n' d' u M E x E' : Int) (c c' : Bool) (w : World) (G : GT w) (u0 : 0 ≤ u) (u1 : u ≤ 255) (hM : u.tmod 4 = M) (M0 : 0 ≤ M) (M1 : M ≤ 3) (hE : E ≠ 0)
    (c1 : ∀ W, Gr w W → Calls Tryz.prog 14 #[.agg #[.int .i64 y, .int .i64 n, .bool c, .int .i64 d], .agg #[.int .i64 y', .int .i64 n', .bool c', .int .i64 d'], .int .i64 M] W fun e w' => e = .returned (.tuple #[.agg #[.int .i64 0, .int .i64 0, .int .i64 0, .int .i64 0], .int .i64 E]) ∧ Gr W w')
    (c2 : ∀ W, Calls Tryz.prog 17 #[.agg #[.int .i64 y, .int .i64 n, .bool c, .int .i64 d]] W fun e w' => e = .returned (.tuple #[.int .i64 0, .int .i64 E]) ∧ Gr W w')
    (c3 : ∀ W, Calls Tryz.prog 17 #[.agg #[.int .i64 y', .int .i64 n', .bool c', .int .i64 d']] W fun e w' => e = .returned (.tuple #[.int .i64 x, .int .i64 E']) ∧ Gr W w') :
    Calls Tryz.prog 5 #[.agg #[.int .i64 y, .int .i64 n, .bool c, .int .i64 d], .agg #[.int .i64 y', .int .i64 n', .bool c', .int .i64 d'], .int .u8 u] w fun e w' => e = .returned (.bool true) ∧ Gr w w' := by
  have C1 := Lib.hid c1
  have C2 := Lib.hid c2
  have C3 := Lib.hid c3
  have C9 := Lib.hid fun W (hW : Gr w W) => awake17_c W (G.gr hW)
  have e1 : (E == 0) = false := beq_eq_false_iff_ne.2 hE
  have e2 : (E != 0) = true := by simp [bne_iff_ne, hE]
  clear c1 c2 c3 G
  go_enter Tryz.func5, Tryz.ntmps5
  go_wp2_with (first | ((try rw [hM]); (go_at_call 14; (with_reducible refine (C1.out _ ((by repeat (first | exact Gr.refl _ | refine Gr.setCell ?_ _ _ (by first | exact Nat.le_refl _ | (simp; omega) | (simp; done)) | refine Gr.grown ?_ _ _ | refine Gr.drewN ?_ _ | refine Gr.drew ?_ | refine Gr.alloc ?_ _ | refine Gr.grow ?_ _ | (refine Gr.trans ?_ (by assumption)))))).mono ?_); rintro e wA ⟨rfl, hgwA⟩; obtain ⟨hclwA, hfzwA, hszwA⟩ := gcell hgwA; (try simp [Nat.add_one_le_iff] at hszwA); have hlwA_w : w.heap.size < wA.heap.size := (by omega))) | (go_at_call 17; (with_reducible refine (C2.out _).mono ?_); rintro e wB ⟨rfl, hgwB⟩; obtain ⟨hclwB, hfzwB, hszwB⟩ := gcell hgwB; (try simp [Nat.add_one_le_iff] at hszwB); have hlwB_w : w.heap.size < wB.heap.size := (by omega); have hlwB_wA : wA.heap.size < wB.heap.size := (by omega)) | (go_at_call 17; (with_reducible refine (C3.out _).mono ?_); rintro e wD ⟨rfl, hgwD⟩; obtain ⟨hclwD, hfzwD, hszwD⟩ := gcell hgwD; (try simp [Nat.add_one_le_iff] at hszwD); have hlwD_w : w.heap.size < wD.heap.size := (by omega); have hlwD_wA : wA.heap.size < wD.heap.size := (by omega)) | (go_at_call 16; (with_reducible refine (C9.out _ ((by repeat (first | exact Gr.refl _ | refine Gr.setCell ?_ _ _ (by first | exact Nat.le_refl _ | (simp; omega) | (simp; done)) | refine Gr.grown ?_ _ _ | refine Gr.drewN ?_ _ | refine Gr.drew ?_ | refine Gr.alloc ?_ _ | refine Gr.grow ?_ _ | (refine Gr.trans ?_ (by assumption)))))).mono ?_); rintro e wI ⟨rfl, hgwI⟩))
  go_ret
  exact ⟨rfl, (by repeat (first | exact Gr.refl _ | refine Gr.setCell ?_ _ _ (by first | exact Nat.le_refl _ | (simp; omega) | (simp; done)) | refine Gr.grown ?_ _ _ | refine Gr.drewN ?_ _ | refine Gr.drew ?_ | refine Gr.alloc ?_ _ | refine Gr.grow ?_ _ | (refine Gr.trans ?_ (by assumption))))⟩
set_option maxRecDepth 20000 in
set_option maxHeartbeats 8000000 in
theorem uback_b (y n d y' n' d' u M E x : Int) (c c' : Bool) (w : World) (G : GT w) (u0 : 0 ≤ u) (u1 : u ≤ 255) (hM : u.tmod 4 = M) (M0 : 0 ≤ M) (M1 : M ≤ 3) (hE : E ≠ 0)
    (c1 : ∀ W, Gr w W → Calls Tryz.prog 14 #[.agg #[.int .i64 y, .int .i64 n, .bool c, .int .i64 d], .agg #[.int .i64 y', .int .i64 n', .bool c', .int .i64 d'], .int .i64 M] W fun e w' => e = .returned (.tuple #[.agg #[.int .i64 0, .int .i64 0, .int .i64 0, .int .i64 0], .int .i64 E]) ∧ Gr W w')
    (c2 : ∀ W, Calls Tryz.prog 17 #[.agg #[.int .i64 y, .int .i64 n, .bool c, .int .i64 d]] W fun e w' => e = .returned (.tuple #[.int .i64 x, .int .i64 0]) ∧ Gr W w')
    (c3 : ∀ W, Calls Tryz.prog 17 #[.agg #[.int .i64 y', .int .i64 n', .bool c', .int .i64 d']] W fun e w' => e = .returned (.tuple #[.int .i64 0, .int .i64 E]) ∧ Gr W w') :
    Calls Tryz.prog 5 #[.agg #[.int .i64 y, .int .i64 n, .bool c, .int .i64 d], .agg #[.int .i64 y', .int .i64 n', .bool c', .int .i64 d'], .int .u8 u] w fun e w' => e = .returned (.bool true) ∧ Gr w w' := by
  have C1 := Lib.hid c1
  have C2 := Lib.hid c2
  have C3 := Lib.hid c3
  have C9 := Lib.hid fun W (hW : Gr w W) => awake17_c W (G.gr hW)
  have e1 : (E == 0) = false := beq_eq_false_iff_ne.2 hE
  have e2 : (E != 0) = true := by simp [bne_iff_ne, hE]
  clear c1 c2 c3 G
  go_enter Tryz.func5, Tryz.ntmps5
  go_wp2_with (first | ((try rw [hM]); (go_at_call 14; (with_reducible refine (C1.out _ ((by repeat (first | exact Gr.refl _ | refine Gr.setCell ?_ _ _ (by first | exact Nat.le_refl _ | (simp; omega) | (simp; done)) | refine Gr.grown ?_ _ _ | refine Gr.drewN ?_ _ | refine Gr.drew ?_ | refine Gr.alloc ?_ _ | refine Gr.grow ?_ _ | (refine Gr.trans ?_ (by assumption)))))).mono ?_); rintro e wA ⟨rfl, hgwA⟩; obtain ⟨hclwA, hfzwA, hszwA⟩ := gcell hgwA; (try simp [Nat.add_one_le_iff] at hszwA); have hlwA_w : w.heap.size < wA.heap.size := (by omega))) | (go_at_call 17; (with_reducible refine (C2.out _).mono ?_); rintro e wB ⟨rfl, hgwB⟩; obtain ⟨hclwB, hfzwB, hszwB⟩ := gcell hgwB; (try simp [Nat.add_one_le_iff] at hszwB); have hlwB_w : w.heap.size < wB.heap.size := (by omega); have hlwB_wA : wA.heap.size < wB.heap.size := (by omega)) | (go_at_call 17; (with_reducible refine (C3.out _).mono ?_); rintro e wD ⟨rfl, hgwD⟩; obtain ⟨hclwD, hfzwD, hszwD⟩ := gcell hgwD; (try simp [Nat.add_one_le_iff] at hszwD); have hlwD_w : w.heap.size < wD.heap.size := (by omega); have hlwD_wA : wA.heap.size < wD.heap.size := (by omega)) | (go_at_call 16; (with_reducible refine (C9.out _ ((by repeat (first | exact Gr.refl _ | refine Gr.setCell ?_ _ _ (by first | exact Nat.le_refl _ | (simp; omega) | (simp; done)) | refine Gr.grown ?_ _ _ | refine Gr.drewN ?_ _ | refine Gr.drew ?_ | refine Gr.alloc ?_ _ | refine Gr.grow ?_ _ | (refine Gr.trans ?_ (by assumption)))))).mono ?_); rintro e wI ⟨rfl, hgwI⟩))
  go_ret
  exact ⟨rfl, (by repeat (first | exact Gr.refl _ | refine Gr.setCell ?_ _ _ (by first | exact Nat.le_refl _ | (simp; omega) | (simp; done)) | refine Gr.grown ?_ _ _ | refine Gr.drewN ?_ _ | refine Gr.drew ?_ | refine Gr.alloc ?_ _ | refine Gr.grow ?_ _ | (refine Gr.trans ?_ (by assumption))))⟩
set_option maxRecDepth 20000 in
set_option maxHeartbeats 16000000 in
theorem uback_core (y n d y' n' d' u M p q r z X T : Int) (c c' : Bool) (w : World) (G : GT w) (u0 : 0 ≤ u) (u1 : u ≤ 255) (hM : u.tmod 4 = M) (M0 : 0 ≤ M) (M1 : M ≤ 3)
    (hp : (X ≤ T ∧ 0 ≤ p ∧ 0 ≤ q ∧ 0 ≤ r ∧ 0 ≤ z) ∨ (T < X ∧ p ≤ 0 ∧ q ≤ 0 ∧ r ≤ 0 ∧ z ≤ 0))
    (c1 : ∀ W, Gr w W → Calls Tryz.prog 14 #[.agg #[.int .i64 y, .int .i64 n, .bool c, .int .i64 d], .agg #[.int .i64 y', .int .i64 n', .bool c', .int .i64 d'], .int .i64 M] W fun e w' => e = .returned (.tuple #[.agg #[.int .i64 p, .int .i64 q, .int .i64 r, .int .i64 z], .int .i64 0]) ∧ Gr W w')
    (c2 : ∀ W, Calls Tryz.prog 17 #[.agg #[.int .i64 y, .int .i64 n, .bool c, .int .i64 d]] W fun e w' => e = .returned (.tuple #[.int .i64 X, .int .i64 0]) ∧ Gr W w')
    (c3 : ∀ W, Calls Tryz.prog 17 #[.agg #[.int .i64 y', .int .i64 n', .bool c', .int .i64 d']] W fun e w' => e = .returned (.tuple #[.int .i64 T, .int .i64 0]) ∧ Gr W w')
    (c4 : ∀ W, Calls Tryz.prog 8 #[.agg #[.int .i64 y, .int .i64 n, .bool c, .int .i64 d], .agg #[.int .i64 p, .int .i64 q, .int .i64 r, .int .i64 z], .int .i64 0] W fun e w' => e = .returned (.tuple #[.agg #[.int .i64 y', .int .i64 n', .bool c', .int .i64 d'], .int .i64 0]) ∧ Gr W w') :
    Calls Tryz.prog 5 #[.agg #[.int .i64 y, .int .i64 n, .bool c, .int .i64 d], .agg #[.int .i64 y', .int .i64 n', .bool c', .int .i64 d'], .int .u8 u] w fun e w' => e = .returned (.bool true) ∧ Gr w w' := by
  have C1 := Lib.hid c1
  have C2 := Lib.hid c2
  have C3 := Lib.hid c3
  have C4 := Lib.hid c4
  have C9 := Lib.hid fun W (hW : Gr w W) => awake17_c W (G.gr hW)
  clear c1 c2 c3 c4 G
  rcases hp with ⟨hX, h0, h1, h2, h3⟩ | ⟨hX, h0, h1, h2, h3⟩
  · rcases (by omega : 0 < p ∨ (p = 0 ∧ 0 < q) ∨ (p = 0 ∧ q = 0 ∧ 0 < r) ∨ (p = 0 ∧ q = 0 ∧ r = 0)) with g | ⟨rfl, g⟩ | ⟨rfl, rfl, g⟩ | ⟨rfl, rfl, rfl⟩
    all_goals (
      go_enter Tryz.func5, Tryz.ntmps5
      go_wp2_with (first | ((try rw [hM]); (go_at_call 14; (with_reducible refine (C1.out _ ((by repeat (first | exact Gr.refl _ | refine Gr.setCell ?_ _ _ (by first | exact Nat.le_refl _ | (simp; omega) | (simp; done)) | refine Gr.grown ?_ _ _ | refine Gr.drewN ?_ _ | refine Gr.drew ?_ | refine Gr.alloc ?_ _ | refine Gr.grow ?_ _ | (refine Gr.trans ?_ (by assumption)))))).mono ?_); rintro e wA ⟨rfl, hgwA⟩; obtain ⟨hclwA, hfzwA, hszwA⟩ := gcell hgwA; (try simp [Nat.add_one_le_iff] at hszwA); have hlwA_w : w.heap.size < wA.heap.size := (by omega))) | ((go_at_call 17; (with_reducible refine (C2.out _).mono ?_); rintro e wB ⟨rfl, hgwB⟩; obtain ⟨hclwB, hfzwB, hszwB⟩ := gcell hgwB; (try simp [Nat.add_one_le_iff] at hszwB); have hlwB_w : w.heap.size < wB.heap.size := (by omega); have hlwB_wA : wA.heap.size < wB.heap.size := (by omega)); have hv1 : w.heap.size + 1 < wB.heap.size := (by omega)) | ((go_at_call 17; (with_reducible refine (C3.out _).mono ?_); rintro e wD ⟨rfl, hgwD⟩; obtain ⟨hclwD, hfzwD, hszwD⟩ := gcell hgwD; (try simp [Nat.add_one_le_iff] at hszwD); have hlwD_w : w.heap.size < wD.heap.size := (by omega); have hlwD_wA : wA.heap.size < wD.heap.size := (by omega)); have hv2 : w.heap.size + 1 < wD.heap.size := (by omega)) | ((go_at_call 8; (with_reducible refine (C4.out _).mono ?_); rintro e wE ⟨rfl, hgwE⟩; obtain ⟨hclwE, hfzwE, hszwE⟩ := gcell hgwE; (try simp [Nat.add_one_le_iff] at hszwE); have hlwE_w : w.heap.size < wE.heap.size := (by omega); have hlwE_wA : wA.heap.size < wE.heap.size := (by omega)); have hv3 : w.heap.size + 1 < wE.heap.size := (by omega)) | (go_at_call 16; (with_reducible refine (C9.out _ ((by repeat (first | exact Gr.refl _ | refine Gr.setCell ?_ _ _ (by first | exact Nat.le_refl _ | (simp; omega) | (simp; done)) | refine Gr.grown ?_ _ _ | refine Gr.drewN ?_ _ | refine Gr.drew ?_ | refine Gr.alloc ?_ _ | refine Gr.grow ?_ _ | (refine Gr.trans ?_ (by assumption)))))).mono ?_); rintro e wI ⟨rfl, hgwI⟩))
      go_ret
      exact ⟨rfl, (by repeat (first | exact Gr.refl _ | refine Gr.setCell ?_ _ _ (by first | exact Nat.le_refl _ | (simp; omega) | (simp; done)) | refine Gr.grown ?_ _ _ | refine Gr.drewN ?_ _ | refine Gr.drew ?_ | refine Gr.alloc ?_ _ | refine Gr.grow ?_ _ | (refine Gr.trans ?_ (by assumption))))⟩)
  · rcases (by omega : p < 0 ∨ (p = 0 ∧ q < 0) ∨ (p = 0 ∧ q = 0 ∧ r < 0) ∨ (p = 0 ∧ q = 0 ∧ r = 0)) with g | ⟨rfl, g⟩ | ⟨rfl, rfl, g⟩ | ⟨rfl, rfl, rfl⟩
    all_goals (
      go_enter Tryz.func5, Tryz.ntmps5
      go_wp2_with (first | ((try rw [hM]); (go_at_call 14; (with_reducible refine (C1.out _ ((by repeat (first | exact Gr.refl _ | refine Gr.setCell ?_ _ _ (by first | exact Nat.le_refl _ | (simp; omega) | (simp; done)) | refine Gr.grown ?_ _ _ | refine Gr.drewN ?_ _ | refine Gr.drew ?_ | refine Gr.alloc ?_ _ | refine Gr.grow ?_ _ | (refine Gr.trans ?_ (by assumption)))))).mono ?_); rintro e wA ⟨rfl, hgwA⟩; obtain ⟨hclwA, hfzwA, hszwA⟩ := gcell hgwA; (try simp [Nat.add_one_le_iff] at hszwA); have hlwA_w : w.heap.size < wA.heap.size := (by omega))) | ((go_at_call 17; (with_reducible refine (C2.out _).mono ?_); rintro e wB ⟨rfl, hgwB⟩; obtain ⟨hclwB, hfzwB, hszwB⟩ := gcell hgwB; (try simp [Nat.add_one_le_iff] at hszwB); have hlwB_w : w.heap.size < wB.heap.size := (by omega); have hlwB_wA : wA.heap.size < wB.heap.size := (by omega)); have hv1 : w.heap.size + 1 < wB.heap.size := (by omega)) | ((go_at_call 17; (with_reducible refine (C3.out _).mono ?_); rintro e wD ⟨rfl, hgwD⟩; obtain ⟨hclwD, hfzwD, hszwD⟩ := gcell hgwD; (try simp [Nat.add_one_le_iff] at hszwD); have hlwD_w : w.heap.size < wD.heap.size := (by omega); have hlwD_wA : wA.heap.size < wD.heap.size := (by omega)); have hv2 : w.heap.size + 1 < wD.heap.size := (by omega)) | ((go_at_call 8; (with_reducible refine (C4.out _).mono ?_); rintro e wE ⟨rfl, hgwE⟩; obtain ⟨hclwE, hfzwE, hszwE⟩ := gcell hgwE; (try simp [Nat.add_one_le_iff] at hszwE); have hlwE_w : w.heap.size < wE.heap.size := (by omega); have hlwE_wA : wA.heap.size < wE.heap.size := (by omega)); have hv3 : w.heap.size + 1 < wE.heap.size := (by omega)) | (go_at_call 16; (with_reducible refine (C9.out _ ((by repeat (first | exact Gr.refl _ | refine Gr.setCell ?_ _ _ (by first | exact Nat.le_refl _ | (simp; omega) | (simp; done)) | refine Gr.grown ?_ _ _ | refine Gr.drewN ?_ _ | refine Gr.drew ?_ | refine Gr.alloc ?_ _ | refine Gr.grow ?_ _ | (refine Gr.trans ?_ (by assumption)))))).mono ?_); rintro e wI ⟨rfl, hgwI⟩))
      go_ret
      exact ⟨rfl, (by repeat (first | exact Gr.refl _ | refine Gr.setCell ?_ _ _ (by first | exact Nat.le_refl _ | (simp; omega) | (simp; done)) | refine Gr.grown ?_ _ _ | refine Gr.drewN ?_ _ | refine Gr.drew ?_ | refine Gr.alloc ?_ _ | refine Gr.grow ?_ _ | (refine Gr.trans ?_ (by assumption))))⟩)
theorem untilBack_t (y n : Int) (c : Bool) (d y' n' : Int) (c' : Bool) (d' u : Int) (w : World) (G : GT w) (w0 : (Lit.int .i64 y).wf = true) (w1 : (Lit.int .i64 n).wf = true) (w2 : (Lit.int .i64 d).wf = true) (w3 : (Lit.int .i64 y').wf = true) (w4 : (Lit.int .i64 n').wf = true) (w5 : (Lit.int .i64 d').wf = true) (w6 : (Lit.int .u8 u).wf = true) :
    Calls Tryz.prog 5 #[.agg #[.int .i64 y, .int .i64 n, .bool c, .int .i64 d], .agg #[.int .i64 y', .int .i64 n', .bool c', .int .i64 d'], .int .u8 u] w fun e w' => e = .returned (.bool true) ∧ Gr w w' := by
  obtain ⟨u0, u1⟩ := bounds_u8 w6
  have m0 : 0 ≤ u.tmod 4 := Int.tmod_nonneg 4 u0
  have m1 : u.tmod 4 < 4 := Int.tmod_lt_of_pos u (by decide)
  obtain ⟨M, hM⟩ : ∃ M, u.tmod 4 = M := ⟨_, rfl⟩
  rw [hM] at m0 m1
  by_cases h : ∃ j, n = cN (lp y) j ∧ c = cL (lp y) j ∧ HV y j d
  · obtain ⟨j, rfl, rfl, hv⟩ := h
    by_cases h' : ∃ j, n' = cN (lp y') j ∧ c' = cL (lp y') j ∧ HV y' j d'
    · obtain ⟨j', rfl, rfl, hv'⟩ := h'
      obtain ⟨p, q, r, z, k, k1, -⟩ := until_ok hv hv' M m0 (by omega)
      obtain ⟨t, hR, hp⟩ := uk_back hv hv' k
      exact uback_core _ _ _ _ _ _ u M p q r z _ _ _ _ w G u0 u1 hM m0 (by omega) hp (fun W hW => k1 W (G.gr hW)) (fun W => r10today_in y j d W hv) (fun W => r10today_in y' j' d' W hv') (fun W => rto_c hv hR (.inl rfl) t W)
    · obtain ⟨E, e0, e1, c1, c2⟩ := tday_bad y' n' c' d' h'
      exact uback_b _ _ _ _ _ _ u M E _ _ _ w G u0 u1 hM m0 (by omega) (by omega) (fun W hW => udate_b _ _ _ _ _ _ M E _ _ _ W m0 (by omega) (by omega) (fun V hV => htoday_in y j d V ((G.gr hW).gr hV) hv) (fun V hV => c1 V ((G.gr hW).gr hV))) (fun W => r10today_in y j d W hv) c2
  · obtain ⟨E, e0, e1, c1, c2⟩ := tday_bad y n c d h
    obtain ⟨x, E', c3⟩ : ∃ x E', ∀ W, Calls Tryz.prog 17 #[.agg #[.int .i64 y', .int .i64 n', .bool c', .int .i64 d']] W fun e w' => e = .returned (.tuple #[.int .i64 x, .int .i64 E']) ∧ Gr W w' := by
      by_cases h' : ∃ j, n' = cN (lp y') j ∧ c' = cL (lp y') j ∧ HV y' j d'
      · obtain ⟨j', rfl, rfl, hv'⟩ := h'
        exact ⟨_, _, fun W => r10today_in y' j' d' W hv'⟩
      · obtain ⟨E', -, -, -, c4⟩ := tday_bad y' n' c' d' h'
        exact ⟨_, _, c4⟩
    exact uback_a _ _ _ _ _ _ u M E x E' _ _ w G u0 u1 hM m0 (by omega) (by omega) (fun W hW => udate_a _ _ _ _ _ _ M E _ _ W m0 (by omega) (by omega) (fun V hV => c1 V ((G.gr hW).gr hV))) c2 c3

end Go.Proofs.YtkiopgegdkeojaaGreatDoor.Walks
