/- Months come back; months upon months are their sum: the walk of the law; every input. -/
import Derived.Test.YtgjgkldkdmohjaaDoorShiftTells
set_option linter.unusedVariables false
set_option linter.unusedSimpArgs false
namespace Go.Proofs.YtgjgkldkdmohjaaDoor.Walks
open Go Go.RowKit Go.Sort Go.Proofs.YtgjgkldkdmohjaaDoor.Base Go.Proofs.YtgjgkldkdmohjaaDoor.Plain Go.Proofs.YtgjgkldkdmohjaaDoor.Math

set_option maxRecDepth 20000 in
set_option maxHeartbeats 16000000 in
theorem sback_core (y n p q K N E U V H : Int) (c C X : Bool) (w : World) (G : GT w) (p0 : -2147483648 ≤ p) (p1 : p ≤ 2147483647) (q0 : -2147483648 ≤ q) (q1 : q ≤ 2147483647) (a b : Int) (ha : p.tmod 200000 = a) (hb : q.tmod 200000 = b) (a0 : -200000 < a) (a1 : a < 200000) (b0 : -200000 < b) (b1 : b < 200000)
    (c1 : ∀ W, Gr w W → Calls Tryd.prog 35 #[.int .i64 y, .agg #[.int .i64 n, .bool c], .int .i64 a] W fun e w' => e = .returned (.tuple #[.int .i64 K, .agg #[.int .i64 N, .bool C], .int .i64 E]) ∧ Gr W w')
    (hq : (E ≠ 0 ∧ K = 0 ∧ N = 0 ∧ C = false) ∨ (E = 0 ∧
      (∀ W, Gr w W → Calls Tryd.prog 35 #[.int .i64 K, .agg #[.int .i64 N, .bool C], .int .i64 (-a)] W fun e w' => e = .returned (.tuple #[.int .i64 y, .agg #[.int .i64 n, .bool c], .int .i64 0]) ∧ Gr W w') ∧
      (∀ W, Gr w W → Calls Tryd.prog 35 #[.int .i64 K, .agg #[.int .i64 N, .bool C], .int .i64 b] W fun e w' => e = .returned (.tuple #[.int .i64 U, .agg #[.int .i64 V, .bool X], .int .i64 H]) ∧ Gr W w') ∧
      (∀ W, Gr w W → Calls Tryd.prog 35 #[.int .i64 y, .agg #[.int .i64 n, .bool c], .int .i64 (a + b)] W fun e w' => e = .returned (.tuple #[.int .i64 U, .agg #[.int .i64 V, .bool X], .int .i64 H]) ∧ Gr W w'))) :
    Calls Tryd.prog 8 #[.agg #[.int .i64 y, .int .i64 n, .bool c, .int .i32 p, .int .i32 q]] w fun e w' => e = .returned (.bool true) ∧ Gr w w' := by
  have C1 := Lib.hid c1
  have C9 := Lib.hid fun W (hW : Gr w W) => awake15_c W (G.gr hW)
  clear c1 G
  go_enter Tryd.func8, Tryd.ntmps8
  go_wp2
  obtain ⟨W0, hW0⟩ : ∃ W0, W0 = w.alloc (.cells #[.int .i64 y, .int .i64 n, .bool c, .int .i32 p, .int .i32 q] 46) := ⟨_, rfl⟩
  rw [← hW0]
  have l0 : w.heap.size < W0.heap.size := by rw [hW0]; simp
  have k0 : ∀ w', Gr W0 w' → w'.cell? ⟨w.heap.size, 0, none⟩ = some (.int .i64 y) := fun w' h => h.keep l0 (by rw [hW0]; simp [go_sem])
  have k1 : ∀ w', Gr W0 w' → w'.cell? ⟨w.heap.size, 1, none⟩ = some (.int .i64 n) := fun w' h => h.keep l0 (by rw [hW0]; simp [go_sem])
  have k2 : ∀ w', Gr W0 w' → w'.cell? ⟨w.heap.size, 2, none⟩ = some (.bool c) := fun w' h => h.keep l0 (by rw [hW0]; simp [go_sem])
  have k3 : ∀ w', Gr W0 w' → w'.cell? ⟨w.heap.size, 3, none⟩ = some (.int .i32 p) := fun w' h => h.keep l0 (by rw [hW0]; simp [go_sem])
  have k4 : ∀ w', Gr W0 w' → w'.cell? ⟨w.heap.size, 4, none⟩ = some (.int .i32 q) := fun w' h => h.keep l0 (by rw [hW0]; simp [go_sem])
  have GW : Gr w W0 := by rw [hW0]; exact (by repeat (first | exact Gr.refl _ | refine Gr.setCell ?_ _ _ (by first | exact Nat.le_refl _ | (simp; omega) | (simp; done)) | refine Gr.grown ?_ _ _ | refine Gr.drewN ?_ _ | refine Gr.drew ?_ | refine Gr.alloc ?_ _ | refine Gr.grow ?_ _ | (refine Gr.trans ?_ (by assumption))))
  have hd : Gr W0 W0.drew := (Gr.refl _).drew
  clear hW0
  go_region_held3 (fun w' => Gr W0 w') (repeat (first | exact hd | assumption | exact Gr.refl _ | refine Gr.drew ?_ | refine Gr.setCell ?_ _ _ (by first | exact Nat.le_refl _ | (simp; omega) | (simp at *; omega)) | refine Gr.alloc ?_ _ | (refine Gr.trans ?_ (by assumption)))) (fail)
  obtain ⟨W1, hW1⟩ : ∃ W1, W1 = (W0.alloc (.cells #[.int .i64 n, .bool c] 44)).drew := ⟨_, rfl⟩
  rw [← hW1]
  have l1 : W0.heap.size < W1.heap.size := by rw [hW1]; simp
  have t0 : W1.cell? ⟨W0.heap.size, 0, none⟩ = some (.int .i64 n) := by rw [hW1]; simp [go_sem]
  have t1 : W1.cell? ⟨W0.heap.size, 1, none⟩ = some (.bool c) := by rw [hW1]; simp [go_sem]
  have G1 : Gr w W1 := by rw [hW1]; exact (GW.alloc _).drew
  clear hW1 k0 k1 k2 k3 k4 hd l0 GW
  rcases hq with ⟨hE, rfl, rfl, rfl⟩ | ⟨rfl, c2, c3, c4⟩
  · have qE : (E == 0) = false := beq_eq_false_iff_ne.2 hE
    clear hE
    go_wp2_with (first | (rw [ha]; (go_at_call 35; (with_reducible refine (C1.out _ ((by repeat (first | exact Gr.refl _ | refine Gr.setCell ?_ _ _ (by first | exact Nat.le_refl _ | (simp; omega) | (simp; done)) | refine Gr.grown ?_ _ _ | refine Gr.drewN ?_ _ | refine Gr.drew ?_ | refine Gr.alloc ?_ _ | refine Gr.grow ?_ _ | (refine Gr.trans ?_ (by assumption)))))).mono ?_); rintro e wA ⟨rfl, hgwA⟩; obtain ⟨hclwA, hfzwA, hszwA⟩ := gcell hgwA; (try simp [Nat.add_one_le_iff] at hszwA); have hlwA_W0 : W0.heap.size < wA.heap.size := (by omega))) | (go_at_call 35; (with_reducible refine (C1.out _ ((by repeat (first | exact Gr.refl _ | refine Gr.setCell ?_ _ _ (by first | exact Nat.le_refl _ | (simp; omega) | (simp; done)) | refine Gr.grown ?_ _ _ | refine Gr.drewN ?_ _ | refine Gr.drew ?_ | refine Gr.alloc ?_ _ | refine Gr.grow ?_ _ | (refine Gr.trans ?_ (by assumption)))))).mono ?_); rintro e wA ⟨rfl, hgwA⟩; obtain ⟨hclwA, hfzwA, hszwA⟩ := gcell hgwA; (try simp [Nat.add_one_le_iff] at hszwA); have hlwA_W0 : W0.heap.size < wA.heap.size := (by omega)) | (go_at_call 36; (with_reducible refine (C9.out _ ((by repeat (first | exact Gr.refl _ | refine Gr.setCell ?_ _ _ (by first | exact Nat.le_refl _ | (simp; omega) | (simp; done)) | refine Gr.grown ?_ _ _ | refine Gr.drewN ?_ _ | refine Gr.drew ?_ | refine Gr.alloc ?_ _ | refine Gr.grow ?_ _ | (refine Gr.trans ?_ (by assumption)))))).mono ?_); rintro e wG ⟨rfl, hgwG⟩; obtain ⟨hclwG, hfzwG, hszwG⟩ := gcell hgwG; (try simp [Nat.add_one_le_iff] at hszwG); have hlwG_wA : wA.heap.size < wG.heap.size := (by omega)))
    go_ret
    exact ⟨rfl, (by repeat (first | exact Gr.refl _ | refine Gr.setCell ?_ _ _ (by first | exact Nat.le_refl _ | (simp; omega) | (simp; done)) | refine Gr.grown ?_ _ _ | refine Gr.drewN ?_ _ | refine Gr.drew ?_ | refine Gr.alloc ?_ _ | refine Gr.grow ?_ _ | (refine Gr.trans ?_ (by assumption))))⟩
  · have C2 := Lib.hid c2
    have C3 := Lib.hid c3
    have C4 := Lib.hid c4
    clear c2 c3 c4
    go_wp2_with (first | (go_at_call 35; (with_reducible refine (C1.out _ ((by repeat (first | exact Gr.refl _ | refine Gr.setCell ?_ _ _ (by first | exact Nat.le_refl _ | (simp; omega) | (simp; done)) | refine Gr.grown ?_ _ _ | refine Gr.drewN ?_ _ | refine Gr.drew ?_ | refine Gr.alloc ?_ _ | refine Gr.grow ?_ _ | (refine Gr.trans ?_ (by assumption)))))).mono ?_); rintro e wA ⟨rfl, hgwA⟩; obtain ⟨hclwA, hfzwA, hszwA⟩ := gcell hgwA; (try simp [Nat.add_one_le_iff] at hszwA); have hlwA_W0 : W0.heap.size < wA.heap.size := (by omega)) | (go_at_call 35; (with_reducible refine (C2.out _ ((by repeat (first | exact Gr.refl _ | refine Gr.setCell ?_ _ _ (by first | exact Nat.le_refl _ | (simp; omega) | (simp; done)) | refine Gr.grown ?_ _ _ | refine Gr.drewN ?_ _ | refine Gr.drew ?_ | refine Gr.alloc ?_ _ | refine Gr.grow ?_ _ | (refine Gr.trans ?_ (by assumption)))))).mono ?_); rintro e wB ⟨rfl, hgwB⟩; obtain ⟨hclwB, hfzwB, hszwB⟩ := gcell hgwB; (try simp [Nat.add_one_le_iff] at hszwB); have hlwB_W0 : W0.heap.size < wB.heap.size := (by omega); have hlwB_wA : wA.heap.size < wB.heap.size := (by omega)) | (go_at_call 35; (with_reducible refine (C3.out _ ((by repeat (first | exact Gr.refl _ | refine Gr.setCell ?_ _ _ (by first | exact Nat.le_refl _ | (simp; omega) | (simp; done)) | refine Gr.grown ?_ _ _ | refine Gr.drewN ?_ _ | refine Gr.drew ?_ | refine Gr.alloc ?_ _ | refine Gr.grow ?_ _ | (refine Gr.trans ?_ (by assumption)))))).mono ?_); rintro e wC ⟨rfl, hgwC⟩; obtain ⟨hclwC, hfzwC, hszwC⟩ := gcell hgwC; (try simp [Nat.add_one_le_iff] at hszwC); have hlwC_W0 : W0.heap.size < wC.heap.size := (by omega); have hlwC_wA : wA.heap.size < wC.heap.size := (by omega); have hlwC_wB : wB.heap.size < wC.heap.size := (by omega)) | (go_at_call 35; (with_reducible refine (C4.out _ ((by repeat (first | exact Gr.refl _ | refine Gr.setCell ?_ _ _ (by first | exact Nat.le_refl _ | (simp; omega) | (simp; done)) | refine Gr.grown ?_ _ _ | refine Gr.drewN ?_ _ | refine Gr.drew ?_ | refine Gr.alloc ?_ _ | refine Gr.grow ?_ _ | (refine Gr.trans ?_ (by assumption)))))).mono ?_); rintro e wD ⟨rfl, hgwD⟩; obtain ⟨hclwD, hfzwD, hszwD⟩ := gcell hgwD; (try simp [Nat.add_one_le_iff] at hszwD); have hlwD_W0 : W0.heap.size < wD.heap.size := (by omega); have hlwD_wA : wA.heap.size < wD.heap.size := (by omega); have hlwD_wB : wB.heap.size < wD.heap.size := (by omega); have hlwD_wC : wC.heap.size < wD.heap.size := (by omega)) | (go_at_call 36; (with_reducible refine (C9.out _ ((by repeat (first | exact Gr.refl _ | refine Gr.setCell ?_ _ _ (by first | exact Nat.le_refl _ | (simp; omega) | (simp; done)) | refine Gr.grown ?_ _ _ | refine Gr.drewN ?_ _ | refine Gr.drew ?_ | refine Gr.alloc ?_ _ | refine Gr.grow ?_ _ | (refine Gr.trans ?_ (by assumption)))))).mono ?_); rintro e wG ⟨rfl, hgwG⟩; obtain ⟨hclwG, hfzwG, hszwG⟩ := gcell hgwG; (try simp [Nat.add_one_le_iff] at hszwG); have hlwG_wA : wA.heap.size < wG.heap.size := (by omega); have hlwG_wB : wB.heap.size < wG.heap.size := (by omega); have hlwG_wC : wC.heap.size < wG.heap.size := (by omega); have hlwG_wD : wD.heap.size < wG.heap.size := (by omega)))
    go_ret
    exact ⟨rfl, (by repeat (first | exact Gr.refl _ | refine Gr.setCell ?_ _ _ (by first | exact Nat.le_refl _ | (simp; omega) | (simp; done)) | refine Gr.grown ?_ _ _ | refine Gr.drewN ?_ _ | refine Gr.drew ?_ | refine Gr.alloc ?_ _ | refine Gr.grow ?_ _ | (refine Gr.trans ?_ (by assumption))))⟩

theorem tmod_lt (p : Int) : -200000 < p.tmod 200000 ∧ p.tmod 200000 < 200000 :=
  ⟨Int.lt_tmod_of_pos p (by decide), Int.tmod_lt_of_pos p (by decide)⟩
theorem shiftBack_t (y n : Int) (c : Bool) (p q : Int) (w : World) (G : GT w) (w0 : (Lit.int .i64 y).wf = true) (w1 : (Lit.int .i64 n).wf = true) (w2 : (Lit.int .i32 p).wf = true) (w3 : (Lit.int .i32 q).wf = true) :
    Calls Tryd.prog 8 #[.agg #[.int .i64 y, .int .i64 n, .bool c, .int .i32 p, .int .i32 q]] w fun e w' => e = .returned (.bool true) ∧ Gr w w' := by
  have hp := bounds_i32 w2
  have hq := bounds_i32 w3
  have ta := tmod_lt p
  have tb := tmod_lt q
  obtain ⟨a, ha⟩ : ∃ a, p.tmod 200000 = a := ⟨_, rfl⟩
  obtain ⟨b, hb⟩ : ∃ b, q.tmod 200000 = b := ⟨_, rfl⟩
  rw [ha] at ta
  rw [hb] at tb
  have bad : ∀ E : Int, E ≠ 0 → (∀ W, Gr w W → Calls Tryd.prog 35 #[.int .i64 y, .agg #[.int .i64 n, .bool c], .int .i64 a] W fun e w' => e = .returned (.tuple #[.int .i64 0, .agg #[.int .i64 0, .bool false], .int .i64 E]) ∧ Gr W w') →
      Calls Tryd.prog 8 #[.agg #[.int .i64 y, .int .i64 n, .bool c, .int .i32 p, .int .i32 q]] w fun e w' => e = .returned (.bool true) ∧ Gr w w' := fun E hE h =>
    sback_core y n p q 0 0 E 0 0 0 c false false w G hp.1 hp.2 hq.1 hq.2 a b ha hb ta.1 ta.2 tb.1 tb.2 h (.inl ⟨hE, rfl, rfl, rfl⟩)
  by_cases h : y < 1 ∨ 9999 < y
  · exact bad 2 (by decide) fun W hW => smonths_e _ _ _ _ _ W (by decide) fun V hV => hlast_e _ _ _ _ V (by decide) fun w => find_y y n c w h
  · cases hc : cHas (lp y) n c
    · exact bad 3 (by decide) fun W hW => smonths_e _ _ _ _ _ W (by decide) fun V hV => hlast_e _ _ _ _ V (by decide) fun w => find_m y n c w (by omega) (by omega) hc
    · obtain ⟨j, hj, rfl, rfl⟩ := code_in hc
      have y0 : 1 ≤ y := by omega
      have y1 : y ≤ 9999 := by omega
      by_cases hr : bf y + j + a < 0 ∨ 123671 ≤ bf y + j + a
      · exact bad 2 (by decide) fun W hW => smonths_rng y j a W (G.gr hW) y0 y1 hj (by omega) (by omega) hr
      · obtain ⟨K, J, k0, k1, hJ, e⟩ := month_of (t := bf y + j + a) (by omega) (by omega)
        have c2 : ∀ W, Gr w W → Calls Tryd.prog 35 #[.int .i64 K, .agg #[.int .i64 (cN (lp K) J), .bool (cL (lp K) J)], .int .i64 (-a)] W fun e w' => e = .returned (.tuple #[.int .i64 y, .agg #[.int .i64 (cN (lp y) j), .bool (cL (lp y) j)], .int .i64 0]) ∧ Gr W w' := fun W hW =>
          smonths_in K J (-a) y j W (G.gr hW) k0 k1 hJ (by omega) (by omega) y0 y1 hj (by omega)
        have c1 : ∀ W, Gr w W → Calls Tryd.prog 35 #[.int .i64 y, .agg #[.int .i64 (cN (lp y) j), .bool (cL (lp y) j)], .int .i64 a] W fun e w' => e = .returned (.tuple #[.int .i64 K, .agg #[.int .i64 (cN (lp K) J), .bool (cL (lp K) J)], .int .i64 0]) ∧ Gr W w' := fun W hW =>
          smonths_in y j a K J W (G.gr hW) y0 y1 hj (by omega) (by omega) k0 k1 hJ e
        by_cases hr2 : bf K + J + b < 0 ∨ 123671 ≤ bf K + J + b
        · exact sback_core y _ p q K _ 0 0 0 2 _ _ false w G hp.1 hp.2 hq.1 hq.2 a b ha hb ta.1 ta.2 tb.1 tb.2 c1 (.inr ⟨rfl, c2, fun W hW => smonths_rng K J b W (G.gr hW) k0 k1 hJ (by omega) (by omega) hr2, fun W hW => smonths_rng y j (a + b) W (G.gr hW) y0 y1 hj (by omega) (by omega) (by omega)⟩)
        · obtain ⟨U, I, u0, u1, hI, e2⟩ := month_of (t := bf K + J + b) (by omega) (by omega)
          exact sback_core y _ p q K _ 0 U _ 0 _ _ _ w G hp.1 hp.2 hq.1 hq.2 a b ha hb ta.1 ta.2 tb.1 tb.2 c1 (.inr ⟨rfl, c2, fun W hW => smonths_in K J b U I W (G.gr hW) k0 k1 hJ (by omega) (by omega) u0 u1 hI e2, fun W hW => smonths_in y j (a + b) U I W (G.gr hW) y0 y1 hj (by omega) (by omega) u0 u1 hI (by omega)⟩)

end Go.Proofs.YtgjgkldkdmohjaaDoor.Walks
