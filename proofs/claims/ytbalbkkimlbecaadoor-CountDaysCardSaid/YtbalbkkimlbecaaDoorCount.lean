/- Walks of package count: the date behind, and the one ahead. -/
import Derived.Test.YtbalbkkimlbecaaDoorRef10
set_option linter.unusedVariables false
set_option linter.unusedSimpArgs false
namespace Go.Proofs.YtbalbkkimlbecaaDoor.Walks
open Go Go.RowKit Go.Sort Go.Proofs.YtbalbkkimlbecaaDoor.Base Go.Proofs.YtbalbkkimlbecaaDoor.Plain Go.Proofs.YtbalbkkimlbecaaDoor.Math

/-- A date in a box. -/
structure D4 (w : World) (b : Nat) (y n : Int) (c : Bool) (d : Int) : Prop where
  lt : b < w.heap.size
  c0 : w.cell? ⟨b, 0, none⟩ = some (.int .i64 y)
  c1 : w.cell? ⟨b, 1, none⟩ = some (.int .i64 n)
  c2 : w.cell? ⟨b, 2, none⟩ = some (.bool c)
  c3 : w.cell? ⟨b, 3, none⟩ = some (.int .i64 d)
  f0 : w.frozen? ⟨b, 0, none⟩ = false
  f1 : w.frozen? ⟨b, 1, none⟩ = false
  f2 : w.frozen? ⟨b, 2, none⟩ = false
  f3 : w.frozen? ⟨b, 3, none⟩ = false
theorem D4.gr {w w' : World} {b : Nat} {y n d : Int} {c : Bool} (h : D4 w b y n c d) (g : Gr w w') : D4 w' b y n c d :=
  ⟨g.lt h.lt, g.keep h.lt h.c0, g.keep h.lt h.c1, g.keep h.lt h.c2, g.keep h.lt h.c3, g.thaw h.lt h.f0, g.thaw h.lt h.f1, g.thaw h.lt h.f2, g.thaw h.lt h.f3⟩
theorem D4.at {w : World} {b : Nat} (h : w.heap.size = b) (y n d : Int) (c : Bool) : D4 (w.alloc (.cells #[.int .i64 y, .int .i64 n, .bool c, .int .i64 d] 25)) b y n c d := by
  subst h
  exact ⟨by simp, by simp [go_sem], by simp [go_sem], by simp [go_sem], by simp [go_sem], by simp [go_sem], by simp [go_sem], by simp [go_sem], by simp [go_sem]⟩
/-- The argument's box and the result's, as a function that takes a date and hands one back lays them. -/
theorem D4.two (w : World) (y n d : Int) (c : Bool) : D4 ((w.alloc (.cells #[.int .i64 y, .int .i64 n, .bool c, .int .i64 d] 25)).alloc (.cells #[.int .i64 0, .int .i64 0, .bool false, .int .i64 0] 25)) w.heap.size y n c d ∧
    D4 ((w.alloc (.cells #[.int .i64 y, .int .i64 n, .bool c, .int .i64 d] 25)).alloc (.cells #[.int .i64 0, .int .i64 0, .bool false, .int .i64 0] 25)) (w.heap.size + 1) 0 0 false 0 :=
  ⟨(D4.at rfl y n d c).gr ((Gr.refl _).alloc _), D4.at (by simp) 0 0 0 false⟩
/-- A type in a box. -/
structure K3 (w : World) (b : Nat) (x y : Int) (l : Bool) : Prop where
  lt : b < w.heap.size
  c0 : w.cell? ⟨b, 0, none⟩ = some (.int .i64 x)
  c1 : w.cell? ⟨b, 1, none⟩ = some (.int .i64 y)
  c2 : w.cell? ⟨b, 2, none⟩ = some (.bool l)
  f0 : w.frozen? ⟨b, 0, none⟩ = false
  f1 : w.frozen? ⟨b, 1, none⟩ = false
  f2 : w.frozen? ⟨b, 2, none⟩ = false
theorem K3.gr {w w' : World} {b : Nat} {x y : Int} {l : Bool} (h : K3 w b x y l) (g : Gr w w') : K3 w' b x y l :=
  ⟨g.lt h.lt, g.keep h.lt h.c0, g.keep h.lt h.c1, g.keep h.lt h.c2, g.thaw h.lt h.f0, g.thaw h.lt h.f1, g.thaw h.lt h.f2⟩
theorem K3.at (w : World) (x y : Int) (l : Bool) : K3 (w.alloc (.cells #[.int .i64 x, .int .i64 y, .bool l] 55)) w.heap.size x y l :=
  ⟨by simp, by simp [go_sem], by simp [go_sem], by simp [go_sem], by simp [go_sem], by simp [go_sem], by simp [go_sem]⟩

set_option maxHeartbeats 2000000 in
theorem ctplace_in (y : Int) (j : Nat) (d : Int) (w : World) (h0 : 1 ≤ y) (h1 : y ≤ 9999) (hj : j < mct (lp y)) :
    Calls Tryd.prog 38 #[.agg #[.int .i64 y, .int .i64 (cN (lp y) j), .bool (cL (lp y) j), .int .i64 d]] w fun e w' => e = .returned (.tuple #[.agg #[.int .i64 (kb y), .int .i64 (kk y), .bool (lp y)], .int .i64 ((j : Int) + 1)]) ∧ Gr w w' := by
  have C1 := Lib.hid fun w => kof_in y w h0 h1
  have C2 := Lib.hid fun w => cplace_in (lp y) j w hj
  obtain ⟨N, hN⟩ : ∃ N, cN (lp y) j = N := ⟨_, rfl⟩
  obtain ⟨C, hC⟩ : ∃ C, cL (lp y) j = C := ⟨_, rfl⟩
  obtain ⟨l, hl⟩ : ∃ l, lp y = l := ⟨_, rfl⟩
  obtain ⟨b, hb⟩ : ∃ b, kb y = b := ⟨_, rfl⟩
  obtain ⟨k, hk⟩ : ∃ k, kk y = k := ⟨_, rfl⟩
  rw [hN, hC] at C2 ⊢
  rw [hl] at C1 C2 ⊢
  rw [hb, hk] at C1 ⊢
  clear hN hC hl hb hk hj h0 h1
  go_enter Tryd.func38, Tryd.ntmps38
  go_wp2_with (first | (go_at_call 42; (with_reducible refine (C1.out _).mono ?_); rintro e wA ⟨rfl, hgwA⟩; obtain ⟨hclwA, hfzwA, hszwA⟩ := gcell hgwA; (try simp [Nat.add_one_le_iff] at hszwA); have hlwA_w : w.heap.size < wA.heap.size := (by omega)) | (go_at_call 71; (with_reducible refine (C2.out _).mono ?_); rintro e wB ⟨rfl, hgwB⟩; obtain ⟨hclwB, hfzwB, hszwB⟩ := gcell hgwB; (try simp [Nat.add_one_le_iff] at hszwB); have hlwB_w : w.heap.size < wB.heap.size := (by omega); have hlwB_wA : wA.heap.size < wB.heap.size := (by omega)))
  have G1 : Gr ((w.alloc (.cells #[.int .i64 y, .int .i64 N, .bool C, .int .i64 d] 25)).alloc (.cells #[.int .i64 0, .int .i64 0, .bool false] 55)) wB := (by repeat (first | exact Gr.refl _ | refine Gr.setCell ?_ _ _ (by first | exact Nat.le_refl _ | (simp; omega) | (simp; done)) | refine Gr.grown ?_ _ _ | refine Gr.drewN ?_ _ | refine Gr.drew ?_ | refine Gr.alloc ?_ _ | refine Gr.grow ?_ _ | (refine Gr.trans ?_ (by assumption))))
  have GW : Gr w wB := (by repeat (first | exact Gr.refl _ | refine Gr.setCell ?_ _ _ (by first | exact Nat.le_refl _ | (simp; omega) | (simp; done)) | refine Gr.grown ?_ _ _ | refine Gr.drewN ?_ _ | refine Gr.drew ?_ | refine Gr.alloc ?_ _ | refine Gr.grow ?_ _ | (refine Gr.trans ?_ (by assumption))))
  have r0 := G1.keep (b := w.heap.size + 1) (o := 0) (v := .int .i64 0) (by first | (simp; done) | (simp; omega)) (by simp [go_sem]); have r1 := G1.keep (b := w.heap.size + 1) (o := 1) (v := .int .i64 0) (by first | (simp; done) | (simp; omega)) (by simp [go_sem]); have r2 := G1.keep (b := w.heap.size + 1) (o := 2) (v := .bool false) (by first | (simp; done) | (simp; omega)) (by simp [go_sem]); have rf0 := G1.thaw (b := w.heap.size + 1) (o := 0) (v := false) (by first | (simp; done) | (simp; omega)) (by simp [go_sem]); have rf1 := G1.thaw (b := w.heap.size + 1) (o := 1) (v := false) (by first | (simp; done) | (simp; omega)) (by simp [go_sem]); have rf2 := G1.thaw (b := w.heap.size + 1) (o := 2) (v := false) (by first | (simp; done) | (simp; omega)) (by simp [go_sem])
  clear G1 hclwA hfzwA hszwA hclwB hfzwB hszwB hgwA hgwB
  exact bodyPost_ret (v := .tuple #[.agg #[.int .i64 b, .int .i64 k, .bool l], .int .i64 ((j : Int) + 1)]) (by simp [results, Tryd.results38, go_sem, *]) rfl ⟨rfl, (by repeat (first | exact Gr.refl _ | refine Gr.setCell ?_ _ _ (by first | exact Nat.le_refl _ | (simp; omega) | (simp; done)) | refine Gr.grown ?_ _ _ | refine Gr.drewN ?_ _ | refine Gr.drew ?_ | refine Gr.alloc ?_ _ | refine Gr.grow ?_ _ | (refine Gr.trans ?_ (by assumption))))⟩
set_option maxHeartbeats 2000000 in
theorem ctfirst_in (y b k : Int) (l : Bool) (j : Nat) (w : World) (hj : j < mct l) :
    Calls Tryd.prog 41 #[.int .i64 y, .agg #[.int .i64 b, .int .i64 k, .bool l], .int .i64 ((j : Int) + 1)] w fun e w' => e = .returned (.agg #[.int .i64 y, .int .i64 (cN l j), .bool (cL l j), .int .i64 1]) ∧ Gr w w' := by
  have C1 := Lib.hid fun w => cof_in l j w hj
  obtain ⟨N, hN⟩ : ∃ N, cN l j = N := ⟨_, rfl⟩
  obtain ⟨C, hC⟩ : ∃ C, cL l j = C := ⟨_, rfl⟩
  rw [hN, hC] at C1 ⊢
  clear hN hC hj
  go_enter Tryd.func41, Tryd.ntmps41
  go_wp2_with (first | (go_at_call 74; (with_reducible refine (C1.out _).mono ?_); rintro e wA ⟨rfl, hgwA⟩; obtain ⟨hclwA, hfzwA, hszwA⟩ := gcell hgwA; (try simp [Nat.add_one_le_iff] at hszwA); have hlwA_w : w.heap.size < wA.heap.size := (by omega)))
  have G1 : Gr ((w.alloc (.cells #[.int .i64 b, .int .i64 k, .bool l] 55)).alloc (.cells #[.int .i64 0, .int .i64 0, .bool false, .int .i64 0] 25)) wA := (by repeat (first | exact Gr.refl _ | refine Gr.setCell ?_ _ _ (by first | exact Nat.le_refl _ | (simp; omega) | (simp; done)) | refine Gr.grown ?_ _ _ | refine Gr.drewN ?_ _ | refine Gr.drew ?_ | refine Gr.alloc ?_ _ | refine Gr.grow ?_ _ | (refine Gr.trans ?_ (by assumption))))
  have GW : Gr w wA := (by repeat (first | exact Gr.refl _ | refine Gr.setCell ?_ _ _ (by first | exact Nat.le_refl _ | (simp; omega) | (simp; done)) | refine Gr.grown ?_ _ _ | refine Gr.drewN ?_ _ | refine Gr.drew ?_ | refine Gr.alloc ?_ _ | refine Gr.grow ?_ _ | (refine Gr.trans ?_ (by assumption))))
  have r0 := G1.keep (b := w.heap.size + 1) (o := 0) (v := .int .i64 0) (by first | (simp; done) | (simp; omega)) (by simp [go_sem]); have r1 := G1.keep (b := w.heap.size + 1) (o := 1) (v := .int .i64 0) (by first | (simp; done) | (simp; omega)) (by simp [go_sem]); have r2 := G1.keep (b := w.heap.size + 1) (o := 2) (v := .bool false) (by first | (simp; done) | (simp; omega)) (by simp [go_sem]); have r3 := G1.keep (b := w.heap.size + 1) (o := 3) (v := .int .i64 0) (by first | (simp; done) | (simp; omega)) (by simp [go_sem]); have rf0 := G1.thaw (b := w.heap.size + 1) (o := 0) (v := false) (by first | (simp; done) | (simp; omega)) (by simp [go_sem]); have rf1 := G1.thaw (b := w.heap.size + 1) (o := 1) (v := false) (by first | (simp; done) | (simp; omega)) (by simp [go_sem]); have rf2 := G1.thaw (b := w.heap.size + 1) (o := 2) (v := false) (by first | (simp; done) | (simp; omega)) (by simp [go_sem]); have rf3 := G1.thaw (b := w.heap.size + 1) (o := 3) (v := false) (by first | (simp; done) | (simp; omega)) (by simp [go_sem])
  have hl := G1.lt (b := w.heap.size + 1) (by simp)
  clear G1 hclwA hfzwA hszwA hgwA
  exact bodyPost_ret (v := .agg #[.int .i64 y, .int .i64 N, .bool C, .int .i64 1]) (by simp [results, Tryd.results41, go_sem, *]) rfl ⟨rfl, (by repeat (first | exact Gr.refl _ | refine Gr.setCell ?_ _ _ (by first | exact Nat.le_refl _ | (simp; omega) | (simp; done)) | refine Gr.grown ?_ _ _ | refine Gr.drewN ?_ _ | refine Gr.drew ?_ | refine Gr.alloc ?_ _ | refine Gr.grow ?_ _ | (refine Gr.trans ?_ (by assumption))))⟩

set_option maxHeartbeats 2000000 in
theorem cnext_e (y n d E : Int) (c : Bool) (w : World) (hE : E ≠ 0) (h : ∀ W, Gr w W → Calls Tryd.prog 37 #[.agg #[.int .i64 y, .int .i64 n, .bool c, .int .i64 d]] W fun e w' => e = .returned (.int .i64 E) ∧ Gr W w') :
    Calls Tryd.prog 12 #[.agg #[.int .i64 y, .int .i64 n, .bool c, .int .i64 d]] w fun e w' => e = .returned (.tuple #[.agg #[.int .i64 0, .int .i64 0, .bool false, .int .i64 0], .int .i64 E]) ∧ Gr w w' := by
  have C1 := Lib.hid h
  have q : (E == 0) = false := beq_eq_false_iff_ne.2 hE
  clear h hE
  go_enter Tryd.func12, Tryd.ntmps12
  go_wp2_with (first | ((go_at_call 37; (with_reducible refine (C1.out _ ((by repeat (first | exact Gr.refl _ | refine Gr.setCell ?_ _ _ (by first | exact Nat.le_refl _ | (simp; omega) | (simp; done)) | refine Gr.grown ?_ _ _ | refine Gr.drewN ?_ _ | refine Gr.drew ?_ | refine Gr.alloc ?_ _ | refine Gr.grow ?_ _ | (refine Gr.trans ?_ (by assumption)))))).mono ?_); rintro e wA ⟨rfl, hgwA⟩); obtain ⟨lt, c0, c1, c2, c3, f0, f1, f2, f3⟩ := (D4.two w y n d c).2.gr hgwA))
  exact bodyPost_ret (v := .tuple #[.agg #[.int .i64 0, .int .i64 0, .bool false, .int .i64 0], .int .i64 E]) (by simp [results, Tryd.results12, go_sem, *]) rfl ⟨rfl, (by repeat (first | exact Gr.refl _ | refine Gr.setCell ?_ _ _ (by first | exact Nat.le_refl _ | (simp; omega) | (simp; done)) | refine Gr.grown ?_ _ _ | refine Gr.drewN ?_ _ | refine Gr.drew ?_ | refine Gr.alloc ?_ _ | refine Gr.grow ?_ _ | (refine Gr.trans ?_ (by assumption))))⟩
set_option maxHeartbeats 2000000 in
theorem cahead_e (y n d E : Int) (c : Bool) (w : World) (hE : E ≠ 0) (h : ∀ W, Gr w W → Calls Tryd.prog 37 #[.agg #[.int .i64 y, .int .i64 n, .bool c, .int .i64 d]] W fun e w' => e = .returned (.int .i64 E) ∧ Gr W w') :
    Calls Tryd.prog 13 #[.agg #[.int .i64 y, .int .i64 n, .bool c, .int .i64 d]] w fun e w' => e = .returned (.tuple #[.agg #[.int .i64 0, .int .i64 0, .bool false, .int .i64 0], .int .i64 E]) ∧ Gr w w' := by
  have C1 := Lib.hid h
  have q : (E == 0) = false := beq_eq_false_iff_ne.2 hE
  clear h hE
  go_enter Tryd.func13, Tryd.ntmps13
  go_wp2_with (first | ((go_at_call 37; (with_reducible refine (C1.out _ ((by repeat (first | exact Gr.refl _ | refine Gr.setCell ?_ _ _ (by first | exact Nat.le_refl _ | (simp; omega) | (simp; done)) | refine Gr.grown ?_ _ _ | refine Gr.drewN ?_ _ | refine Gr.drew ?_ | refine Gr.alloc ?_ _ | refine Gr.grow ?_ _ | (refine Gr.trans ?_ (by assumption)))))).mono ?_); rintro e wA ⟨rfl, hgwA⟩); obtain ⟨lt, c0, c1, c2, c3, f0, f1, f2, f3⟩ := (D4.two w y n d c).2.gr hgwA))
  exact bodyPost_ret (v := .tuple #[.agg #[.int .i64 0, .int .i64 0, .bool false, .int .i64 0], .int .i64 E]) (by simp [results, Tryd.results13, go_sem, *]) rfl ⟨rfl, (by repeat (first | exact Gr.refl _ | refine Gr.setCell ?_ _ _ (by first | exact Nat.le_refl _ | (simp; omega) | (simp; done)) | refine Gr.grown ?_ _ _ | refine Gr.drewN ?_ _ | refine Gr.drew ?_ | refine Gr.alloc ?_ _ | refine Gr.grow ?_ _ | (refine Gr.trans ?_ (by assumption))))⟩

set_option maxRecDepth 20000 in
set_option maxHeartbeats 8000000 in
/-- The walk of Next, the date being one that may be: what comes, by the day and the month. -/
theorem cnext_core (y n d b k L M K : Int) (c l : Bool) (R1 R2 R4 RE : Int) (R3 : Bool) (w : World) (y0 : 1 ≤ y) (y1 : y ≤ 9999) (d0 : 1 ≤ d) (d1 : d ≤ 30) (M0 : 1 ≤ M) (M1 : M ≤ 13)
    (h1 : ∀ W, Gr w W → Calls Tryd.prog 37 #[.agg #[.int .i64 y, .int .i64 n, .bool c, .int .i64 d]] W fun e w' => e = .returned (.int .i64 0) ∧ Gr W w')
    (h2 : ∀ w, Calls Tryd.prog 38 #[.agg #[.int .i64 y, .int .i64 n, .bool c, .int .i64 d]] w fun e w' => e = .returned (.tuple #[.agg #[.int .i64 b, .int .i64 k, .bool l], .int .i64 M]) ∧ Gr w w')
    (h3 : ∀ W, Gr w W → Calls Tryd.prog 39 #[.agg #[.int .i64 b, .int .i64 k, .bool l], .int .i64 M] W fun e w' => e = .returned (.int .i64 L) ∧ Gr W w')
    (h4 : ∀ W, Gr w W → Calls Tryd.prog 40 #[.agg #[.int .i64 b, .int .i64 k, .bool l]] W fun e w' => e = .returned (.int .i64 K) ∧ Gr W w')
    (hr : (d < L ∧ R1 = y ∧ R2 = n ∧ R3 = c ∧ R4 = d + 1 ∧ RE = 0) ∨
      (L ≤ d ∧ M < K ∧ RE = 0 ∧ ∀ w, Calls Tryd.prog 41 #[.int .i64 y, .agg #[.int .i64 b, .int .i64 k, .bool l], .int .i64 (M + 1)] w fun e w' => e = .returned (.agg #[.int .i64 R1, .int .i64 R2, .bool R3, .int .i64 R4]) ∧ Gr w w') ∨
      (L ≤ d ∧ K ≤ M ∧ y < 9999 ∧ RE = 0 ∧ ∀ w, Calls Tryd.prog 41 #[.int .i64 (y + 1), .agg #[.int .i64 b, .int .i64 k, .bool l], .int .i64 1] w fun e w' => e = .returned (.agg #[.int .i64 R1, .int .i64 R2, .bool R3, .int .i64 R4]) ∧ Gr w w') ∨
      (L ≤ d ∧ K ≤ M ∧ 9999 ≤ y ∧ R1 = 0 ∧ R2 = 0 ∧ R3 = false ∧ R4 = 0 ∧ RE = 2)) :
    Calls Tryd.prog 12 #[.agg #[.int .i64 y, .int .i64 n, .bool c, .int .i64 d]] w fun e w' => e = .returned (.tuple #[.agg #[.int .i64 R1, .int .i64 R2, .bool R3, .int .i64 R4], .int .i64 RE]) ∧ Gr w w' := by
  have C1 := Lib.hid h1
  have C2 := Lib.hid h2
  have C3 := Lib.hid h3
  have C4 := Lib.hid h4
  have HR := Lib.hid hr
  clear h1 h2 h3 h4 hr
  go_enter Tryd.func12, Tryd.ntmps12
  go_wp2_with (first | ((go_at_call 37; (with_reducible refine (C1.out _ ((by repeat (first | exact Gr.refl _ | refine Gr.setCell ?_ _ _ (by first | exact Nat.le_refl _ | (simp; omega) | (simp; done)) | refine Gr.grown ?_ _ _ | refine Gr.drewN ?_ _ | refine Gr.drew ?_ | refine Gr.alloc ?_ _ | refine Gr.grow ?_ _ | (refine Gr.trans ?_ (by assumption)))))).mono ?_); rintro e wA ⟨rfl, hgwA⟩); have DA := (D4.two w y n d c).1.gr hgwA; have RA := (D4.two w y n d c).2.gr hgwA; obtain ⟨lt, c0, c1, c2, c3, f0, f1, f2, f3⟩ := DA; have GA : Gr w wA := ((by repeat (first | exact Gr.refl _ | refine Gr.setCell ?_ _ _ (by first | exact Nat.le_refl _ | (simp; omega) | (simp; done)) | refine Gr.grown ?_ _ _ | refine Gr.drewN ?_ _ | refine Gr.drew ?_ | refine Gr.alloc ?_ _ | refine Gr.grow ?_ _ | (refine Gr.trans ?_ (by assumption)))))) | ((go_at_call 38; (with_reducible refine (C2.out _).mono ?_); rintro e wB ⟨rfl, hgwB⟩); have DB := ((D4.two w y n d c).1.gr hgwA).gr hgwB; have RB := RA.gr hgwB; have GB : Gr w wB := GA.trans hgwB; clear hgwA hgwB lt c0 c1 c2 c3 f0 f1 f2 f3 RA GA))
  obtain ⟨W5, hW5⟩ : ∃ W5, W5 = wB.alloc (.cells #[.int .i64 b, .int .i64 k, .bool l] 55) := ⟨_, rfl⟩
  rw [← hW5]
  have G5 : Gr wB W5 := by rw [hW5]; exact (by repeat (first | exact Gr.refl _ | refine Gr.setCell ?_ _ _ (by first | exact Nat.le_refl _ | (simp; omega) | (simp; done)) | refine Gr.grown ?_ _ _ | refine Gr.drewN ?_ _ | refine Gr.drew ?_ | refine Gr.alloc ?_ _ | refine Gr.grow ?_ _ | (refine Gr.trans ?_ (by assumption))))
  have K5 : K3 W5 wB.heap.size b k l := by rw [hW5]; exact K3.at wB b k l
  have D5 := DB.gr G5
  have R5 := RB.gr G5
  have GW := GB.trans G5
  clear hW5 G5 DB RB GB
  have x3 := gcell_in D5.lt D5.c3
  have k0 := gcell_in K5.lt K5.c0
  have k1 := gcell_in K5.lt K5.c1
  have k2 := gcell_in K5.lt K5.c2
  (refine wp_region_quiet_grown mixed (by kernel_rfl) ?_; (repeat (first | go_big_quiet_step ((first | (go_at_call 39; exact gr_of (C3.out _ ((by repeat (first | exact Gr.refl _ | refine Gr.setCell ?_ _ _ (by first | exact Nat.le_refl _ | (simp; omega) | (simp; done)) | refine Gr.grown ?_ _ _ | refine Gr.drewN ?_ _ | refine Gr.drew ?_ | refine Gr.alloc ?_ _ | refine Gr.grow ?_ _ | (refine Gr.trans ?_ (by assumption))))))))) | quiet_step ((first | (go_at_call 39; exact gr_of (C3.out _ ((by repeat (first | exact Gr.refl _ | refine Gr.setCell ?_ _ _ (by first | exact Nat.le_refl _ | (simp; omega) | (simp; done)) | refine Gr.grown ?_ _ _ | refine Gr.drewN ?_ _ | refine Gr.drew ?_ | refine Gr.alloc ?_ _ | refine Gr.grow ?_ _ | (refine Gr.trans ?_ (by assumption))))))))))); refine wpQuiet_nil ?_; intro _ hw'; obtain ⟨⟨nq, osq⟩, hw''⟩ := hw'; subst hw'')
  obtain ⟨wC, hC⟩ : ∃ wC, wC = grow (W5.drewN nq) osq := ⟨_, rfl⟩
  have G6 : Gr W5 wC := by rw [hC]; exact (Gr.refl W5).grown nq osq
  rw [← hC]
  have D6 := D5.gr G6
  have R6 := R5.gr G6
  have K6 := K5.gr G6
  have GC := GW.trans G6
  clear hC x3 k0 k1 k2 D5 R5 K5 GW G6
  obtain ⟨lt, c0, c1, c2, c3, f0, f1, f2, f3⟩ := D6
  obtain ⟨lk, k0, k1, k2, e0, e1, e2⟩ := K6
  rcases HR.out with ⟨a1, rfl, rfl, rfl, rfl, rfl⟩ | ⟨a1, a2, rfl, h5⟩ | ⟨a1, a2, a3, rfl, h5⟩ | ⟨a1, a2, a3, rfl, rfl, rfl, rfl, rfl⟩
  · obtain ⟨lr, r0, r1, r2, r3, g0, g1, g2, g3⟩ := R6
    clear HR C1 C2 C3 C4
    go_wp2
    exact bodyPost_ret (v := .tuple #[.agg #[.int .i64 R1, .int .i64 R2, .bool R3, .int .i64 (d + 1)], .int .i64 0]) (by simp [results, Tryd.results12, go_sem, *]) rfl ⟨rfl, (by repeat (first | exact Gr.refl _ | refine Gr.setCell ?_ _ _ (by first | exact Nat.le_refl _ | (simp; omega) | (simp; done)) | refine Gr.grown ?_ _ _ | refine Gr.drewN ?_ _ | refine Gr.drew ?_ | refine Gr.alloc ?_ _ | refine Gr.grow ?_ _ | (refine Gr.trans ?_ (by assumption))))⟩
  · have C5 := Lib.hid h5
    clear HR C1 C2 C3 h5
    go_wp2_with (first | ((go_at_call 40; (with_reducible refine (C4.out _ ((by repeat (first | exact Gr.refl _ | refine Gr.setCell ?_ _ _ (by first | exact Nat.le_refl _ | (simp; omega) | (simp; done)) | refine Gr.grown ?_ _ _ | refine Gr.drewN ?_ _ | refine Gr.drew ?_ | refine Gr.alloc ?_ _ | refine Gr.grow ?_ _ | (refine Gr.trans ?_ (by assumption)))))).mono ?_); rintro e wD ⟨rfl, hgwD⟩; obtain ⟨hclwD, hfzwD, hszwD⟩ := gcell hgwD; (try simp [Nat.add_one_le_iff] at hszwD); have hlwD_wB : wB.heap.size < wD.heap.size := (by omega)); have R7 := R6.gr hgwD; have h8 := hgwD.lt lt) | ((go_at_call 41; (with_reducible refine (C5.out _).mono ?_); rintro e wE ⟨rfl, hgwE⟩); obtain ⟨lr, r0, r1, r2, r3, g0, g1, g2, g3⟩ := R7.gr hgwE; have GE : Gr w wE := (GC.trans hgwD).trans hgwE; clear hgwD hgwE hclwD hfzwD R6 R7))
    exact bodyPost_ret (v := .tuple #[.agg #[.int .i64 R1, .int .i64 R2, .bool R3, .int .i64 R4], .int .i64 0]) (by simp [results, Tryd.results12, go_sem, *]) rfl ⟨rfl, (by repeat (first | exact Gr.refl _ | refine Gr.setCell ?_ _ _ (by first | exact Nat.le_refl _ | (simp; omega) | (simp; done)) | refine Gr.grown ?_ _ _ | refine Gr.drewN ?_ _ | refine Gr.drew ?_ | refine Gr.alloc ?_ _ | refine Gr.grow ?_ _ | (refine Gr.trans ?_ (by assumption))))⟩
  · have C5 := Lib.hid h5
    clear HR C1 C2 C3 h5
    go_wp2_with (first | ((go_at_call 40; (with_reducible refine (C4.out _ ((by repeat (first | exact Gr.refl _ | refine Gr.setCell ?_ _ _ (by first | exact Nat.le_refl _ | (simp; omega) | (simp; done)) | refine Gr.grown ?_ _ _ | refine Gr.drewN ?_ _ | refine Gr.drew ?_ | refine Gr.alloc ?_ _ | refine Gr.grow ?_ _ | (refine Gr.trans ?_ (by assumption)))))).mono ?_); rintro e wD ⟨rfl, hgwD⟩; obtain ⟨hclwD, hfzwD, hszwD⟩ := gcell hgwD; (try simp [Nat.add_one_le_iff] at hszwD); have hlwD_wB : wB.heap.size < wD.heap.size := (by omega)); have R7 := R6.gr hgwD; have h8 := hgwD.lt lt) | ((go_at_call 41; (with_reducible refine (C5.out _).mono ?_); rintro e wE ⟨rfl, hgwE⟩); obtain ⟨lr, r0, r1, r2, r3, g0, g1, g2, g3⟩ := R7.gr hgwE; have GE : Gr w wE := (GC.trans hgwD).trans hgwE; clear hgwD hgwE hclwD hfzwD R6 R7))
    exact bodyPost_ret (v := .tuple #[.agg #[.int .i64 R1, .int .i64 R2, .bool R3, .int .i64 R4], .int .i64 0]) (by simp [results, Tryd.results12, go_sem, *]) rfl ⟨rfl, (by repeat (first | exact Gr.refl _ | refine Gr.setCell ?_ _ _ (by first | exact Nat.le_refl _ | (simp; omega) | (simp; done)) | refine Gr.grown ?_ _ _ | refine Gr.drewN ?_ _ | refine Gr.drew ?_ | refine Gr.alloc ?_ _ | refine Gr.grow ?_ _ | (refine Gr.trans ?_ (by assumption))))⟩
  · clear HR C1 C2 C3
    go_wp2_with (first | ((go_at_call 40; (with_reducible refine (C4.out _ ((by repeat (first | exact Gr.refl _ | refine Gr.setCell ?_ _ _ (by first | exact Nat.le_refl _ | (simp; omega) | (simp; done)) | refine Gr.grown ?_ _ _ | refine Gr.drewN ?_ _ | refine Gr.drew ?_ | refine Gr.alloc ?_ _ | refine Gr.grow ?_ _ | (refine Gr.trans ?_ (by assumption)))))).mono ?_); rintro e wD ⟨rfl, hgwD⟩; obtain ⟨hclwD, hfzwD, hszwD⟩ := gcell hgwD; (try simp [Nat.add_one_le_iff] at hszwD); have hlwD_wB : wB.heap.size < wD.heap.size := (by omega)); obtain ⟨lr, r0, r1, r2, r3, g0, g1, g2, g3⟩ := R6.gr hgwD; have h8 := hgwD.lt lt))
    exact bodyPost_ret (v := .tuple #[.agg #[.int .i64 0, .int .i64 0, .bool false, .int .i64 0], .int .i64 2]) (by simp [results, Tryd.results12, go_sem, *]) rfl ⟨rfl, (by repeat (first | exact Gr.refl _ | refine Gr.setCell ?_ _ _ (by first | exact Nat.le_refl _ | (simp; omega) | (simp; done)) | refine Gr.grown ?_ _ _ | refine Gr.drewN ?_ _ | refine Gr.drew ?_ | refine Gr.alloc ?_ _ | refine Gr.grow ?_ _ | (refine Gr.trans ?_ (by assumption))))⟩

end Go.Proofs.YtbalbkkimlbecaaDoor.Walks
