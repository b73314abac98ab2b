/- Walks of package count: the date behind, and the one ahead. -/
import Derived.Test.YtegkbjpcgelomaaGreatDoorZ17
import Derived.Test.YtegkbjpcgelomaaGreatDoorZ15
import Derived.Test.YtegkbjpcgelomaaGreatDoorZ14
import Derived.StillTail
import Derived.Test.YtegkbjpcgelomaaGreatDoorZ13
import Derived.Lib.Slices
set_option linter.unusedVariables false
set_option linter.unusedSimpArgs false
section
namespace Go.Proofs.YtegkbjpcgelomaaGreatDoor.Walks
open Go Go.RowKit Go.Sort Go.Proofs.YtegkbjpcgelomaaGreatDoor.Base Go.Proofs.YtegkbjpcgelomaaGreatDoor.Plain Go.Proofs.YtegkbjpcgelomaaGreatDoor.Math

/-- A date in a box. -/
structure D4 (w : World) (b : Nat) (y n : Int) (c : Bool) (d : Int) : Prop where
  lt : b < w.heap.size
  c0 : w.cell? ⟨b, 0, none⟩ = some (.int .i64 y)
  c1 : w.cell? ⟨b, 1, none⟩ = some (.int .i64 n)
  c2 : w.cell? ⟨b, 2, none⟩ = some (.bool c)
  c3 : w.cell? ⟨b, 3, none⟩ = some (.int .i64 d)
  f0 : w.frozen? ⟨b, 0, none⟩ = false
  f1 : w.frozen? ⟨b, 1, none⟩ = false
  f2 : w.frozen? ⟨b, 2, none⟩ = false
  f3 : w.frozen? ⟨b, 3, none⟩ = false
theorem D4.gr {w w' : World} {b : Nat} {y n d : Int} {c : Bool} (h : D4 w b y n c d) (g : Gr w w') : D4 w' b y n c d :=
  ⟨g.lt h.lt, g.keep h.lt h.c0, g.keep h.lt h.c1, g.keep h.lt h.c2, g.keep h.lt h.c3, g.thaw h.lt h.f0, g.thaw h.lt h.f1, g.thaw h.lt h.f2, g.thaw h.lt h.f3⟩
theorem D4.at {w : World} {b : Nat} (h : w.heap.size = b) (y n d : Int) (c : Bool) : D4 (w.alloc (.cells #[.int .i64 y, .int .i64 n, .bool c, .int .i64 d] 48)) b y n c d := by
  subst h
  exact ⟨by simp, by simp [go_sem], by simp [go_sem], by simp [go_sem], by simp [go_sem], by simp [go_sem], by simp [go_sem], by simp [go_sem], by simp [go_sem]⟩
/-- The argument's box and the result's, as a function that takes a date and hands one back lays them. -/
theorem D4.two (w : World) (y n d : Int) (c : Bool) : D4 ((w.alloc (.cells #[.int .i64 y, .int .i64 n, .bool c, .int .i64 d] 48)).alloc (.cells #[.int .i64 0, .int .i64 0, .bool false, .int .i64 0] 48)) w.heap.size y n c d ∧
    D4 ((w.alloc (.cells #[.int .i64 y, .int .i64 n, .bool c, .int .i64 d] 48)).alloc (.cells #[.int .i64 0, .int .i64 0, .bool false, .int .i64 0] 48)) (w.heap.size + 1) 0 0 false 0 :=
  ⟨(D4.at rfl y n d c).gr ((Gr.refl _).alloc _), D4.at (by simp) 0 0 0 false⟩
/-- A type in a box. -/
structure K3 (w : World) (b : Nat) (x y : Int) (l : Bool) : Prop where
  lt : b < w.heap.size
  c0 : w.cell? ⟨b, 0, none⟩ = some (.int .i64 x)
  c1 : w.cell? ⟨b, 1, none⟩ = some (.int .i64 y)
  c2 : w.cell? ⟨b, 2, none⟩ = some (.bool l)
  f0 : w.frozen? ⟨b, 0, none⟩ = false
  f1 : w.frozen? ⟨b, 1, none⟩ = false
  f2 : w.frozen? ⟨b, 2, none⟩ = false
theorem K3.gr {w w' : World} {b : Nat} {x y : Int} {l : Bool} (h : K3 w b x y l) (g : Gr w w') : K3 w' b x y l :=
  ⟨g.lt h.lt, g.keep h.lt h.c0, g.keep h.lt h.c1, g.keep h.lt h.c2, g.thaw h.lt h.f0, g.thaw h.lt h.f1, g.thaw h.lt h.f2⟩
theorem K3.at (w : World) (x y : Int) (l : Bool) : K3 (w.alloc (.cells #[.int .i64 x, .int .i64 y, .bool l] 31)) w.heap.size x y l :=
  ⟨by simp, by simp [go_sem], by simp [go_sem], by simp [go_sem], by simp [go_sem], by simp [go_sem], by simp [go_sem]⟩

set_option maxHeartbeats 2000000 in
theorem ctplace_in (y : Int) (j : Nat) (d : Int) (w : World) (h0 : 1 ≤ y) (h1 : y ≤ 9999) (hj : j < mct (lp y)) :
    Calls Tryq.prog 57 #[.agg #[.int .i64 y, .int .i64 (cN (lp y) j), .bool (cL (lp y) j), .int .i64 d]] w fun e w' => e = .returned (.tuple #[.agg #[.int .i64 (kb y), .int .i64 (kk y), .bool (lp y)], .int .i64 ((j : Int) + 1)]) ∧ Gr w w' := by
  have C1 := Lib.hid fun w => kof_in y w h0 h1
  have C2 := Lib.hid fun w => cplace_in (lp y) j w hj
  obtain ⟨N, hN⟩ : ∃ N, cN (lp y) j = N := ⟨_, rfl⟩
  obtain ⟨C, hC⟩ : ∃ C, cL (lp y) j = C := ⟨_, rfl⟩
  obtain ⟨l, hl⟩ : ∃ l, lp y = l := ⟨_, rfl⟩
  obtain ⟨b, hb⟩ : ∃ b, kb y = b := ⟨_, rfl⟩
  obtain ⟨k, hk⟩ : ∃ k, kk y = k := ⟨_, rfl⟩
  rw [hN, hC] at C2 ⊢
  rw [hl] at C1 C2 ⊢
  rw [hb, hk] at C1 ⊢
  clear hN hC hl hb hk hj h0 h1
  go_enter Tryq.func57, Tryq.ntmps57
  go_wp2_with (first | (go_at_call 14; (with_reducible refine (C1.out _).mono ?_); rintro e wA ⟨rfl, hgwA⟩; obtain ⟨hclwA, hfzwA, hszwA⟩ := gcell hgwA; (try simp [Nat.add_one_le_iff] at hszwA); have hlwA_w : w.heap.size < wA.heap.size := (by omega)) | (go_at_call 95; (with_reducible refine (C2.out _).mono ?_); rintro e wB ⟨rfl, hgwB⟩; obtain ⟨hclwB, hfzwB, hszwB⟩ := gcell hgwB; (try simp [Nat.add_one_le_iff] at hszwB); have hlwB_w : w.heap.size < wB.heap.size := (by omega); have hlwB_wA : wA.heap.size < wB.heap.size := (by omega)))
  have G1 : Gr ((w.alloc (.cells #[.int .i64 y, .int .i64 N, .bool C, .int .i64 d] 48)).alloc (.cells #[.int .i64 0, .int .i64 0, .bool false] 31)) wB := (by repeat (first | exact Gr.refl _ | refine Gr.setCell ?_ _ _ (by first | exact Nat.le_refl _ | (simp; omega) | (simp; done)) | refine Gr.grown ?_ _ _ | refine Gr.drewN ?_ _ | refine Gr.drew ?_ | refine Gr.alloc ?_ _ | refine Gr.grow ?_ _ | (refine Gr.trans ?_ (by assumption))))
  have GW : Gr w wB := (by repeat (first | exact Gr.refl _ | refine Gr.setCell ?_ _ _ (by first | exact Nat.le_refl _ | (simp; omega) | (simp; done)) | refine Gr.grown ?_ _ _ | refine Gr.drewN ?_ _ | refine Gr.drew ?_ | refine Gr.alloc ?_ _ | refine Gr.grow ?_ _ | (refine Gr.trans ?_ (by assumption))))
  have r0 := G1.keep (b := w.heap.size + 1) (o := 0) (v := .int .i64 0) (by first | (simp; done) | (simp; omega)) (by simp [go_sem]); have r1 := G1.keep (b := w.heap.size + 1) (o := 1) (v := .int .i64 0) (by first | (simp; done) | (simp; omega)) (by simp [go_sem]); have r2 := G1.keep (b := w.heap.size + 1) (o := 2) (v := .bool false) (by first | (simp; done) | (simp; omega)) (by simp [go_sem]); have rf0 := G1.thaw (b := w.heap.size + 1) (o := 0) (v := false) (by first | (simp; done) | (simp; omega)) (by simp [go_sem]); have rf1 := G1.thaw (b := w.heap.size + 1) (o := 1) (v := false) (by first | (simp; done) | (simp; omega)) (by simp [go_sem]); have rf2 := G1.thaw (b := w.heap.size + 1) (o := 2) (v := false) (by first | (simp; done) | (simp; omega)) (by simp [go_sem])
  clear G1 hclwA hfzwA hszwA hclwB hfzwB hszwB hgwA hgwB
  exact bodyPost_ret (v := .tuple #[.agg #[.int .i64 b, .int .i64 k, .bool l], .int .i64 ((j : Int) + 1)]) (by simp [results, Tryz.results57, go_sem, *]) rfl ⟨rfl, (by repeat (first | exact Gr.refl _ | refine Gr.setCell ?_ _ _ (by first | exact Nat.le_refl _ | (simp; omega) | (simp; done)) | refine Gr.grown ?_ _ _ | refine Gr.drewN ?_ _ | refine Gr.drew ?_ | refine Gr.alloc ?_ _ | refine Gr.grow ?_ _ | (refine Gr.trans ?_ (by assumption))))⟩
set_option maxHeartbeats 2000000 in
theorem ctfirst_in (y b k : Int) (l : Bool) (j : Nat) (w : World) (hj : j < mct l) :
    Calls Tryq.prog 59 #[.int .i64 y, .agg #[.int .i64 b, .int .i64 k, .bool l], .int .i64 ((j : Int) + 1)] w fun e w' => e = .returned (.agg #[.int .i64 y, .int .i64 (cN l j), .bool (cL l j), .int .i64 1]) ∧ Gr w w' := by
  have C1 := Lib.hid fun w => cof_in l j w hj
  obtain ⟨N, hN⟩ : ∃ N, cN l j = N := ⟨_, rfl⟩
  obtain ⟨C, hC⟩ : ∃ C, cL l j = C := ⟨_, rfl⟩
  rw [hN, hC] at C1 ⊢
  clear hN hC hj
  go_enter Tryq.func59, Tryq.ntmps59
  go_wp2_with (first | (go_at_call 50; (with_reducible refine (C1.out _).mono ?_); rintro e wA ⟨rfl, hgwA⟩; obtain ⟨hclwA, hfzwA, hszwA⟩ := gcell hgwA; (try simp [Nat.add_one_le_iff] at hszwA); have hlwA_w : w.heap.size < wA.heap.size := (by omega)))
  have G1 : Gr ((w.alloc (.cells #[.int .i64 b, .int .i64 k, .bool l] 31)).alloc (.cells #[.int .i64 0, .int .i64 0, .bool false, .int .i64 0] 48)) wA := (by repeat (first | exact Gr.refl _ | refine Gr.setCell ?_ _ _ (by first | exact Nat.le_refl _ | (simp; omega) | (simp; done)) | refine Gr.grown ?_ _ _ | refine Gr.drewN ?_ _ | refine Gr.drew ?_ | refine Gr.alloc ?_ _ | refine Gr.grow ?_ _ | (refine Gr.trans ?_ (by assumption))))
  have GW : Gr w wA := (by repeat (first | exact Gr.refl _ | refine Gr.setCell ?_ _ _ (by first | exact Nat.le_refl _ | (simp; omega) | (simp; done)) | refine Gr.grown ?_ _ _ | refine Gr.drewN ?_ _ | refine Gr.drew ?_ | refine Gr.alloc ?_ _ | refine Gr.grow ?_ _ | (refine Gr.trans ?_ (by assumption))))
  have r0 := G1.keep (b := w.heap.size + 1) (o := 0) (v := .int .i64 0) (by first | (simp; done) | (simp; omega)) (by simp [go_sem]); have r1 := G1.keep (b := w.heap.size + 1) (o := 1) (v := .int .i64 0) (by first | (simp; done) | (simp; omega)) (by simp [go_sem]); have r2 := G1.keep (b := w.heap.size + 1) (o := 2) (v := .bool false) (by first | (simp; done) | (simp; omega)) (by simp [go_sem]); have r3 := G1.keep (b := w.heap.size + 1) (o := 3) (v := .int .i64 0) (by first | (simp; done) | (simp; omega)) (by simp [go_sem]); have rf0 := G1.thaw (b := w.heap.size + 1) (o := 0) (v := false) (by first | (simp; done) | (simp; omega)) (by simp [go_sem]); have rf1 := G1.thaw (b := w.heap.size + 1) (o := 1) (v := false) (by first | (simp; done) | (simp; omega)) (by simp [go_sem]); have rf2 := G1.thaw (b := w.heap.size + 1) (o := 2) (v := false) (by first | (simp; done) | (simp; omega)) (by simp [go_sem]); have rf3 := G1.thaw (b := w.heap.size + 1) (o := 3) (v := false) (by first | (simp; done) | (simp; omega)) (by simp [go_sem])
  have hl := G1.lt (b := w.heap.size + 1) (by simp)
  clear G1 hclwA hfzwA hszwA hgwA
  exact bodyPost_ret (v := .agg #[.int .i64 y, .int .i64 N, .bool C, .int .i64 1]) (by simp [results, Tryz.results59, go_sem, *]) rfl ⟨rfl, (by repeat (first | exact Gr.refl _ | refine Gr.setCell ?_ _ _ (by first | exact Nat.le_refl _ | (simp; omega) | (simp; done)) | refine Gr.grown ?_ _ _ | refine Gr.drewN ?_ _ | refine Gr.drew ?_ | refine Gr.alloc ?_ _ | refine Gr.grow ?_ _ | (refine Gr.trans ?_ (by assumption))))⟩

set_option maxRecDepth 20000 in
set_option maxHeartbeats 8000000 in
/-- The walk of Next, the date being one that may be: what comes, by the day and the month. -/
theorem cnext_core (y n d b k L M K : Int) (c l : Bool) (R1 R2 R4 RE : Int) (R3 : Bool) (w : World) (y0 : 1 ≤ y) (y1 : y ≤ 9999) (d0 : 1 ≤ d) (d1 : d ≤ 30) (M0 : 1 ≤ M) (M1 : M ≤ 13)
    (h1 : ∀ W, Gr w W → Calls Tryq.prog 27 #[.agg #[.int .i64 y, .int .i64 n, .bool c, .int .i64 d]] W fun e w' => e = .returned (.int .i64 0) ∧ Gr W w')
    (h2 : ∀ w, Calls Tryq.prog 57 #[.agg #[.int .i64 y, .int .i64 n, .bool c, .int .i64 d]] w fun e w' => e = .returned (.tuple #[.agg #[.int .i64 b, .int .i64 k, .bool l], .int .i64 M]) ∧ Gr w w')
    (h3 : ∀ W, Gr w W → Calls Tryq.prog 21 #[.agg #[.int .i64 b, .int .i64 k, .bool l], .int .i64 M] W fun e w' => e = .returned (.int .i64 L) ∧ Gr W w')
    (h4 : ∀ W, Gr w W → Calls Tryq.prog 58 #[.agg #[.int .i64 b, .int .i64 k, .bool l]] W fun e w' => e = .returned (.int .i64 K) ∧ Gr W w')
    (hr : (d < L ∧ R1 = y ∧ R2 = n ∧ R3 = c ∧ R4 = d + 1 ∧ RE = 0) ∨
      (L ≤ d ∧ M < K ∧ RE = 0 ∧ ∀ w, Calls Tryq.prog 59 #[.int .i64 y, .agg #[.int .i64 b, .int .i64 k, .bool l], .int .i64 (M + 1)] w fun e w' => e = .returned (.agg #[.int .i64 R1, .int .i64 R2, .bool R3, .int .i64 R4]) ∧ Gr w w') ∨
      (L ≤ d ∧ K ≤ M ∧ y < 9999 ∧ RE = 0 ∧ ∀ w, Calls Tryq.prog 59 #[.int .i64 (y + 1), .agg #[.int .i64 b, .int .i64 k, .bool l], .int .i64 1] w fun e w' => e = .returned (.agg #[.int .i64 R1, .int .i64 R2, .bool R3, .int .i64 R4]) ∧ Gr w w') ∨
      (L ≤ d ∧ K ≤ M ∧ 9999 ≤ y ∧ R1 = 0 ∧ R2 = 0 ∧ R3 = false ∧ R4 = 0 ∧ RE = 2)) :
    Calls Tryq.prog 26 #[.agg #[.int .i64 y, .int .i64 n, .bool c, .int .i64 d]] w fun e w' => e = .returned (.tuple #[.agg #[.int .i64 R1, .int .i64 R2, .bool R3, .int .i64 R4], .int .i64 RE]) ∧ Gr w w' := by
  have C1 := Lib.hid h1
  have C2 := Lib.hid h2
  have C3 := Lib.hid h3
  have C4 := Lib.hid h4
  have HR := Lib.hid hr
  clear h1 h2 h3 h4 hr
  go_enter Tryq.func26, Tryq.ntmps26
  go_wp2_with (first | ((go_at_call 27; (with_reducible refine (C1.out _ ((by repeat (first | exact Gr.refl _ | refine Gr.setCell ?_ _ _ (by first | exact Nat.le_refl _ | (simp; omega) | (simp; done)) | refine Gr.grown ?_ _ _ | refine Gr.drewN ?_ _ | refine Gr.drew ?_ | refine Gr.alloc ?_ _ | refine Gr.grow ?_ _ | (refine Gr.trans ?_ (by assumption)))))).mono ?_); rintro e wA ⟨rfl, hgwA⟩); have DA := (D4.two w y n d c).1.gr hgwA; have RA := (D4.two w y n d c).2.gr hgwA; obtain ⟨lt, c0, c1, c2, c3, f0, f1, f2, f3⟩ := DA; have GA : Gr w wA := ((by repeat (first | exact Gr.refl _ | refine Gr.setCell ?_ _ _ (by first | exact Nat.le_refl _ | (simp; omega) | (simp; done)) | refine Gr.grown ?_ _ _ | refine Gr.drewN ?_ _ | refine Gr.drew ?_ | refine Gr.alloc ?_ _ | refine Gr.grow ?_ _ | (refine Gr.trans ?_ (by assumption)))))) | ((go_at_call 57; (with_reducible refine (C2.out _).mono ?_); rintro e wB ⟨rfl, hgwB⟩); have DB := ((D4.two w y n d c).1.gr hgwA).gr hgwB; have RB := RA.gr hgwB; have GB : Gr w wB := GA.trans hgwB; clear hgwA hgwB lt c0 c1 c2 c3 f0 f1 f2 f3 RA GA))
  obtain ⟨W5, hW5⟩ : ∃ W5, W5 = wB.alloc (.cells #[.int .i64 b, .int .i64 k, .bool l] 31) := ⟨_, rfl⟩
  rw [← hW5]
  have G5 : Gr wB W5 := by rw [hW5]; exact (by repeat (first | exact Gr.refl _ | refine Gr.setCell ?_ _ _ (by first | exact Nat.le_refl _ | (simp; omega) | (simp; done)) | refine Gr.grown ?_ _ _ | refine Gr.drewN ?_ _ | refine Gr.drew ?_ | refine Gr.alloc ?_ _ | refine Gr.grow ?_ _ | (refine Gr.trans ?_ (by assumption))))
  have K5 : K3 W5 wB.heap.size b k l := by rw [hW5]; exact K3.at wB b k l
  have D5 := DB.gr G5
  have R5 := RB.gr G5
  have GW := GB.trans G5
  clear hW5 G5 DB RB GB
  have x3 := gcell_in D5.lt D5.c3
  have k0 := gcell_in K5.lt K5.c0
  have k1 := gcell_in K5.lt K5.c1
  have k2 := gcell_in K5.lt K5.c2
  (refine wp_region_quiet_grown mixed (by kernel_rfl) ?_; (repeat (first | go_big_quiet_step ((first | (go_at_call 21; exact gr_of (C3.out _ ((by repeat (first | exact Gr.refl _ | refine Gr.setCell ?_ _ _ (by first | exact Nat.le_refl _ | (simp; omega) | (simp; done)) | refine Gr.grown ?_ _ _ | refine Gr.drewN ?_ _ | refine Gr.drew ?_ | refine Gr.alloc ?_ _ | refine Gr.grow ?_ _ | (refine Gr.trans ?_ (by assumption))))))))) | quiet_step ((first | (go_at_call 21; exact gr_of (C3.out _ ((by repeat (first | exact Gr.refl _ | refine Gr.setCell ?_ _ _ (by first | exact Nat.le_refl _ | (simp; omega) | (simp; done)) | refine Gr.grown ?_ _ _ | refine Gr.drewN ?_ _ | refine Gr.drew ?_ | refine Gr.alloc ?_ _ | refine Gr.grow ?_ _ | (refine Gr.trans ?_ (by assumption))))))))))); refine wpQuiet_nil ?_; intro _ hw'; obtain ⟨⟨nq, osq⟩, hw''⟩ := hw'; subst hw'')
  obtain ⟨wC, hC⟩ : ∃ wC, wC = grow (W5.drewN nq) osq := ⟨_, rfl⟩
  have G6 : Gr W5 wC := by rw [hC]; exact (Gr.refl W5).grown nq osq
  rw [← hC]
  have D6 := D5.gr G6
  have R6 := R5.gr G6
  have K6 := K5.gr G6
  have GC := GW.trans G6
  clear hC x3 k0 k1 k2 D5 R5 K5 GW G6
  obtain ⟨lt, c0, c1, c2, c3, f0, f1, f2, f3⟩ := D6
  obtain ⟨lk, k0, k1, k2, e0, e1, e2⟩ := K6
  rcases HR.out with ⟨a1, rfl, rfl, rfl, rfl, rfl⟩ | ⟨a1, a2, rfl, h5⟩ | ⟨a1, a2, a3, rfl, h5⟩ | ⟨a1, a2, a3, rfl, rfl, rfl, rfl, rfl⟩
  · obtain ⟨lr, r0, r1, r2, r3, g0, g1, g2, g3⟩ := R6
    clear HR C1 C2 C3 C4
    go_wp2
    exact bodyPost_ret (v := .tuple #[.agg #[.int .i64 R1, .int .i64 R2, .bool R3, .int .i64 (d + 1)], .int .i64 0]) (by simp [results, Tryz.results26, go_sem, *]) rfl ⟨rfl, (by repeat (first | exact Gr.refl _ | refine Gr.setCell ?_ _ _ (by first | exact Nat.le_refl _ | (simp; omega) | (simp; done)) | refine Gr.grown ?_ _ _ | refine Gr.drewN ?_ _ | refine Gr.drew ?_ | refine Gr.alloc ?_ _ | refine Gr.grow ?_ _ | (refine Gr.trans ?_ (by assumption))))⟩
  · have C5 := Lib.hid h5
    clear HR C1 C2 C3 h5
    go_wp2_with (first | ((go_at_call 58; (with_reducible refine (C4.out _ ((by repeat (first | exact Gr.refl _ | refine Gr.setCell ?_ _ _ (by first | exact Nat.le_refl _ | (simp; omega) | (simp; done)) | refine Gr.grown ?_ _ _ | refine Gr.drewN ?_ _ | refine Gr.drew ?_ | refine Gr.alloc ?_ _ | refine Gr.grow ?_ _ | (refine Gr.trans ?_ (by assumption)))))).mono ?_); rintro e wD ⟨rfl, hgwD⟩; obtain ⟨hclwD, hfzwD, hszwD⟩ := gcell hgwD; (try simp [Nat.add_one_le_iff] at hszwD); have hlwD_wB : wB.heap.size < wD.heap.size := (by omega)); have R7 := R6.gr hgwD; have h8 := hgwD.lt lt) | ((go_at_call 59; (with_reducible refine (C5.out _).mono ?_); rintro e wE ⟨rfl, hgwE⟩); obtain ⟨lr, r0, r1, r2, r3, g0, g1, g2, g3⟩ := R7.gr hgwE; have GE : Gr w wE := (GC.trans hgwD).trans hgwE; clear hgwD hgwE hclwD hfzwD R6 R7))
    exact bodyPost_ret (v := .tuple #[.agg #[.int .i64 R1, .int .i64 R2, .bool R3, .int .i64 R4], .int .i64 0]) (by simp [results, Tryz.results26, go_sem, *]) rfl ⟨rfl, (by repeat (first | exact Gr.refl _ | refine Gr.setCell ?_ _ _ (by first | exact Nat.le_refl _ | (simp; omega) | (simp; done)) | refine Gr.grown ?_ _ _ | refine Gr.drewN ?_ _ | refine Gr.drew ?_ | refine Gr.alloc ?_ _ | refine Gr.grow ?_ _ | (refine Gr.trans ?_ (by assumption))))⟩
  · have C5 := Lib.hid h5
    clear HR C1 C2 C3 h5
    go_wp2_with (first | ((go_at_call 58; (with_reducible refine (C4.out _ ((by repeat (first | exact Gr.refl _ | refine Gr.setCell ?_ _ _ (by first | exact Nat.le_refl _ | (simp; omega) | (simp; done)) | refine Gr.grown ?_ _ _ | refine Gr.drewN ?_ _ | refine Gr.drew ?_ | refine Gr.alloc ?_ _ | refine Gr.grow ?_ _ | (refine Gr.trans ?_ (by assumption)))))).mono ?_); rintro e wD ⟨rfl, hgwD⟩; obtain ⟨hclwD, hfzwD, hszwD⟩ := gcell hgwD; (try simp [Nat.add_one_le_iff] at hszwD); have hlwD_wB : wB.heap.size < wD.heap.size := (by omega)); have R7 := R6.gr hgwD; have h8 := hgwD.lt lt) | ((go_at_call 59; (with_reducible refine (C5.out _).mono ?_); rintro e wE ⟨rfl, hgwE⟩); obtain ⟨lr, r0, r1, r2, r3, g0, g1, g2, g3⟩ := R7.gr hgwE; have GE : Gr w wE := (GC.trans hgwD).trans hgwE; clear hgwD hgwE hclwD hfzwD R6 R7))
    exact bodyPost_ret (v := .tuple #[.agg #[.int .i64 R1, .int .i64 R2, .bool R3, .int .i64 R4], .int .i64 0]) (by simp [results, Tryz.results26, go_sem, *]) rfl ⟨rfl, (by repeat (first | exact Gr.refl _ | refine Gr.setCell ?_ _ _ (by first | exact Nat.le_refl _ | (simp; omega) | (simp; done)) | refine Gr.grown ?_ _ _ | refine Gr.drewN ?_ _ | refine Gr.drew ?_ | refine Gr.alloc ?_ _ | refine Gr.grow ?_ _ | (refine Gr.trans ?_ (by assumption))))⟩
  · clear HR C1 C2 C3
    go_wp2_with (first | ((go_at_call 58; (with_reducible refine (C4.out _ ((by repeat (first | exact Gr.refl _ | refine Gr.setCell ?_ _ _ (by first | exact Nat.le_refl _ | (simp; omega) | (simp; done)) | refine Gr.grown ?_ _ _ | refine Gr.drewN ?_ _ | refine Gr.drew ?_ | refine Gr.alloc ?_ _ | refine Gr.grow ?_ _ | (refine Gr.trans ?_ (by assumption)))))).mono ?_); rintro e wD ⟨rfl, hgwD⟩; obtain ⟨hclwD, hfzwD, hszwD⟩ := gcell hgwD; (try simp [Nat.add_one_le_iff] at hszwD); have hlwD_wB : wB.heap.size < wD.heap.size := (by omega)); obtain ⟨lr, r0, r1, r2, r3, g0, g1, g2, g3⟩ := R6.gr hgwD; have h8 := hgwD.lt lt))
    exact bodyPost_ret (v := .tuple #[.agg #[.int .i64 0, .int .i64 0, .bool false, .int .i64 0], .int .i64 2]) (by simp [results, Tryz.results26, go_sem, *]) rfl ⟨rfl, (by repeat (first | exact Gr.refl _ | refine Gr.setCell ?_ _ _ (by first | exact Nat.le_refl _ | (simp; omega) | (simp; done)) | refine Gr.grown ?_ _ _ | refine Gr.drewN ?_ _ | refine Gr.drew ?_ | refine Gr.alloc ?_ _ | refine Gr.grow ?_ _ | (refine Gr.trans ?_ (by assumption))))⟩

end Go.Proofs.YtegkbjpcgelomaaGreatDoor.Walks
end
/- Walks of chodesh.Of and of the document's answer: the list of a year's days of RoshChodesh; are two lists the same. -/
section
namespace Go.Proofs.YtegkbjpcgelomaaGreatDoor.Walks
open Go Go.RowKit Go.Sort Go.Proofs.YtegkbjpcgelomaaGreatDoor.Base Go.Proofs.YtegkbjpcgelomaaGreatDoor.Plain Go.Proofs.YtegkbjpcgelomaaGreatDoor.Math

theorem own_gr {w w' : World} {base e size n : Nat} {v : Value} {xs : List Value} (h : w.ownsRow base e size v n xs) (g : Gr w w') : w'.ownsRow base e size v n xs := by
  refine ⟨h.1, ?_⟩
  rcases h.2 with q | ⟨g', cap, cur, q, hb, hh, r⟩
  · exact .inl q
  · exact .inr ⟨g', cap, cur, q, hb, (g.heap (Array.getElem?_eq_some_iff.1 hh).1).trans hh, r⟩
theorem ninfo_ev : (Tryq.prog.info? 67).map (fun i => (i.zero, i.size, i.bytes)) = some (some (.agg #[.int .i64 0, .int .i64 0]), 2, 16) := by kernel_rfl
theorem nund_evs : Tryq.prog.underlying 62 = some (.slice 67) := by kernel_rfl
theorem append_evs (w : World) {ops : Array Oper} {rest : List Oper} {o : Oper} {a : Act} {Q : Exit → Act → World → Prop} (hg : o.guard = none) (s x : Operand)
    (hop : o.op = .call { callee := .builtin .append, args := #[s, x], argTypes := #[62, 62] })
    (base : Nat) (v : Value) (n : Nat) (xs : List Value) (hs : a.eval s = v) (hown : w.ownsRow base 67 2 v n xs)
    (ad : Addr) (c : Nat) (news : List Value) (hx : a.eval x = .slice (some ad) 1 c) (hl : news.length = 2) (hnews : ∀ j u, news[j]? = some u → w.cell? (ad.add j) = some u) (h1 : ∀ u ∈ news, u.oneCell' = true)
    (hsm : n + 1 ≤ 100000) (hbase : base ≤ w.heap.size)
    (hK : ∀ g cap w', w'.ownsRow base 67 2 (.slice (some ⟨g, 0, none⟩) (n + 1) cap) (n + 1) (xs ++ news) → w.grownBy w' v.ownBlock → base ≤ g → (∀ W, Gr W w → W.heap.size ≤ base → Gr W w') →
      wpList Tryq.prog ops Q rest (a.put o.dst (.slice (some ⟨g, 0, none⟩) (n + 1) cap)) w') : wpList Tryq.prog ops Q (o :: rest) a w := by
  obtain ⟨i, h2, h3, h4, h5⟩ := info_parts ninfo_ev
  exact wpList_append_gr w hg s x 62 hop base 67 i (.agg #[.int .i64 0, .int .i64 0]) 2 16 nund_evs h2 h3 h4 h5 rfl (by decide) v n xs hs hown ad 1 c news hx hl hnews h1 (by decide) (by simp only [maxLen]; omega) (by omega) hbase hK

end Go.Proofs.YtegkbjpcgelomaaGreatDoor.Walks
end
/- feast.Of: the events, row by row, ahead of the sort. -/
section
namespace Go.Proofs.YtegkbjpcgelomaaGreatDoor.Walks
open Go Go.RowKit Go.Sort Go.Proofs.YtegkbjpcgelomaaGreatDoor.Base Go.Proofs.YtegkbjpcgelomaaGreatDoor.Plain Go.Proofs.YtegkbjpcgelomaaGreatDoor.Math

/-- A slice that holds events. -/
structure Evs (w : World) (g : Nat) (L : List (Int × Int)) : Prop where
  lt : g < w.heap.size
  c : ∀ i e, L[i]? = some e → w.cell? ⟨g, 2 * i, none⟩ = some (.int .i64 e.1) ∧ w.cell? ⟨g, 2 * i + 1, none⟩ = some (.int .i64 e.2)
theorem Evs.gr {w w' : World} {g : Nat} {L : List (Int × Int)} (h : Evs w g L) (hg : Gr w w') : Evs w' g L :=
  ⟨hg.lt h.lt, fun i e he => ⟨hg.keep h.lt (h.c i e he).1, hg.keep h.lt (h.c i e he).2⟩⟩
/-- What is asked of Sort. -/
def SortE (w : World) (L : List (Int × Int)) (e : Ending) (w' : World) : Prop :=
  ∃ g cap M, e = .returned (.slice (some ⟨g, 0, none⟩) M.length cap) ∧ M.Perm L ∧ M.Pairwise (fun x y => evc y x ≥ 0) ∧ Evs w' g M ∧ Gr w w'
/-- .. and of Of. -/
def OfE (w : World) (L : List (Int × Int)) (e : Ending) (w' : World) : Prop :=
  ∃ g cap M, e = .returned (.tuple #[.slice (some ⟨g, 0, none⟩) M.length cap, .int .i64 0]) ∧ M.Perm L ∧ M.Pairwise (fun x y => evc y x ≥ 0) ∧ Evs w' g M ∧ Gr w w'
/-- A row's cells. -/
theorem frow_cells {w : World} {g : Nat} (R : Row w 7 19 g frv) {i : Nat} (hi : i < 19) :
    w.cell? ⟨g, i * 7, none⟩ = some (.int .i64 (fK i)) ∧ w.cell? ⟨g, i * 7 + 1, none⟩ = some (.int .i64 (fN i)) ∧ w.cell? ⟨g, i * 7 + 2, none⟩ = some (.bool (fL i)) ∧
    w.cell? ⟨g, i * 7 + 3, none⟩ = some (.int .i64 (fA i)) ∧ w.cell? ⟨g, i * 7 + 4, none⟩ = some (.int .i64 (fB i)) ∧ w.cell? ⟨g, i * 7 + 5, none⟩ = some (.int .i64 (fC i)) ∧ w.cell? ⟨g, i * 7 + 6, none⟩ = some (.int .i64 (fD i)) := by
  have key : ∀ o, o < 7 → (i * 7 + o) % 7 = o ∧ (i * 7 + o) / 7 = i := fun o ho => ⟨by omega, by omega⟩
  have c := fun o (ho : o < 7) => R.c (i * 7 + o) (by omega)
  refine ⟨?_, ?_, ?_, ?_, ?_, ?_, ?_⟩
  · have := c 0 (by decide); unfold frv at this; rw [(key 0 (by decide)).1, (key 0 (by decide)).2] at this; exact this
  · have := c 1 (by decide); unfold frv at this; rw [(key 1 (by decide)).1, (key 1 (by decide)).2] at this; exact this
  · have := c 2 (by decide); unfold frv at this; rw [(key 2 (by decide)).1, (key 2 (by decide)).2] at this; exact this
  · have := c 3 (by decide); unfold frv at this; rw [(key 3 (by decide)).1, (key 3 (by decide)).2] at this; exact this
  · have := c 4 (by decide); unfold frv at this; rw [(key 4 (by decide)).1, (key 4 (by decide)).2] at this; exact this
  · have := c 5 (by decide); unfold frv at this; rw [(key 5 (by decide)).1, (key 5 (by decide)).2] at this; exact this
  · have := c 6 (by decide); unfold frv at this; rw [(key 6 (by decide)).1, (key 6 (by decide)).2] at this; exact this
/-- The first m events of a row. -/
def evm (y p : Int) (i m : Nat) : List (Int × Int) := (List.range m).map fun (d : Nat) => (fK i, fdy y i + (fF p i + (d : Int)) - 1)
theorem evm_len (y p : Int) (i m : Nat) : (evm y p i m).length = m := by simp [evm]
theorem evm_snoc (y p : Int) (i m : Nat) : evm y p i (m + 1) = evm y p i m ++ [(fK i, fdy y i + (fF p i + (m : Int)) - 1)] := by simp [evm, List.range_succ]
/-- The events of the first i rows. -/
def evp (y p : Int) (i : Nat) : List (Int × Int) := (List.range i).flatMap (evr y p)
theorem evp_snoc (y p : Int) (i : Nat) : evp y p (i + 1) = evp y p i ++ evr y p i := by simp [evp, List.range_succ]
theorem cel_snoc (L : List (Int × Int)) (e : Int × Int) : cel (L ++ [e]) = cel L ++ [.int .i64 e.1, .int .i64 e.2] := cel_append L [e]

theorem own_ne {w : World} {base e size n : Nat} {v : Value} {xs : List Value} (h : w.ownsRow base e size v n xs) {b : Nat} {cs : Array Value} {e' : TypeId} {f : Nat × Nat} (hb : w.heap[b]? = some (.cells cs e' f)) (hne : e' ≠ e) : some b ≠ v.ownBlock := by
  rcases h.2 with ⟨rfl, -⟩ | ⟨g, cap, cur, rfl, -, hh, -⟩
  · simp [Value.ownBlock]
  · intro q
    have : b = g := by simpa [Value.ownBlock] using q
    subst this
    rw [hb] at hh
    injection hh with q
    injection q with _ q2 _
    exact hne q2
theorem evs_of {w : World} {base e n cap g : Nat} {L : List (Int × Int)} (h : w.ownsRow base e 2 (.slice (some ⟨g, 0, none⟩) n cap) n (cel L)) (hn : 0 < n) (hl : L.length = n) : Evs w g L := by
  have R := row_of (f := fun j => (cel L).getD j undef) h hn (fun j hj => by
    have : j < (cel L).length := by rw [cel_len, hl]; exact hj
    simp [List.getD, List.getElem?_eq_getElem this])
  refine ⟨R.lt, fun i e he => ?_⟩
  have hi : i < n := by rw [← hl]; exact (List.getElem?_eq_some_iff.1 he).1
  obtain ⟨a, b⟩ := cel_at L i e he
  have r1 := R.c (2 * i) (by omega)
  have r2 := R.c (2 * i + 1) (by omega)
  simp only [List.getD, a, b, Option.getD_some] at r1 r2
  exact ⟨r1, r2⟩
theorem evr_yes {y p : Int} {i : Nat} (h : fH (lp y) i = true) : evr y p i = evm y p i (fT p i + 1 - fF p i).toNat := if_pos h
theorem evr_no {y p : Int} {i : Nat} (h : ¬ fH (lp y) i = true) : evr y p i = [] := if_neg h
theorem evs_pos (y p : Int) (hp : p = 0 ∨ p = 1) : 0 < (evp y p 19).length := by
  have h : evp y p 19 = evr y p 0 ++ (List.range' 1 18).flatMap (evr y p) := rfl
  have h0 : fH (lp y) 0 = true := by cases lp y <;> rfl
  rw [h, evr_yes h0, List.length_append]
  have : 0 < (evm y p 0 (fT p 0 + 1 - fF p 0).toNat).length := by
    rcases hp with rfl | rfl <;> (simp [evm]; decide)
  omega
theorem fdy_range {y : Int} {i : Nat} (h0 : 1 ≤ y) (h1 : y ≤ 9999) (hi : i < 19) : -1373427 ≤ fdy y i ∧ fdy y i ≤ 2278650 := by
  unfold fdy
  split
  · rename_i hh
    obtain ⟨a, -⟩ := fJ_ok (lp y) i hi hh
    have hm := mlen_range (kk y) (lp y) (fJ (lp y) i)
    exact hd_range ⟨h0, h1, a, by omega, by omega⟩
  · omega

set_option maxRecDepth 20000 in
set_option maxHeartbeats 8000000 in
theorem feof_in0 (y : Int) (w : World) (G : GT w) (h0 : 1 ≤ y) (h1 : y ≤ 9999)
    (hS : ∀ (v : Value) (L : List (Int × Int)) (W : World), L.length ≤ 1000 → Gr w W → 0 < L.length → (∃ g cap, v = .slice (some ⟨g, 0, none⟩) L.length cap ∧ Evs W g L) → Calls Tryq.prog 67 #[v] W (SortE W L)) :
    Calls Tryq.prog 31 #[.int .i64 y, .int .i64 0] w (OfE w (evs y 0)) := by
  have C1 := Lib.hid fun W => rows_c W
  have C2 := Lib.hid fun W (hW : Gr w W) i (hi : i < 19) => htoday_row y i W (G.gr hW) h0 h1 hi
  have C3 := Lib.hid hS
  clear hS G
  go_enter Tryq.func31, Tryq.ntmps31
  go_wp2_with (first | (go_at_call 68; (with_reducible refine (C1.out _).mono ?_); rintro e wA ⟨gR, rfl, hR, hgA⟩))
  go_loopg [6, 30] 19 (fun kx s6 s30 wr => ∃ (i : Nat), i ≤ 19 ∧ 19 - i ≤ kx ∧ s30 = .int .i64 (i : Int) ∧ wr.ownsRow wA.heap.size 67 2 s6 (evp y 0 i).length (cel (evp y 0 i)) ∧ Gr wA wr)
  case atStart => exact ⟨0, by omega, by omega, rfl, World.ownsRow_nil _ _ _ _, Gr.refl _⟩
  case round =>
    obtain ⟨i, hi, hm, rfl, ho, hg⟩ := hrel
    rename World => wo
    by_cases e : i < 19
    · have e' : (i : Int) < 19 := by omega
      obtain ⟨k0, k1, k2, k3, k4, k5, k6⟩ := frow_cells (hR.gr hg) e
      obtain ⟨f0, f1, f2, f3⟩ := fFT 0 e
      have fl : (evp y 0 i).length ≤ 8 * i := evp_len y 0 i (by omega)
      obtain ⟨K, hK⟩ : ∃ K, fK i = K := ⟨_, rfl⟩
      obtain ⟨A, hA⟩ : ∃ A, fA i = A := ⟨_, rfl⟩
      obtain ⟨B, hB⟩ : ∃ B, fB i = B := ⟨_, rfl⟩
      obtain ⟨C, hC⟩ : ∃ C, fC i = C := ⟨_, rfl⟩
      obtain ⟨D, hD⟩ : ∃ D, fD i = D := ⟨_, rfl⟩
      rw [hK] at k0; rw [hA] at k3; rw [hB] at k4; rw [hC] at k5; rw [hD] at k6
      rw [show fF 0 i = A from by show fA i = A; exact hA] at f0 f1 f2
      rw [show fT 0 i = B from by show fB i = B; exact hB] at f1 f2 f3
      go_wp2
      obtain ⟨W1, hW1⟩ : ∃ W1, W1 = wo.alloc (Obj.cells #[.int .i64 K, .int .i64 (fN i), .bool (fL i), .int .i64 A, .int .i64 B, .int .i64 C, .int .i64 D] 115) := ⟨_, rfl⟩
      rw [← hW1]
      have l1 : wo.heap.size < W1.heap.size := by rw [hW1]; simp
      have b0 : W1.cell? ⟨wo.heap.size, 0, none⟩ = some (.int .i64 K) := by rw [hW1]; simp [go_sem]
      have b1 : W1.cell? ⟨wo.heap.size, 1, none⟩ = some (.int .i64 (fN i)) := by rw [hW1]; simp [go_sem]
      have b2 : W1.cell? ⟨wo.heap.size, 2, none⟩ = some (.bool (fL i)) := by rw [hW1]; simp [go_sem]
      have b3 : W1.cell? ⟨wo.heap.size, 3, none⟩ = some (.int .i64 A) := by rw [hW1]; simp [go_sem]
      have b4 : W1.cell? ⟨wo.heap.size, 4, none⟩ = some (.int .i64 B) := by rw [hW1]; simp [go_sem]
      have b5 : W1.cell? ⟨wo.heap.size, 5, none⟩ = some (.int .i64 C) := by rw [hW1]; simp [go_sem]
      have b6 : W1.cell? ⟨wo.heap.size, 6, none⟩ = some (.int .i64 D) := by rw [hW1]; simp [go_sem]
      have G1 : Gr wo W1 := by rw [hW1]; exact (Gr.refl _).alloc _
      have GA1 : Gr wA W1 := hg.trans G1
      have o1 := own_gr ho G1
      have hx1 : W1.heap[wo.heap.size]? = some (Obj.cells #[.int .i64 K, .int .i64 (fN i), .bool (fL i), .int .i64 A, .int .i64 B, .int .i64 C, .int .i64 D] 115 (0, 0)) := by rw [hW1]; exact heap_alloc_new _ _
      clear hW1 k0 k1 k2 k3 k4 k5 k6 ho hg
      go_quiet (fail)
      go_wp2_with (first | (go_at_call 24; (refine (C2.out _ ((by repeat (first | exact Gr.refl _ | refine Gr.setCell ?_ _ _ (by first | exact Nat.le_refl _ | (simp; omega) | (simp; done)) | refine Gr.grown ?_ _ _ | refine Gr.drewN ?_ _ | refine Gr.drew ?_ | refine Gr.alloc ?_ _ | refine Gr.grow ?_ _ | (refine Gr.trans ?_ (by assumption))))) i e).mono ?_); rintro e1 wD ⟨rfl, hgD⟩))
      have GW : Gr W1 wD := (by repeat (first | exact Gr.refl _ | refine Gr.setCell ?_ _ _ (by first | exact Nat.le_refl _ | (simp; omega) | (simp; done)) | refine Gr.grown ?_ _ _ | refine Gr.drewN ?_ _ | refine Gr.drew ?_ | refine Gr.alloc ?_ _ | refine Gr.grow ?_ _ | (refine Gr.trans ?_ (by assumption))))
      have GAD : Gr wA wD := GA1.trans GW
      have oD := own_gr o1 GW
      have hbx := (GW.heap l1).trans hx1
      have hsD : wA.heap.size ≤ wD.heap.size := GAD.size
      have lD : wo.heap.size < wD.heap.size := by have := GW.size; omega
      clear hgD GW o1 hx1 GA1 G1 b0 b1 b2 b3 b4 b5 b6
      obtain ⟨F, hF⟩ : ∃ F, fdy y i = F := ⟨_, rfl⟩
      have rF := fdy_range (i := i) h0 h1 e
      rw [hF] at rF ⊢
      obtain ⟨r0, r1⟩ := rF
      by_cases hE : fH (lp y) i = true
      · rw [show fer y i = 0 from if_pos hE]
        go_loopg [6, 13] (B + 1 - A).toNat (fun kx s6 s13 wm => ∃ (m : Nat), (m : Int) ≤ B + 1 - A ∧ (B + 1 - A).toNat - m ≤ kx ∧ s13 = .int .i64 (A + (m : Int)) ∧ wm.ownsRow wA.heap.size 67 2 s6 (evp y 0 i ++ evm y 0 i m).length (cel (evp y 0 i ++ evm y 0 i m)) ∧ Gr wA wm ∧ wm.heap[wo.heap.size]? = some (Obj.cells #[.int .i64 K, .int .i64 (fN i), .bool (fL i), .int .i64 A, .int .i64 B, .int .i64 C, .int .i64 D] 115 (0, 0)) ∧ wo.heap.size < wm.heap.size)
        case atStart => exact ⟨0, by omega, by omega, by simp, by simpa [evm] using oD, GAD, hbx, lD⟩
        case round =>
          obtain ⟨m, hm1, hm2, rfl, om, gm, hbm, lm⟩ := hrel
          by_cases e2 : A + (m : Int) ≤ B
          · have c0 : wr.cell? ⟨wo.heap.size, 0, none⟩ = some (.int .i64 K) := by rw [Lib.cell_of_heap hbm]; rfl
            have hne := own_ne om hbm (by decide)
            have hml : (evp y 0 i ++ evm y 0 i m).length ≤ 1000 := by rw [List.length_append, evm_len]; omega
            have hsm := gm.size
            go_wp2_with (first | (at_builtin; refine append_evs _ rfl _ _ rfl wA.heap.size _ _ _ rfl (om.alloc _) _ 1 [.int .i64 K, .int .i64 (F + (A + (m : Int)) - 1)] rfl rfl (news2 rfl _ _ _) (by simp [Value.oneCell']) (by omega) (by simp; omega) ?_; intro g1 c1 wX OX kX bX GX_; have GX : Gr wA wX := GX_ wA (gm.alloc _) (Nat.le_refl _)))
            go_roundg ((B + 1 - A).toNat - (m + 1))
            case measure => omega
            case rel =>
              have ev : evp y 0 i ++ evm y 0 i (m + 1) = evp y 0 i ++ evm y 0 i m ++ [(K, F + (A + (m : Int)) - 1)] := by
                rw [evm_snoc, ← List.append_assoc, hK, hF, show fF 0 i = A from by show fA i = A; exact hA]
              refine ⟨m + 1, by omega, Nat.le_refl _, by go_num, ?_, GX, ?_, ?_⟩
              · rw [ev, cel_snoc]
                simp only [List.length_append, List.length_cons, List.length_nil, Nat.zero_add] at OX ⊢
                exact OX
              · rw [kX.block wo.heap.size (by simp; omega) hne, Lib.alloc_old _ _ _ lm]
                exact hbm
              · have := kX.size
                simp at this
                omega
          · go_wp2
            have hm3 : m = (fT 0 i + 1 - fF 0 i).toNat := by
              have a1 : fF 0 i = A := by show fA i = A; exact hA
              have a2 : fT 0 i = B := by show fB i = B; exact hB
              rw [a1, a2]
              omega
            go_roundg (19 - (i + 1))
            case measure => omega
            case rel =>
              refine ⟨i + 1, by omega, Nat.le_refl _, by go_num, ?_, gm⟩
              rw [evp_snoc, evr_yes hE, ← hm3]
              exact om
      · rw [show fer y i = 3 from if_neg hE]
        go_loopg [6, 13] 1 (fun kx s6 s13 wm => s13 = .int .i64 A ∧ wm.ownsRow wA.heap.size 67 2 s6 (evp y 0 i).length (cel (evp y 0 i)) ∧ Gr wA wm)
        case atStart => exact ⟨rfl, oD, GAD⟩
        case round =>
          obtain ⟨rfl, om, gm⟩ := hrel
          go_wp2
          go_roundg (19 - (i + 1))
          case measure => omega
          case rel =>
            refine ⟨i + 1, by omega, Nat.le_refl _, by go_num, ?_, gm⟩
            rw [evp_snoc, evr_no hE, List.append_nil]
            exact om
    · obtain rfl : i = 19 := by omega
      have hp := evs_pos y 0 (by decide)
      have hlen := evp_len y 0 19 (by omega)
      obtain ⟨g, cap, rfl⟩ : ∃ g cap, u6 = .slice (some ⟨g, 0, none⟩) (evp y 0 19).length cap := by
        rcases ho.2 with ⟨-, z⟩ | ⟨g, cap, -, rfl, -⟩
        · omega
        · exact ⟨g, cap, rfl⟩
      have HO := Lib.hid (evs_of ho hp rfl)
      clear ho
      go_wp2_with (first | (go_at_call 67; refine (C3.out _ (evp y 0 19) _ (by unfold evp at *; omega) ((by repeat (first | exact Gr.refl _ | refine Gr.setCell ?_ _ _ (by first | exact Nat.le_refl _ | (simp; omega) | (simp; done)) | refine Gr.grown ?_ _ _ | refine Gr.drewN ?_ _ | refine Gr.drew ?_ | refine Gr.alloc ?_ _ | refine Gr.grow ?_ _ | (refine Gr.trans ?_ (by assumption))))) hp ⟨g, cap, rfl, HO.out⟩).mono ?_; rintro e2 wE ⟨g2, cap2, M, rfl, hPerm, hSort, hEv, hgE⟩))
      go_ret2
      exact ⟨g2, cap2, M, rfl, hPerm, hSort, hEv, (by repeat (first | exact Gr.refl _ | refine Gr.setCell ?_ _ _ (by first | exact Nat.le_refl _ | (simp; omega) | (simp; done)) | refine Gr.grown ?_ _ _ | refine Gr.drewN ?_ _ | refine Gr.drew ?_ | refine Gr.alloc ?_ _ | refine Gr.grow ?_ _ | (refine Gr.trans ?_ (by assumption))))⟩
set_option maxRecDepth 20000 in
set_option maxHeartbeats 8000000 in
theorem feof_in1 (y : Int) (w : World) (G : GT w) (h0 : 1 ≤ y) (h1 : y ≤ 9999)
    (hS : ∀ (v : Value) (L : List (Int × Int)) (W : World), L.length ≤ 1000 → Gr w W → 0 < L.length → (∃ g cap, v = .slice (some ⟨g, 0, none⟩) L.length cap ∧ Evs W g L) → Calls Tryq.prog 67 #[v] W (SortE W L)) :
    Calls Tryq.prog 31 #[.int .i64 y, .int .i64 1] w (OfE w (evs y 1)) := by
  have C1 := Lib.hid fun W => rows_c W
  have C2 := Lib.hid fun W (hW : Gr w W) i (hi : i < 19) => htoday_row y i W (G.gr hW) h0 h1 hi
  have C3 := Lib.hid hS
  clear hS G
  go_enter Tryq.func31, Tryq.ntmps31
  go_wp2_with (first | (go_at_call 68; (with_reducible refine (C1.out _).mono ?_); rintro e wA ⟨gR, rfl, hR, hgA⟩))
  go_loopg [6, 30] 19 (fun kx s6 s30 wr => ∃ (i : Nat), i ≤ 19 ∧ 19 - i ≤ kx ∧ s30 = .int .i64 (i : Int) ∧ wr.ownsRow wA.heap.size 67 2 s6 (evp y 1 i).length (cel (evp y 1 i)) ∧ Gr wA wr)
  case atStart => exact ⟨0, by omega, by omega, rfl, World.ownsRow_nil _ _ _ _, Gr.refl _⟩
  case round =>
    obtain ⟨i, hi, hm, rfl, ho, hg⟩ := hrel
    rename World => wo
    by_cases e : i < 19
    · have e' : (i : Int) < 19 := by omega
      obtain ⟨k0, k1, k2, k3, k4, k5, k6⟩ := frow_cells (hR.gr hg) e
      obtain ⟨f0, f1, f2, f3⟩ := fFT 1 e
      have fl : (evp y 1 i).length ≤ 8 * i := evp_len y 1 i (by omega)
      obtain ⟨K, hK⟩ : ∃ K, fK i = K := ⟨_, rfl⟩
      obtain ⟨A, hA⟩ : ∃ A, fA i = A := ⟨_, rfl⟩
      obtain ⟨B, hB⟩ : ∃ B, fB i = B := ⟨_, rfl⟩
      obtain ⟨C, hC⟩ : ∃ C, fC i = C := ⟨_, rfl⟩
      obtain ⟨D, hD⟩ : ∃ D, fD i = D := ⟨_, rfl⟩
      rw [hK] at k0; rw [hA] at k3; rw [hB] at k4; rw [hC] at k5; rw [hD] at k6
      rw [show fF 1 i = C from by show fC i = C; exact hC] at f0 f1 f2
      rw [show fT 1 i = D from by show fD i = D; exact hD] at f1 f2 f3
      go_wp2
      obtain ⟨W1, hW1⟩ : ∃ W1, W1 = wo.alloc (Obj.cells #[.int .i64 K, .int .i64 (fN i), .bool (fL i), .int .i64 A, .int .i64 B, .int .i64 C, .int .i64 D] 115) := ⟨_, rfl⟩
      rw [← hW1]
      have l1 : wo.heap.size < W1.heap.size := by rw [hW1]; simp
      have b0 : W1.cell? ⟨wo.heap.size, 0, none⟩ = some (.int .i64 K) := by rw [hW1]; simp [go_sem]
      have b1 : W1.cell? ⟨wo.heap.size, 1, none⟩ = some (.int .i64 (fN i)) := by rw [hW1]; simp [go_sem]
      have b2 : W1.cell? ⟨wo.heap.size, 2, none⟩ = some (.bool (fL i)) := by rw [hW1]; simp [go_sem]
      have b3 : W1.cell? ⟨wo.heap.size, 3, none⟩ = some (.int .i64 A) := by rw [hW1]; simp [go_sem]
      have b4 : W1.cell? ⟨wo.heap.size, 4, none⟩ = some (.int .i64 B) := by rw [hW1]; simp [go_sem]
      have b5 : W1.cell? ⟨wo.heap.size, 5, none⟩ = some (.int .i64 C) := by rw [hW1]; simp [go_sem]
      have b6 : W1.cell? ⟨wo.heap.size, 6, none⟩ = some (.int .i64 D) := by rw [hW1]; simp [go_sem]
      have G1 : Gr wo W1 := by rw [hW1]; exact (Gr.refl _).alloc _
      have GA1 : Gr wA W1 := hg.trans G1
      have o1 := own_gr ho G1
      have hx1 : W1.heap[wo.heap.size]? = some (Obj.cells #[.int .i64 K, .int .i64 (fN i), .bool (fL i), .int .i64 A, .int .i64 B, .int .i64 C, .int .i64 D] 115 (0, 0)) := by rw [hW1]; exact heap_alloc_new _ _
      clear hW1 k0 k1 k2 k3 k4 k5 k6 ho hg
      go_quiet (fail)
      go_wp2
      go_quiet (fail)
      go_wp2_with (first | (go_at_call 24; (refine (C2.out _ ((by repeat (first | exact Gr.refl _ | refine Gr.setCell ?_ _ _ (by first | exact Nat.le_refl _ | (simp; omega) | (simp; done)) | refine Gr.grown ?_ _ _ | refine Gr.drewN ?_ _ | refine Gr.drew ?_ | refine Gr.alloc ?_ _ | refine Gr.grow ?_ _ | (refine Gr.trans ?_ (by assumption))))) i e).mono ?_); rintro e1 wD ⟨rfl, hgD⟩))
      have GW : Gr W1 wD := (by repeat (first | exact Gr.refl _ | refine Gr.setCell ?_ _ _ (by first | exact Nat.le_refl _ | (simp; omega) | (simp; done)) | refine Gr.grown ?_ _ _ | refine Gr.drewN ?_ _ | refine Gr.drew ?_ | refine Gr.alloc ?_ _ | refine Gr.grow ?_ _ | (refine Gr.trans ?_ (by assumption))))
      have GAD : Gr wA wD := GA1.trans GW
      have oD := own_gr o1 GW
      have hbx := (GW.heap l1).trans hx1
      have hsD : wA.heap.size ≤ wD.heap.size := GAD.size
      have lD : wo.heap.size < wD.heap.size := by have := GW.size; omega
      clear hgD GW o1 hx1 GA1 G1 b0 b1 b2 b3 b4 b5 b6
      obtain ⟨F, hF⟩ : ∃ F, fdy y i = F := ⟨_, rfl⟩
      have rF := fdy_range (i := i) h0 h1 e
      rw [hF] at rF ⊢
      obtain ⟨r0, r1⟩ := rF
      by_cases hE : fH (lp y) i = true
      · rw [show fer y i = 0 from if_pos hE]
        go_loopg [6, 13] (D + 1 - C).toNat (fun kx s6 s13 wm => ∃ (m : Nat), (m : Int) ≤ D + 1 - C ∧ (D + 1 - C).toNat - m ≤ kx ∧ s13 = .int .i64 (C + (m : Int)) ∧ wm.ownsRow wA.heap.size 67 2 s6 (evp y 1 i ++ evm y 1 i m).length (cel (evp y 1 i ++ evm y 1 i m)) ∧ Gr wA wm ∧ wm.heap[wo.heap.size]? = some (Obj.cells #[.int .i64 K, .int .i64 (fN i), .bool (fL i), .int .i64 A, .int .i64 B, .int .i64 C, .int .i64 D] 115 (0, 0)) ∧ wo.heap.size < wm.heap.size)
        case atStart => exact ⟨0, by omega, by omega, by simp, by simpa [evm] using oD, GAD, hbx, lD⟩
        case round =>
          obtain ⟨m, hm1, hm2, rfl, om, gm, hbm, lm⟩ := hrel
          by_cases e2 : C + (m : Int) ≤ D
          · have c0 : wr.cell? ⟨wo.heap.size, 0, none⟩ = some (.int .i64 K) := by rw [Lib.cell_of_heap hbm]; rfl
            have hne := own_ne om hbm (by decide)
            have hml : (evp y 1 i ++ evm y 1 i m).length ≤ 1000 := by rw [List.length_append, evm_len]; omega
            have hsm := gm.size
            go_wp2_with (first | (at_builtin; refine append_evs _ rfl _ _ rfl wA.heap.size _ _ _ rfl (om.alloc _) _ 1 [.int .i64 K, .int .i64 (F + (C + (m : Int)) - 1)] rfl rfl (news2 rfl _ _ _) (by simp [Value.oneCell']) (by omega) (by simp; omega) ?_; intro g1 c1 wX OX kX bX GX_; have GX : Gr wA wX := GX_ wA (gm.alloc _) (Nat.le_refl _)))
            go_roundg ((D + 1 - C).toNat - (m + 1))
            case measure => omega
            case rel =>
              have ev : evp y 1 i ++ evm y 1 i (m + 1) = evp y 1 i ++ evm y 1 i m ++ [(K, F + (C + (m : Int)) - 1)] := by
                rw [evm_snoc, ← List.append_assoc, hK, hF, show fF 1 i = C from by show fC i = C; exact hC]
              refine ⟨m + 1, by omega, Nat.le_refl _, by go_num, ?_, GX, ?_, ?_⟩
              · rw [ev, cel_snoc]
                simp only [List.length_append, List.length_cons, List.length_nil, Nat.zero_add] at OX ⊢
                exact OX
              · rw [kX.block wo.heap.size (by simp; omega) hne, Lib.alloc_old _ _ _ lm]
                exact hbm
              · have := kX.size
                simp at this
                omega
          · go_wp2
            have hm3 : m = (fT 1 i + 1 - fF 1 i).toNat := by
              have a1 : fF 1 i = C := by show fC i = C; exact hC
              have a2 : fT 1 i = D := by show fD i = D; exact hD
              rw [a1, a2]
              omega
            go_roundg (19 - (i + 1))
            case measure => omega
            case rel =>
              refine ⟨i + 1, by omega, Nat.le_refl _, by go_num, ?_, gm⟩
              rw [evp_snoc, evr_yes hE, ← hm3]
              exact om
      · rw [show fer y i = 3 from if_neg hE]
        go_loopg [6, 13] 1 (fun kx s6 s13 wm => s13 = .int .i64 C ∧ wm.ownsRow wA.heap.size 67 2 s6 (evp y 1 i).length (cel (evp y 1 i)) ∧ Gr wA wm)
        case atStart => exact ⟨rfl, oD, GAD⟩
        case round =>
          obtain ⟨rfl, om, gm⟩ := hrel
          go_wp2
          go_roundg (19 - (i + 1))
          case measure => omega
          case rel =>
            refine ⟨i + 1, by omega, Nat.le_refl _, by go_num, ?_, gm⟩
            rw [evp_snoc, evr_no hE, List.append_nil]
            exact om
    · obtain rfl : i = 19 := by omega
      have hp := evs_pos y 1 (by decide)
      have hlen := evp_len y 1 19 (by omega)
      obtain ⟨g, cap, rfl⟩ : ∃ g cap, u6 = .slice (some ⟨g, 0, none⟩) (evp y 1 19).length cap := by
        rcases ho.2 with ⟨-, z⟩ | ⟨g, cap, -, rfl, -⟩
        · omega
        · exact ⟨g, cap, rfl⟩
      have HO := Lib.hid (evs_of ho hp rfl)
      clear ho
      go_wp2_with (first | (go_at_call 67; refine (C3.out _ (evp y 1 19) _ (by unfold evp at *; omega) ((by repeat (first | exact Gr.refl _ | refine Gr.setCell ?_ _ _ (by first | exact Nat.le_refl _ | (simp; omega) | (simp; done)) | refine Gr.grown ?_ _ _ | refine Gr.drewN ?_ _ | refine Gr.drew ?_ | refine Gr.alloc ?_ _ | refine Gr.grow ?_ _ | (refine Gr.trans ?_ (by assumption))))) hp ⟨g, cap, rfl, HO.out⟩).mono ?_; rintro e2 wE ⟨g2, cap2, M, rfl, hPerm, hSort, hEv, hgE⟩))
      go_ret2
      exact ⟨g2, cap2, M, rfl, hPerm, hSort, hEv, (by repeat (first | exact Gr.refl _ | refine Gr.setCell ?_ _ _ (by first | exact Nat.le_refl _ | (simp; omega) | (simp; done)) | refine Gr.grown ?_ _ _ | refine Gr.drewN ?_ _ | refine Gr.drew ?_ | refine Gr.alloc ?_ _ | refine Gr.grow ?_ _ | (refine Gr.trans ?_ (by assumption))))⟩
end Go.Proofs.YtegkbjpcgelomaaGreatDoor.Walks
end
/- A region that draws its order: its first n operations only read, its callees may draw and lay blocks; the rest come behind all of these, one by one: the reading ones walked once, in the order of the text, then the rest, in every world that may have come. -/
section
namespace Go.Proofs.YtegkbjpcgelomaaGreatDoor.Base
open Go Go.RowKit Go.Sort
section
variable {P : Program} {ops : Array Oper} {md : Region.Mode} {C : World → Prop}

/-- Whatever order is picked, as long as the first n have not all come: what comes is one of these; then L. -/
def headQ (P : Program) (md : Region.Mode) (ops : Array Oper) (C : World → Prop) (n : Nat) (L : Array Bool → Act → Prop) : Nat → Array Bool → Act → Prop
  | 0, ls, a => L ls a
  | f + 1, ls, a => Region.ready md ops ls ≠ [] ∧ ∀ i ∈ Region.ready md ops ls, i < n ∧ qOp P ops C i (headQ P md ops C n L f (ls.setIfInBounds i true)) a

theorem any_of_headQ {n g : Nat} {L : Array Bool → Act → Prop} {Q' : Exit → Act → World → Prop} (hL : ∀ ls a w, C w → L ls a → wpAny P md ops Q' g ls a w) :
    ∀ (f : Nat) (ls : Array Bool) (a : Act) (w : World), C w → headQ P md ops C n L f ls a → wpAny P md ops Q' (f + g) ls a w := by
  intro f
  induction f with
  | zero => intro ls a w hw h; rw [Nat.zero_add]; exact hL _ _ _ hw h
  | succ f ih =>
    intro ls a w hw h
    rw [show f + 1 + g = (f + g) + 1 by omega]
    exact ⟨fun h0 => absurd h0 h.1, fun i hi => wpOp_of_qOp hw (fun a' w' hw' h' => ih _ a' w' hw' h') (h.2 i hi).2⟩

theorem headQ_first {n i : Nat} {oi : Oper} {v : Value} {L : Array Bool → Act → Prop} (hi : ops[i]? = some oi) (hsel : ∀ (j : Nat) (o : Oper) cs b, ops[j]? = some o → o.op ≠ .select cs b)
    (hs : Region.sinkB md ops n = true) (hc : Region.chainB md ops n = true) (hn : n < ops.size) (hin : i < n) (hdone : ∀ ls a, L ls a → ∀ j ∈ Region.ready md ops ls, n ≤ j) :
    ∀ (f : Nat) (ls : Array Bool) (a : Act), HeadInv md ops n ls →
      (∀ j oj, ops[j]? = some oj → j ≠ i → ls.getD j true = false → (∀ e ∈ oj.after, Region.binds md e = true → e.on ≠ i) → oi.apart ops oj = true) →
      i ∈ Region.ready md ops ls → YieldsIn P ops C oi v a → headQ P md ops C n L f (ls.setIfInBounds i true) (a.put oi.dst v) → headQ P md ops C n L (f + 1) ls a := by
  intro f
  induction f with
  | zero =>
    intro ls a inv _ hr hy H
    have un := (mem_ready.1 hr).1
    have low : ∀ j, j ∈ Region.ready md ops ls → j < n := fun j hj => by
      rcases Nat.lt_or_ge j n with h | h
      · exact h
      · exact absurd hj (tail_waits hs hc hn inv _ i rfl hin un j h)
    refine ⟨fun h => (by rw [h] at hr; cases hr), fun j hj => ⟨low j hj, ?_⟩⟩
    by_cases e : j = i
    · subst e; exact hy.qOp hi H
    · exact absurd (hdone _ _ H j (ready_mono hj e)) (by have := low j hj; omega)
  | succ f ih =>
    intro ls a inv free hr hy H
    have un := (mem_ready.1 hr).1
    have low : ∀ j, j ∈ Region.ready md ops ls → j < n := fun j hj => by
      rcases Nat.lt_or_ge j n with h | h
      · exact h
      · exact absurd hj (tail_waits hs hc hn inv _ i rfl hin un j h)
    refine ⟨fun h => (by rw [h] at hr; cases hr), fun j hj => ⟨low j hj, ?_⟩⟩
    by_cases e : j = i
    · subst e; exact hy.qOp hi H
    · have H1 := (H.2 j (ready_mono hj e)).2
      obtain ⟨jun, oj, hoj, hall⟩ := mem_ready.1 hj
      have nobind : ∀ x ∈ oj.after, Region.binds md x = true → x.on ≠ i := fun x hx hb heq => by
        have q := hall x hx hb
        rw [heq, getD_both un] at q
        cases q
      have H2 := qOp_put hoj (free j oj hoj e jun nobind) (fun cs b => hsel i oi cs b hi) (fun cs b => hsel j oj cs b hoj) hy H1
      refine qOp_mono (fun a' H3 => ih (ls.setIfInBounds j true) a' (inv.set hj (low j hj)) (fun k ok hk hki hun hno => free k ok hk hki ?_ hno) (ready_mono hr (Ne.symm e)) H3.1 ?_) H2
      · by_cases z : j = k
        · subst z; exact jun
        · rw [getD_set_ne true z] at hun; exact hun
      · rw [Array.setIfInBounds_comm _ _ e]; exact H3.2

theorem headQ_lex {n g : Nat} {Lq : Act → Prop} (hsel : Region.noSelect ops = true) (hs : Region.sinkB md ops n = true) (hc : Region.chainB md ops n = true) (hn : n < ops.size) :
    ∀ (l : List Oper) (k : Nat) (ls : Array Bool) (a : Act), (∀ j, j < l.length → l[j]? = ops[k + j]?) → k + l.length = n → HeadInv md ops n ls →
    Region.lexHead md ops g l.length k ls = true → wpQuiet P ops C Lq l a → headQ P md ops C n (fun ls' a' => Region.seqB md ops g n ls' = true ∧ Lq a') l.length ls a := by
  intro l
  induction l with
  | nil =>
    intro k ls a _ hk _ hB h
    have e : k = n := by simpa using hk
    subst e
    exact ⟨by simpa [Region.lexHead] using hB, h⟩
  | cons o l ih =>
    intro k ls a hl hk inv hB h
    have h0 : ops[k]? = some o := by simpa using (hl 0 (by simp)).symm
    simp only [List.length_cons, Region.lexHead, Bool.and_eq_true] at hB
    obtain ⟨⟨hr, hf⟩, hB'⟩ := hB
    have hkn : k < n := by simp only [List.length_cons] at hk; omega
    have hr' : k ∈ Region.ready md ops ls := by simpa using hr
    have hst : qOp P ops C k (wpQuiet P ops C Lq l) a := by unfold qOp; simp only [h0]; exact h
    obtain ⟨v, hy, hK⟩ := yieldsIn_of_qOp h0 hst
    exact headQ_first h0 (Region.noSelect_spec hsel) hs hc hn hkn (fun ls' a' hL => seqB_ready hL.1) l.length ls a inv (Region.free_spec h0 hf) hr' hy
      (ih (k + 1) _ _ (fun j hj => by have := hl (j + 1) (by simp; omega); simpa [Nat.add_assoc, Nat.add_comm 1 j] using this) (by simp only [List.length_cons] at hk; omega) (inv.set hr' hkn) hB' hK)

/-- In the class of grown worlds. -/
theorem wp_region_grown_tail {id : Nat} {Q : Exit → Act → World → Prop} {a : Act} {w : World} {l : List Oper} (n : Nat) (hm : P.follows .mixedOrders = true) (hB : Region.lexTailB .any l.toArray n = true)
    (h : wpQuiet P l.toArray (fun w' => ∃ p : GrownBy, w' = grow (w.drewN p.n) p.os) (fun a' => ∀ w', (∃ p : GrownBy, w' = grow (w.drewN p.n) p.os) → wpList P l.toArray Q (l.drop n) a' w') (l.take n) a) : (Code.region id l.toArray true).wp P Q a w := by
  simp only [Region.lexTailB, Bool.and_eq_true, decide_eq_true_eq] at hB
  obtain ⟨⟨⟨⟨hsel, hn⟩, hs⟩, hc⟩, hlex⟩ := hB
  have hn' : n < l.length := by simpa using hn
  have htl : (l.take n).length = n := by simp; omega
  have hdl : (l.drop n).length = l.toArray.size - n := by simp
  have inv0 : HeadInv .any l.toArray n (Array.replicate l.toArray.size false) :=
    ⟨by simp, fun j oj _ hl => (by rw [getD_replicate_false] at hl; cases hl), fun t _ ht => getD_in (by simpa using ht) (getD_replicate_false _ _)⟩
  have H := headQ_lex (md := .any) (g := l.toArray.size - n) hsel hs hc hn (l.take n) 0 _ a (fun j hj => by
    have hj' : j < n := by rw [htl] at hj; exact hj
    simp [hj']) (by simpa using htl) inv0 (by rw [htl]; exact hlex) h
  refine wp_region_any hm ?_
  have := any_of_headQ (Q' := Q) (g := l.toArray.size - n) (fun ls a' w' hw' hL => by
    have := wpAny_of_seq (md := .any) (Q' := Q) (l.drop n) n ls a' w' (fun j => by simp [List.getElem?_drop]) (by rw [hdl]; exact hL.1) (hL.2 w' hw')
    rwa [hdl] at this) _ _ _ _ (show (fun w' => ∃ p : GrownBy, w' = grow (w.drewN p.n) p.os) { w with drawn := w.drawn + 1 } from ⟨⟨1, #[]⟩, by rw [grow_empty]; rfl⟩) H
  rw [htl, show n + (l.toArray.size - n) = l.toArray.size by omega] at this
  exact this
end
end Go.Proofs.YtegkbjpcgelomaaGreatDoor.Base
end
/- feast.Sort. -/
section
namespace Go.Proofs.YtegkbjpcgelomaaGreatDoor.Walks
open Go Go.RowKit Go.Sort Go.Proofs.YtegkbjpcgelomaaGreatDoor.Base Go.Proofs.YtegkbjpcgelomaaGreatDoor.Plain Go.Proofs.YtegkbjpcgelomaaGreatDoor.Math

theorem evc_or (x y : Int × Int) : (if cmpI x.2 y.2 = 0 then cmpI x.1 y.1 else cmpI x.2 y.2) = evc x y := by
  unfold cmpI evc
  repeat' split
  all_goals (first | rfl | omega)
theorem compare_g (x y : Int) (w : World) : Calls Tryq.prog 102 #[.int .i64 x, .int .i64 y] w fun e w' => e = .returned (.int .i64 (cmpI x y)) ∧ Gr w w' :=
  (compare_c x y w).mono fun _ _ ⟨h, k⟩ => ⟨h, by rw [k]; exact .refl _⟩
set_option maxHeartbeats 4000000 in
theorem sort1_c (x y : Int × Int) (w : World) : Calls Tryq.prog 100 #[.agg #[.int .i64 x.1, .int .i64 x.2], .agg #[.int .i64 y.1, .int .i64 y.2]] w fun e w' => e = .returned (.int .i64 (evc x y)) ∧ Gr w w' := by
  rw [← evc_or]
  obtain ⟨x1, x2⟩ := x
  obtain ⟨y1, y2⟩ := y
  simp only
  have C1 := Lib.hid fun a b W => compare_g a b W
  go_enter Tryq.func100, Tryq.ntmps100
  go_wp2
  obtain ⟨W1, hW1⟩ : ∃ W1, W1 = (w.alloc (Obj.cells #[.int .i64 x1, .int .i64 x2] 67)).alloc (Obj.cells #[.int .i64 y1, .int .i64 y2] 67) := ⟨_, rfl⟩
  rw [← hW1]
  have l0 : w.heap.size < W1.heap.size := by rw [hW1]; simp; omega
  have l1 : w.heap.size + 1 < W1.heap.size := by rw [hW1]; simp
  have a0 := gcell_in l0 (show W1.cell? ⟨w.heap.size, 0, none⟩ = some (.int .i64 x1) by rw [hW1]; simp [go_sem])
  have a1 := gcell_in l0 (show W1.cell? ⟨w.heap.size, 1, none⟩ = some (.int .i64 x2) by rw [hW1]; simp [go_sem])
  have a2 := gcell_in l1 (show W1.cell? ⟨w.heap.size + 1, 0, none⟩ = some (.int .i64 y1) by rw [hW1]; simp [go_sem])
  have a3 := gcell_in l1 (show W1.cell? ⟨w.heap.size + 1, 1, none⟩ = some (.int .i64 y2) by rw [hW1]; simp [go_sem])
  have G1 : Gr w W1 := by rw [hW1]; exact ((Gr.refl _).alloc _).alloc _
  clear hW1 l0 l1
  (refine wp_region_grown_tail 10 mixed (by kernel_rfl) ?_; simp only [List.take_succ_cons, List.take_zero, List.drop_succ_cons, List.drop_zero]; (repeat (first | go_big_quiet_step ((go_at_call 102; with_reducible exact gr_of (C1.out _ _ _))) | quiet_step ((go_at_call 102; with_reducible exact gr_of (C1.out _ _ _))))); refine wpQuiet_nil ?_; intro _ hw'; obtain ⟨⟨nq, osq⟩, hw''⟩ := hw'; subst hw'')
  obtain ⟨W2, hW2⟩ : ∃ W2, W2 = grow (W1.drewN nq) osq := ⟨_, rfl⟩
  have G2 : Gr w W2 := by rw [hW2]; exact G1.grown _ _
  rw [← hW2]
  clear hW2 a0 a1 a2 a3
  go_wp2_with (first | (go_at_call 101; refine (or_c (cmpI x2 y2) (cmpI x1 y1) W2.heap.size _ (by simp [go_sem]) (by simp [go_sem])).mono ?_; rintro e w3 ⟨rfl, rfl⟩))
  all_goals (go_ret; exact ⟨rfl, (by repeat (first | exact Gr.refl _ | refine Gr.setCell ?_ _ _ (by first | exact Nat.le_refl _ | (simp; omega) | (simp; done)) | refine Gr.grown ?_ _ _ | refine Gr.drewN ?_ _ | refine Gr.drew ?_ | refine Gr.alloc ?_ _ | refine Gr.grow ?_ _ | (refine Gr.trans ?_ (by assumption))))⟩)
def evE (x : Int × Int) : List Value := [.int .i64 x.1, .int .i64 x.2]
theorem evc_lt (x y : Int × Int) : ltOf evc x y = decide (x.2 < y.2 ∨ x.2 = y.2 ∧ x.1 < y.1) := by
  unfold ltOf evc
  by_cases h1 : x.2 < y.2
  · simp [h1]
  · by_cases h2 : y.2 < x.2
    · simp [h1, h2]; omega
    · by_cases h3 : x.1 < y.1
      · simp [h1, h2, h3]; omega
      · by_cases h4 : y.1 < x.1 <;> simp [h1, h2, h3, h4]
theorem evc_swo : SWO (ltOf evc) where
  irrefl x := by rw [evc_lt]; simp
  trans x y z h1 h2 := by rw [evc_lt] at *; simp only [decide_eq_true_eq] at *; omega
  ntrans x y z h1 h2 := by rw [evc_lt] at *; simp only [decide_eq_false_iff_not] at *; omega
theorem evc_tot (x y : Int × Int) (h1 : ltOf evc x y = false) (h2 : ltOf evc y x = false) : x = y := by
  rw [evc_lt] at *
  simp only [decide_eq_false_iff_not] at *
  exact Prod.ext (by omega) (by omega)
theorem evc_le (x y : Int × Int) : (!ltOf evc y x) = decide (evc y x ≥ 0) := by
  rw [evc_lt]
  unfold evc
  by_cases h1 : y.2 < x.2
  · simp [h1]
  · by_cases h2 : x.2 < y.2
    · simp [h1, h2]; omega
    · by_cases h3 : y.1 < x.1
      · have : y.2 = x.2 := by omega
        simp [h1, h2, h3, this]
      · by_cases h4 : x.1 < y.1 <;> simp [h1, h2, h3, h4]
theorem Gr.modify {a b : World} (h : Gr a b) (blk : Nat) (f : Obj → Obj) (hb : a.heap.size ≤ blk) : Gr a { b with heap := b.heap.modify blk f } := by
  obtain ⟨⟨q, os, rfl⟩⟩ := h
  refine ⟨⟨q, os.modify (blk - a.heap.size) f, ?_⟩⟩
  unfold Go.Sort.grow
  simp only
  congr 1
  exact modify_append_right _ _ _ _ hb
theorem Gr.sortK {a w : World} (h : Gr a w) {α : Type} [Inhabited α] (enc : α → List Value) (k blk off n : Nat) (d : Array α) (os : Array Obj) (hb : a.heap.size ≤ blk) : Gr a (sortWorldK enc k w blk off n d os) := by
  unfold sortWorldK
  refine Gr.grow ?_ _
  exact Gr.modify (h.drewN n) blk _ hb
theorem evs_cell {w : World} {g : Nat} {L : List (Int × Int)} (E : Evs w g L) (j : Nat) (u : Value) (h : (cel L)[j]? = some u) : w.cell? ((⟨g, 0, none⟩ : Addr).add j) = some u := by
  have hj : j < L.length * 2 := by rw [← cel_len]; exact (List.getElem?_eq_some_iff.1 h).1
  have hi : j / 2 < L.length := by omega
  have he := List.getElem?_eq_getElem hi
  obtain ⟨a, b⟩ := cel_at L (j / 2) _ he
  obtain ⟨c, d⟩ := E.c (j / 2) _ he
  have key : w.cell? ⟨g, j, none⟩ = some u := by
    rcases Nat.mod_two_eq_zero_or_one j with q | q
    · rw [show 2 * (j / 2) = j by omega] at a c
      rw [a] at h; cases h; exact c
    · rw [show 2 * (j / 2) + 1 = j by omega] at b d
      rw [b] at h; cases h; exact d
  by_cases z : j = 0
  · subst z; simpa [Addr.add] using key
  · simpa [Addr.add, z] using key
theorem cel_one (L : List (Int × Int)) : ∀ u ∈ cel L, u.oneCell' = true := by
  intro u hu
  simp only [cel, List.mem_flatMap, List.mem_cons, List.not_mem_nil, or_false] at hu
  obtain ⟨e, -, rfl | rfl⟩ := hu <;> rfl
def CloneE (w : World) (L : List (Int × Int)) (e : Ending) (w' : World) : Prop :=
  ∃ g cap, e = .returned (.slice (some ⟨g, 0, none⟩) L.length cap) ∧ w'.ownsRow w.heap.size 67 2 (.slice (some ⟨g, 0, none⟩) L.length cap) L.length (cel L) ∧ Gr w w'
set_option maxRecDepth 100000 in
set_option maxHeartbeats 4000000 in
theorem clone_c (g cap : Nat) (L : List (Int × Int)) (w : World) (hL : 0 < L.length) (hL2 : L.length ≤ 1000) (E : Evs w g L) :
    Calls Tryq.prog 98 #[.slice (some ⟨g, 0, none⟩) L.length cap] w (CloneE w L) := by
  obtain ⟨i, h2, h3, h4, h5⟩ := info_parts ninfo_ev
  have E2 : Evs (w.alloc (.cells #[] 67)) g L := E.gr ((Gr.refl w).alloc _)
  have hN := Lib.hid (evs_cell E2)
  have hw : (w.alloc (.cells #[] 67)).ownsRow w.heap.size 67 2 (.slice (some ⟨w.heap.size, 0, none⟩) 0 0) 0 [] := own_new (w := w) (cs := #[]) (Nat.le_refl _) rfl rfl (by decide)
  clear E E2
  have q22 : ∀ (w : World) (a : Option Addr) (n c n' c' : Nat), (binOp .eql 62 (.slice a n c) (.slice none n' c')).run Tryq.prog w = .ok (.bool a.isNone) w := fun w a n c n' c' => Lib.run_eql_slice_nil w _ _ a n c n' c' nund_evs
  go_enter Tryq.func98, Tryq.ntmps98
  go_wp2_with (first | (at_builtin; refine wpList_append_gr _ rfl _ _ 62 rfl w.heap.size 67 i (.agg #[.int .i64 0, .int .i64 0]) 2 16 nund_evs h2 h3 h4 h5 rfl (by decide) _ 0 [] rfl hw ⟨g, 0, none⟩ L.length cap (cel L) rfl (cel_len L) hN.out (cel_one L) hL (by simp only [maxLen]; omega) (by omega) (by simp) ?_; intro g1 c1 wX OX kX bX GX_; have GX : Gr w wX := GX_ w ((by repeat (first | exact Gr.refl _ | refine Gr.setCell ?_ _ _ (by first | exact Nat.le_refl _ | (simp; omega) | (simp; done)) | refine Gr.grown ?_ _ _ | refine Gr.drewN ?_ _ | refine Gr.drew ?_ | refine Gr.alloc ?_ _ | refine Gr.grow ?_ _ | (refine Gr.trans ?_ (by assumption))))) (Nat.le_refl _)))
  go_ret
  exact ⟨g1, c1, by simp, by simpa using OX, GX⟩
theorem holds_of {w : World} {base g n cap : Nat} {L : List (Int × Int)} (h : w.ownsRow base 67 2 (.slice (some ⟨g, 0, none⟩) n cap) n (cel L)) (hl : L.length = n) : HoldsK evE 2 w g 0 L.toArray := by
  rcases h.2 with ⟨q, -⟩ | ⟨g', cap', cur, q, -, hh, -⟩
  · cases q
  · injection q with q1 q2 q3
    injection q1 with q4
    injection q4 with q5
    subst q5
    intro j hj
    rw [size_flatK] at hj
    have hj' : j < L.length * 2 := by simpa using hj
    have hi : j / 2 < L.length := by omega
    have he := List.getElem?_eq_getElem hi
    obtain ⟨a, b⟩ := cel_at L (j / 2) _ he
    refine ⟨?_, Lib.frozen_of_heap hh _⟩
    rw [get_flatK _ _ _ _ hj]
    have e0 : (L.toArray)[j / 2]! = L[j / 2] := by simp [getElem!_pos, hi]
    rw [e0]
    have k := fun u (hu : (cel L)[j]? = some u) => h.cells (g := g) rfl j u hu
    have key : ∀ u, (cel L)[j]? = some u → w.cell? ⟨g, 0 + j, none⟩ = some u := by
      intro u hu
      have := k u hu
      by_cases z : j = 0
      · subst z; simpa [Addr.add] using this
      · simpa [Addr.add, z] using this
    rcases Nat.mod_two_eq_zero_or_one j with q | q
    · rw [show 2 * (j / 2) = j by omega] at a
      rw [key _ a, q]; rfl
    · rw [show 2 * (j / 2) + 1 = j by omega] at b
      rw [key _ b, q]; rfl
theorem evs_holds {w : World} {g : Nat} {M : List (Int × Int)} (h : HoldsK evE 2 w g 0 M.toArray) (hg : g < w.heap.size) : Evs w g M := by
  refine ⟨hg, fun i e he => ?_⟩
  have hi := (List.getElem?_eq_some_iff.1 he).1
  have h0 := (h (2 * i) (by rw [size_flatK]; simp; omega)).1
  have h1 := (h (2 * i + 1) (by rw [size_flatK]; simp; omega)).1
  rw [get_flatK _ _ _ _ (by simp; omega)] at h0 h1
  have e0 : (M.toArray)[i]! = e := by
    rw [getElem!_pos _ _ (by simpa using hi)]
    simpa using (List.getElem?_eq_some_iff.1 he).2
  rw [show 2 * i / 2 = i by omega, show 2 * i % 2 = 0 by omega, e0, Nat.zero_add] at h0
  rw [show (2 * i + 1) / 2 = i by omega, show (2 * i + 1) % 2 = 1 by omega, e0, Nat.zero_add] at h1
  exact ⟨h0, h1⟩
theorem evc_sorted (L : List (Int × Int)) : (L.mergeSort fun x y => !(ltOf evc) y x).Pairwise (fun x y => evc y x ≥ 0) := by
  have h := List.pairwise_mergeSort (le := fun x y => !(ltOf evc) y x) (fun a b c => by
    simp only [evc_lt, Bool.not_eq_true', decide_eq_false_iff_not]
    omega) (fun a b => by
    simp only [evc_lt, Bool.or_eq_true, Bool.not_eq_true', decide_eq_false_iff_not]
    omega) L
  refine h.imp fun {a b} hab => ?_
  rw [evc_le] at hab
  simpa using hab
theorem ev_agg (w : World) : (isAgg 67).run Tryq.prog w = .ok true w := by first | (rw [Tryq.agg_run]; kernel_rfl) | simp
theorem ev_size (w : World) : (Go.sizeOf 67).run Tryq.prog w = .ok 2 w := by first | (rw [Tryq.size_run]; kernel_rfl) | simp
set_option maxHeartbeats 4000000 in
theorem sort_c (g cap : Nat) (L : List (Int × Int)) (w : World) (hL : 0 < L.length) (hL2 : L.length ≤ 1000) (E : Evs w g L) :
    Calls Tryq.prog 67 #[.slice (some ⟨g, 0, none⟩) L.length cap] w (SortE w L) := by
  have C1 := Lib.hid (clone_c g cap L w hL hL2 E)
  have C2 : RowKit.Hid (∀ (g2 cap2 : Nat) (W : World), W.ownsRow w.heap.size 67 2 (.slice (some ⟨g2, 0, none⟩) L.length cap2) L.length (cel L) → Calls Tryq.prog 99 #[.slice (some ⟨g2, 0, none⟩) L.length cap2, .func (.func 100) #[] #[]] W fun e w' => e = .returned (.tuple #[]) ∧ ∃ n os, w' = sortWorldK evE 2 W g2 0 n (L.mergeSort fun x y => !(ltOf evc) y x).toArray os) := Lib.hid fun g2 cap2 W hW => by
    have hg2 : g2 < W.heap.size := by
      have := evs_of hW hL rfl
      exact this.lt
    have hS := AnyQ.slices_SortFunc_total Tryq.lays99 2 ev_agg ev_size evE (fun _ => rfl) (fun x v hv => by simp [evE] at hv; rcases hv with rfl | rfl <;> rfl) evc evc_swo 100 #[] g2 0 cap2 L.toArray W (fun _ _ => Tryq.call100 _ _)
      (fun m os dk _ x y => (sort1_c x y _).mono fun e w' ⟨h, k⟩ => ⟨h, k.out⟩) (holds_of hW rfl) hg2 (by simp; omega) evc_tot
    change Calls Tryq.prog 99 _ _ _ at hS
    simpa using hS
  clear E
  go_enter Tryq.func67, Tryq.ntmps67
  go_wp2_with (first | (go_at_call 98; refine (C1.out).mono ?_; rintro e w1 ⟨g2, cap2, rfl, HO, hg⟩) | (go_at_call 99; refine (C2.out _ _ _ HO).mono ?_; rintro e w2 ⟨rfl, n, os, rfl⟩))
  go_ret
  have hE := evs_of HO hL rfl
  have hb : w.heap.size ≤ g2 := by
    rcases HO.2 with ⟨q, -⟩ | ⟨g', cap', cur, q, hb, -⟩
    · cases q
    · injection q with q1 q2 q3
      injection q1 with q4
      injection q4 with q5
      rw [q5]; exact hb
  have hm : (L.mergeSort fun x y => !(ltOf evc) y x).length = L.length := List.length_mergeSort _
  refine ⟨g2, cap2, L.mergeSort fun x y => !(ltOf evc) y x, by rw [hm]; rfl, List.mergeSort_perm _ _, evc_sorted L, ?_, Gr.sortK hg _ _ _ _ _ _ _ hb⟩
  refine evs_holds (holdsK_sortWorldK_c evE 2 w1 g2 0 L.toArray _ n os (holds_of HO rfl) hE.lt (by simp [hm])) ?_
  have := (Gr.sortK (Gr.refl w1) evE 2 w1.heap.size 0 n (L.mergeSort fun x y => !(ltOf evc) y x).toArray os (Nat.le_refl _)).size
  have h2 := hE.lt
  simp [sortWorldK, putRowK, putRow, mapBlock, Sort.ahead, Go.Sort.grow] at *
  omega
end Go.Proofs.YtegkbjpcgelomaaGreatDoor.Walks
end
