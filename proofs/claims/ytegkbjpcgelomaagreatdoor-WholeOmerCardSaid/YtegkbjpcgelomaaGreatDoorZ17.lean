/- Walks of package heb: where a month stands, whether a date may be, its day, the last day of a month, the date of a day. -/
import Derived.Test.YtegkbjpcgelomaaGreatDoorZ16
import Derived.Test.YtegkbjpcgelomaaGreatDoorZ15
set_option linter.unusedVariables false
set_option linter.unusedSimpArgs false
section
namespace Go.Proofs.YtegkbjpcgelomaaGreatDoor.Base
open Go Go.RowKit Go.Sort
/-- The mark of a block that was there, in every grown world. -/
theorem gfrozen_in {w : World} {b o : Nat} {v : Bool} (hb : b < w.heap.size) (h : w.frozen? ⟨b, o, none⟩ = v) : ∀ n os, (grow (w.drewN n) os).frozen? ⟨b, o, none⟩ = v := fun n os => ((Gr.refl w).grown n os).thaw hb h
end Go.Proofs.YtegkbjpcgelomaaGreatDoor.Base
namespace Go.Proofs.YtegkbjpcgelomaaGreatDoor.Walks
open Go Go.RowKit Go.Sort Go.Proofs.YtegkbjpcgelomaaGreatDoor.Base Go.Proofs.YtegkbjpcgelomaaGreatDoor.Plain Go.Proofs.YtegkbjpcgelomaaGreatDoor.Math

theorem knum_year {y : Int} (h0 : 1 ≤ y) (h1 : y ≤ 9999) : 0 < knum (kb y) (kk y) (lp y) := by
  obtain ⟨i, hi, e1, e2, e3⟩ := ky_in h0 h1
  have e : ∀ i : Nat, i < 14 → 0 < knum (kB i) (kK i) (kL i) := by decide +kernel
  rw [e1, e2, e3]
  exact e i hi
theorem mN_year {y : Int} (h0 : 1 ≤ y) (h1 : y ≤ 9999) : mN (kb y) (kk y) (lp y) = mct (lp y) := mN_in (knum_year h0 h1)

set_option maxHeartbeats 2000000 in
theorem find_in (y : Int) (j : Nat) (w : World) (h0 : 1 ≤ y) (h1 : y ≤ 9999) (hj : j < mct (lp y)) :
    Calls Tryq.prog 94 #[.int .i64 y, .agg #[.int .i64 (cN (lp y) j), .bool (cL (lp y) j)]] w fun e w' => e = .returned (.tuple #[.agg #[.int .i64 (kb y), .int .i64 (kk y), .bool (lp y), .int .i64 ((j : Int) + 1)], .int .i64 0]) ∧ Gr w w' := by
  have C1 := Lib.hid fun w => kof_in y w h0 h1
  have C2 := Lib.hid fun w => cplace_in (lp y) j w hj
  obtain ⟨N, hN⟩ : ∃ N, cN (lp y) j = N := ⟨_, rfl⟩
  obtain ⟨C, hC⟩ : ∃ C, cL (lp y) j = C := ⟨_, rfl⟩
  obtain ⟨l, hl⟩ : ∃ l, lp y = l := ⟨_, rfl⟩
  obtain ⟨b, hb⟩ : ∃ b, kb y = b := ⟨_, rfl⟩
  obtain ⟨k, hk⟩ : ∃ k, kk y = k := ⟨_, rfl⟩
  rw [hN, hC] at C2 ⊢
  rw [hl] at C1 C2 ⊢
  rw [hb, hk] at C1 ⊢
  clear hN hC hl hb hk hj h0 h1
  go_enter Tryq.func94, Tryq.ntmps94
  go_wp2_with (first | ((go_at_call 14; (with_reducible refine (C1.out _).mono ?_); rintro e wA ⟨rfl, hgwA⟩); have c0 := hgwA.keep (b := w.heap.size) (o := 0) (v := .int .i64 N) (by first | (simp; done) | (simp; omega)) (by simp [go_sem]); have c1 := hgwA.keep (b := w.heap.size) (o := 1) (v := .bool C) (by first | (simp; done) | (simp; omega)) (by simp [go_sem]); have r0 := hgwA.keep (b := w.heap.size + 1) (o := 0) (v := .int .i64 0) (by first | (simp; done) | (simp; omega)) (by simp [go_sem]); have r1 := hgwA.keep (b := w.heap.size + 1) (o := 1) (v := .int .i64 0) (by first | (simp; done) | (simp; omega)) (by simp [go_sem]); have r2 := hgwA.keep (b := w.heap.size + 1) (o := 2) (v := .bool false) (by first | (simp; done) | (simp; omega)) (by simp [go_sem]); have r3 := hgwA.keep (b := w.heap.size + 1) (o := 3) (v := .int .i64 0) (by first | (simp; done) | (simp; omega)) (by simp [go_sem]); have rf0 := hgwA.thaw (b := w.heap.size + 1) (o := 0) (v := false) (by first | (simp; done) | (simp; omega)) (by simp [go_sem]); have rf1 := hgwA.thaw (b := w.heap.size + 1) (o := 1) (v := false) (by first | (simp; done) | (simp; omega)) (by simp [go_sem]); have rf2 := hgwA.thaw (b := w.heap.size + 1) (o := 2) (v := false) (by first | (simp; done) | (simp; omega)) (by simp [go_sem]); have rf3 := hgwA.thaw (b := w.heap.size + 1) (o := 3) (v := false) (by first | (simp; done) | (simp; omega)) (by simp [go_sem]); have hl1 := hgwA.lt (b := w.heap.size + 1) (by simp); have hl0 : w.heap.size < wA.heap.size := (by omega); have GA : Gr w wA := (by repeat (first | exact Gr.refl _ | refine Gr.setCell ?_ _ _ (by first | exact Nat.le_refl _ | (simp; omega) | (simp; done)) | refine Gr.grown ?_ _ _ | refine Gr.drewN ?_ _ | refine Gr.drew ?_ | refine Gr.alloc ?_ _ | refine Gr.grow ?_ _ | (refine Gr.trans ?_ (by assumption)))); clear hgwA) | ((go_at_call 95; (with_reducible refine (C2.out _).mono ?_); rintro e wB ⟨rfl, hgwB⟩); have GAB : Gr wA wB := ((by repeat (first | exact Gr.refl _ | refine Gr.setCell ?_ _ _ (by first | exact Nat.le_refl _ | (simp; omega) | (simp; done)) | refine Gr.grown ?_ _ _ | refine Gr.drewN ?_ _ | refine Gr.drew ?_ | refine Gr.alloc ?_ _ | refine Gr.grow ?_ _ | (refine Gr.trans ?_ (by assumption))))); have s0 := GAB.keep hl1 r0; have s1 := GAB.keep hl1 r1; have s2 := GAB.keep hl1 r2; have s3 := GAB.keep hl1 r3; have sf0 := GAB.thaw hl1 rf0; have sf1 := GAB.thaw hl1 rf1; have sf2 := GAB.thaw hl1 rf2; have sf3 := GAB.thaw hl1 rf3; have k0 := hgwB.keep (b := wA.heap.size) (o := 0) (v := .int .i64 b) (by first | (simp; done) | (simp; omega)) (by simp [go_sem]); have k1 := hgwB.keep (b := wA.heap.size) (o := 1) (v := .int .i64 k) (by first | (simp; done) | (simp; omega)) (by simp [go_sem]); have k2 := hgwB.keep (b := wA.heap.size) (o := 2) (v := .bool l) (by first | (simp; done) | (simp; omega)) (by simp [go_sem]); have GB : Gr w wB := GA.trans GAB; clear GAB hgwB))
  exact bodyPost_ret (v := .tuple #[.agg #[.int .i64 b, .int .i64 k, .bool l, .int .i64 ((j : Int) + 1)], .int .i64 0]) (by simp [results, Tryz.results94, go_sem, *]) rfl ⟨rfl, (by repeat (first | exact Gr.refl _ | refine Gr.setCell ?_ _ _ (by first | exact Nat.le_refl _ | (simp; omega) | (simp; done)) | refine Gr.grown ?_ _ _ | refine Gr.drewN ?_ _ | refine Gr.drew ?_ | refine Gr.alloc ?_ _ | refine Gr.grow ?_ _ | (refine Gr.trans ?_ (by assumption))))⟩
set_option maxHeartbeats 2000000 in
theorem find_y (y n : Int) (c : Bool) (w : World) (h : y < 1 ∨ 9999 < y) :
    Calls Tryq.prog 94 #[.int .i64 y, .agg #[.int .i64 n, .bool c]] w fun e w' => e = .returned (.tuple #[.agg #[.int .i64 0, .int .i64 0, .bool false, .int .i64 0], .int .i64 2]) ∧ Gr w w' := by
  have C1 := Lib.hid fun w => kof_out y w h
  clear h
  go_enter Tryq.func94, Tryq.ntmps94
  go_wp2_with (first | ((go_at_call 14; (with_reducible refine (C1.out _).mono ?_); rintro e wA ⟨rfl, hgwA⟩); have r0 := hgwA.keep (b := w.heap.size + 1) (o := 0) (v := .int .i64 0) (by first | (simp; done) | (simp; omega)) (by simp [go_sem]); have r1 := hgwA.keep (b := w.heap.size + 1) (o := 1) (v := .int .i64 0) (by first | (simp; done) | (simp; omega)) (by simp [go_sem]); have r2 := hgwA.keep (b := w.heap.size + 1) (o := 2) (v := .bool false) (by first | (simp; done) | (simp; omega)) (by simp [go_sem]); have r3 := hgwA.keep (b := w.heap.size + 1) (o := 3) (v := .int .i64 0) (by first | (simp; done) | (simp; omega)) (by simp [go_sem]); have rf0 := hgwA.thaw (b := w.heap.size + 1) (o := 0) (v := false) (by first | (simp; done) | (simp; omega)) (by simp [go_sem]); have rf1 := hgwA.thaw (b := w.heap.size + 1) (o := 1) (v := false) (by first | (simp; done) | (simp; omega)) (by simp [go_sem]); have rf2 := hgwA.thaw (b := w.heap.size + 1) (o := 2) (v := false) (by first | (simp; done) | (simp; omega)) (by simp [go_sem]); have rf3 := hgwA.thaw (b := w.heap.size + 1) (o := 3) (v := false) (by first | (simp; done) | (simp; omega)) (by simp [go_sem]); have hl1 := hgwA.lt (b := w.heap.size + 1) (by simp); have hl0 : w.heap.size < wA.heap.size := (by omega); have GA : Gr w wA := (by repeat (first | exact Gr.refl _ | refine Gr.setCell ?_ _ _ (by first | exact Nat.le_refl _ | (simp; omega) | (simp; done)) | refine Gr.grown ?_ _ _ | refine Gr.drewN ?_ _ | refine Gr.drew ?_ | refine Gr.alloc ?_ _ | refine Gr.grow ?_ _ | (refine Gr.trans ?_ (by assumption)))); clear hgwA))
  exact bodyPost_ret (v := .tuple #[.agg #[.int .i64 0, .int .i64 0, .bool false, .int .i64 0], .int .i64 2]) (by simp [results, Tryz.results94, go_sem, *]) rfl ⟨rfl, (by repeat (first | exact Gr.refl _ | refine Gr.setCell ?_ _ _ (by first | exact Nat.le_refl _ | (simp; omega) | (simp; done)) | refine Gr.grown ?_ _ _ | refine Gr.drewN ?_ _ | refine Gr.drew ?_ | refine Gr.alloc ?_ _ | refine Gr.grow ?_ _ | (refine Gr.trans ?_ (by assumption))))⟩
set_option maxHeartbeats 2000000 in
theorem find_m (y n : Int) (c : Bool) (w : World) (h0 : 1 ≤ y) (h1 : y ≤ 9999) (h : cHas (lp y) n c = false) :
    Calls Tryq.prog 94 #[.int .i64 y, .agg #[.int .i64 n, .bool c]] w fun e w' => e = .returned (.tuple #[.agg #[.int .i64 0, .int .i64 0, .bool false, .int .i64 0], .int .i64 3]) ∧ Gr w w' := by
  have C1 := Lib.hid fun w => kof_in y w h0 h1
  have C2 := Lib.hid fun w => cplace_out (lp y) n c w h
  obtain ⟨l, hl⟩ : ∃ l, lp y = l := ⟨_, rfl⟩
  rw [hl] at C1 C2
  clear hl h h0 h1
  go_enter Tryq.func94, Tryq.ntmps94
  go_wp2_with (first | ((go_at_call 14; (with_reducible refine (C1.out _).mono ?_); rintro e wA ⟨rfl, hgwA⟩); have c0 := hgwA.keep (b := w.heap.size) (o := 0) (v := .int .i64 n) (by first | (simp; done) | (simp; omega)) (by simp [go_sem]); have c1 := hgwA.keep (b := w.heap.size) (o := 1) (v := .bool c) (by first | (simp; done) | (simp; omega)) (by simp [go_sem]); have r0 := hgwA.keep (b := w.heap.size + 1) (o := 0) (v := .int .i64 0) (by first | (simp; done) | (simp; omega)) (by simp [go_sem]); have r1 := hgwA.keep (b := w.heap.size + 1) (o := 1) (v := .int .i64 0) (by first | (simp; done) | (simp; omega)) (by simp [go_sem]); have r2 := hgwA.keep (b := w.heap.size + 1) (o := 2) (v := .bool false) (by first | (simp; done) | (simp; omega)) (by simp [go_sem]); have r3 := hgwA.keep (b := w.heap.size + 1) (o := 3) (v := .int .i64 0) (by first | (simp; done) | (simp; omega)) (by simp [go_sem]); have rf0 := hgwA.thaw (b := w.heap.size + 1) (o := 0) (v := false) (by first | (simp; done) | (simp; omega)) (by simp [go_sem]); have rf1 := hgwA.thaw (b := w.heap.size + 1) (o := 1) (v := false) (by first | (simp; done) | (simp; omega)) (by simp [go_sem]); have rf2 := hgwA.thaw (b := w.heap.size + 1) (o := 2) (v := false) (by first | (simp; done) | (simp; omega)) (by simp [go_sem]); have rf3 := hgwA.thaw (b := w.heap.size + 1) (o := 3) (v := false) (by first | (simp; done) | (simp; omega)) (by simp [go_sem]); have hl1 := hgwA.lt (b := w.heap.size + 1) (by simp); have hl0 : w.heap.size < wA.heap.size := (by omega); have GA : Gr w wA := (by repeat (first | exact Gr.refl _ | refine Gr.setCell ?_ _ _ (by first | exact Nat.le_refl _ | (simp; omega) | (simp; done)) | refine Gr.grown ?_ _ _ | refine Gr.drewN ?_ _ | refine Gr.drew ?_ | refine Gr.alloc ?_ _ | refine Gr.grow ?_ _ | (refine Gr.trans ?_ (by assumption)))); clear hgwA) | ((go_at_call 95; (with_reducible refine (C2.out _).mono ?_); rintro e wB ⟨rfl, hgwB⟩); have GAB : Gr wA wB := ((by repeat (first | exact Gr.refl _ | refine Gr.setCell ?_ _ _ (by first | exact Nat.le_refl _ | (simp; omega) | (simp; done)) | refine Gr.grown ?_ _ _ | refine Gr.drewN ?_ _ | refine Gr.drew ?_ | refine Gr.alloc ?_ _ | refine Gr.grow ?_ _ | (refine Gr.trans ?_ (by assumption))))); have s0 := GAB.keep hl1 r0; have s1 := GAB.keep hl1 r1; have s2 := GAB.keep hl1 r2; have s3 := GAB.keep hl1 r3; have sf0 := GAB.thaw hl1 rf0; have sf1 := GAB.thaw hl1 rf1; have sf2 := GAB.thaw hl1 rf2; have sf3 := GAB.thaw hl1 rf3; have GB : Gr w wB := GA.trans GAB; clear GAB hgwB))
  exact bodyPost_ret (v := .tuple #[.agg #[.int .i64 0, .int .i64 0, .bool false, .int .i64 0], .int .i64 3]) (by simp [results, Tryz.results94, go_sem, *]) rfl ⟨rfl, (by repeat (first | exact Gr.refl _ | refine Gr.setCell ?_ _ _ (by first | exact Nat.le_refl _ | (simp; omega) | (simp; done)) | refine Gr.grown ?_ _ _ | refine Gr.drewN ?_ _ | refine Gr.drew ?_ | refine Gr.alloc ?_ _ | refine Gr.grow ?_ _ | (refine Gr.trans ?_ (by assumption))))⟩

set_option maxHeartbeats 4000000 in
theorem look_in (y : Int) (j : Nat) (d : Int) (w : World) (G : GT w) (h : HV y j d) :
    Calls Tryq.prog 55 #[.agg #[.int .i64 y, .int .i64 (cN (lp y) j), .bool (cL (lp y) j), .int .i64 d]] w fun e w' => e = .returned (.tuple #[.agg #[.int .i64 (kb y), .int .i64 (kk y), .bool (lp y), .int .i64 ((j : Int) + 1)], .int .i64 0]) ∧ Gr w w' := by
  have C1 := Lib.hid fun w => find_in y j w h.y0 h.y1 h.j1
  have C2 := Lib.hid fun W (hW : Gr w W) => mdays_in (kb y) (kk y) (lp y) j W (G.gr hW) (by rw [mN_year h.y0 h.y1]; exact h.j1)
  have d0 := h.d0
  have d1 := h.d1
  obtain ⟨N, hN⟩ : ∃ N, cN (lp y) j = N := ⟨_, rfl⟩
  obtain ⟨C, hC⟩ : ∃ C, cL (lp y) j = C := ⟨_, rfl⟩
  obtain ⟨l, hl⟩ : ∃ l, lp y = l := ⟨_, rfl⟩
  obtain ⟨b, hb⟩ : ∃ b, kb y = b := ⟨_, rfl⟩
  obtain ⟨k, hk⟩ : ∃ k, kk y = k := ⟨_, rfl⟩
  rw [hN, hC, hl, hb, hk] at C1
  rw [hl, hb, hk] at C2
  rw [hl, hk] at d1
  rw [hN, hC, hl, hb, hk]
  clear hN hC hl hb hk h G
  go_enter Tryq.func55, Tryq.ntmps55
  go_wp2_with (first | ((go_at_call 94; (with_reducible refine (C1.out _).mono ?_); rintro e wA ⟨rfl, hgwA⟩); have c0 := hgwA.keep (b := w.heap.size) (o := 0) (v := .int .i64 y) (by first | (simp; done) | (simp; omega)) (by simp [go_sem]); have c1 := hgwA.keep (b := w.heap.size) (o := 1) (v := .int .i64 N) (by first | (simp; done) | (simp; omega)) (by simp [go_sem]); have c2 := hgwA.keep (b := w.heap.size) (o := 2) (v := .bool C) (by first | (simp; done) | (simp; omega)) (by simp [go_sem]); have c3 := hgwA.keep (b := w.heap.size) (o := 3) (v := .int .i64 d) (by first | (simp; done) | (simp; omega)) (by simp [go_sem]); have r0 := hgwA.keep (b := w.heap.size + 1) (o := 0) (v := .int .i64 0) (by first | (simp; done) | (simp; omega)) (by simp [go_sem]); have r1 := hgwA.keep (b := w.heap.size + 1) (o := 1) (v := .int .i64 0) (by first | (simp; done) | (simp; omega)) (by simp [go_sem]); have r2 := hgwA.keep (b := w.heap.size + 1) (o := 2) (v := .bool false) (by first | (simp; done) | (simp; omega)) (by simp [go_sem]); have r3 := hgwA.keep (b := w.heap.size + 1) (o := 3) (v := .int .i64 0) (by first | (simp; done) | (simp; omega)) (by simp [go_sem]); have rf0 := hgwA.thaw (b := w.heap.size + 1) (o := 0) (v := false) (by first | (simp; done) | (simp; omega)) (by simp [go_sem]); have rf1 := hgwA.thaw (b := w.heap.size + 1) (o := 1) (v := false) (by first | (simp; done) | (simp; omega)) (by simp [go_sem]); have rf2 := hgwA.thaw (b := w.heap.size + 1) (o := 2) (v := false) (by first | (simp; done) | (simp; omega)) (by simp [go_sem]); have rf3 := hgwA.thaw (b := w.heap.size + 1) (o := 3) (v := false) (by first | (simp; done) | (simp; omega)) (by simp [go_sem]); have hl1 := hgwA.lt (b := w.heap.size + 1) (by simp); have hl0 : w.heap.size < wA.heap.size := (by omega); have GA : Gr w wA := (by repeat (first | exact Gr.refl _ | refine Gr.setCell ?_ _ _ (by first | exact Nat.le_refl _ | (simp; omega) | (simp; done)) | refine Gr.grown ?_ _ _ | refine Gr.drewN ?_ _ | refine Gr.drew ?_ | refine Gr.alloc ?_ _ | refine Gr.grow ?_ _ | (refine Gr.trans ?_ (by assumption)))); clear hgwA))
  obtain ⟨W5, hW5⟩ : ∃ W5, W5 = wA.alloc (.cells #[.int .i64 b, .int .i64 k, .bool l, .int .i64 ((j : Int) + 1)] 98) := ⟨_, rfl⟩
  rw [← hW5]
  have G5 : Gr wA W5 := by rw [hW5]; exact (by repeat (first | exact Gr.refl _ | refine Gr.setCell ?_ _ _ (by first | exact Nat.le_refl _ | (simp; omega) | (simp; done)) | refine Gr.grown ?_ _ _ | refine Gr.drewN ?_ _ | refine Gr.drew ?_ | refine Gr.alloc ?_ _ | refine Gr.grow ?_ _ | (refine Gr.trans ?_ (by assumption))))
  have l5 : wA.heap.size < W5.heap.size := by rw [hW5]; simp
  have k0 := gcell_in (b := wA.heap.size) (o := 0) (v := .int .i64 b) l5 (by rw [hW5]; simp [go_sem])
  have k1 := gcell_in (b := wA.heap.size) (o := 1) (v := .int .i64 k) l5 (by rw [hW5]; simp [go_sem])
  have k2 := gcell_in (b := wA.heap.size) (o := 2) (v := .bool l) l5 (by rw [hW5]; simp [go_sem])
  have k3 := gcell_in (b := wA.heap.size) (o := 3) (v := .int .i64 ((j : Int) + 1)) l5 (by rw [hW5]; simp [go_sem])
  have e0 := G5.keep hl0 c0; have e1 := G5.keep hl0 c1; have e2 := G5.keep hl0 c2; have e3 := G5.keep hl0 c3
  have s0 := G5.keep hl1 r0; have s1 := G5.keep hl1 r1; have s2 := G5.keep hl1 r2; have s3 := G5.keep hl1 r3; have sf0 := G5.thaw hl1 rf0; have sf1 := G5.thaw hl1 rf1; have sf2 := G5.thaw hl1 rf2; have sf3 := G5.thaw hl1 rf3
  have x0 := gcell_in (G5.lt hl0) e0; have x1 := gcell_in (G5.lt hl0) e1; have x2 := gcell_in (G5.lt hl0) e2; have x3 := gcell_in (G5.lt hl0) e3
  have y0 := gcell_in (G5.lt hl1) s0; have y1 := gcell_in (G5.lt hl1) s1; have y2 := gcell_in (G5.lt hl1) s2; have y3 := gcell_in (G5.lt hl1) s3; have yf0 := gfrozen_in (G5.lt hl1) sf0; have yf1 := gfrozen_in (G5.lt hl1) sf1; have yf2 := gfrozen_in (G5.lt hl1) sf2; have yf3 := gfrozen_in (G5.lt hl1) sf3
  have GW : Gr w W5 := GA.trans G5
  clear hW5 G5 l5 hl0 hl1 GA c0 c1 c2 c3 r0 r1 r2 r3 rf0 rf1 rf2 rf3 e0 e1 e2 e3 s0 s1 s2 s3 sf0 sf1 sf2 sf3
  (refine wp_region_quiet_grown mixed (by kernel_rfl) ?_; (repeat (first | go_big_quiet_step ((first | (go_at_call 21; exact gr_of (C2.out _ ((by repeat (first | exact Gr.refl _ | refine Gr.setCell ?_ _ _ (by first | exact Nat.le_refl _ | (simp; omega) | (simp; done)) | refine Gr.grown ?_ _ _ | refine Gr.drewN ?_ _ | refine Gr.drew ?_ | refine Gr.alloc ?_ _ | refine Gr.grow ?_ _ | (refine Gr.trans ?_ (by assumption))))))))) | quiet_step ((first | (go_at_call 21; exact gr_of (C2.out _ ((by repeat (first | exact Gr.refl _ | refine Gr.setCell ?_ _ _ (by first | exact Nat.le_refl _ | (simp; omega) | (simp; done)) | refine Gr.grown ?_ _ _ | refine Gr.drewN ?_ _ | refine Gr.drew ?_ | refine Gr.alloc ?_ _ | refine Gr.grow ?_ _ | (refine Gr.trans ?_ (by assumption))))))))))); refine wpQuiet_nil ?_; intro _ hw'; obtain ⟨⟨nq, osq⟩, hw''⟩ := hw'; subst hw'')
  go_wp2
  exact bodyPost_ret (v := .tuple #[.agg #[.int .i64 b, .int .i64 k, .bool l, .int .i64 ((j : Int) + 1)], .int .i64 0]) (by simp [results, Tryz.results55, go_sem, *]) rfl ⟨rfl, (by repeat (first | exact Gr.refl _ | refine Gr.setCell ?_ _ _ (by first | exact Nat.le_refl _ | (simp; omega) | (simp; done)) | refine Gr.grown ?_ _ _ | refine Gr.drewN ?_ _ | refine Gr.drew ?_ | refine Gr.alloc ?_ _ | refine Gr.grow ?_ _ | (refine Gr.trans ?_ (by assumption))))⟩
set_option maxHeartbeats 4000000 in
theorem look_d (y : Int) (j : Nat) (d : Int) (w : World) (G : GT w) (h0 : 1 ≤ y) (h1 : y ≤ 9999) (hj : j < mct (lp y)) (hd : d < 1 ∨ mlen (kk y) (lp y) j < d) :
    Calls Tryq.prog 55 #[.agg #[.int .i64 y, .int .i64 (cN (lp y) j), .bool (cL (lp y) j), .int .i64 d]] w fun e w' => e = .returned (.tuple #[.agg #[.int .i64 0, .int .i64 0, .bool false, .int .i64 0], .int .i64 4]) ∧ Gr w w' := by
  have C1 := Lib.hid fun w => find_in y j w h0 h1 hj
  have C2 := Lib.hid fun W (hW : Gr w W) => mdays_in (kb y) (kk y) (lp y) j W (G.gr hW) (by rw [mN_year h0 h1]; exact hj)
  obtain ⟨N, hN⟩ : ∃ N, cN (lp y) j = N := ⟨_, rfl⟩
  obtain ⟨C, hC⟩ : ∃ C, cL (lp y) j = C := ⟨_, rfl⟩
  obtain ⟨l, hl⟩ : ∃ l, lp y = l := ⟨_, rfl⟩
  obtain ⟨b, hb⟩ : ∃ b, kb y = b := ⟨_, rfl⟩
  obtain ⟨k, hk⟩ : ∃ k, kk y = k := ⟨_, rfl⟩
  rw [hN, hC, hl, hb, hk] at C1
  rw [hl, hb, hk] at C2
  rw [hl, hk] at hd
  rw [hN, hC]
  clear hN hC hl hb hk h0 h1 hj G
  by_cases g : d < 1
  all_goals (
    try (have g2 : 1 ≤ d := by omega)
    try (have g3 : mlen k l j < d := by omega)
    clear hd
    go_enter Tryq.func55, Tryq.ntmps55
    go_wp2_with (first | ((go_at_call 94; (with_reducible refine (C1.out _).mono ?_); rintro e wA ⟨rfl, hgwA⟩); have c0 := hgwA.keep (b := w.heap.size) (o := 0) (v := .int .i64 y) (by first | (simp; done) | (simp; omega)) (by simp [go_sem]); have c1 := hgwA.keep (b := w.heap.size) (o := 1) (v := .int .i64 N) (by first | (simp; done) | (simp; omega)) (by simp [go_sem]); have c2 := hgwA.keep (b := w.heap.size) (o := 2) (v := .bool C) (by first | (simp; done) | (simp; omega)) (by simp [go_sem]); have c3 := hgwA.keep (b := w.heap.size) (o := 3) (v := .int .i64 d) (by first | (simp; done) | (simp; omega)) (by simp [go_sem]); have r0 := hgwA.keep (b := w.heap.size + 1) (o := 0) (v := .int .i64 0) (by first | (simp; done) | (simp; omega)) (by simp [go_sem]); have r1 := hgwA.keep (b := w.heap.size + 1) (o := 1) (v := .int .i64 0) (by first | (simp; done) | (simp; omega)) (by simp [go_sem]); have r2 := hgwA.keep (b := w.heap.size + 1) (o := 2) (v := .bool false) (by first | (simp; done) | (simp; omega)) (by simp [go_sem]); have r3 := hgwA.keep (b := w.heap.size + 1) (o := 3) (v := .int .i64 0) (by first | (simp; done) | (simp; omega)) (by simp [go_sem]); have rf0 := hgwA.thaw (b := w.heap.size + 1) (o := 0) (v := false) (by first | (simp; done) | (simp; omega)) (by simp [go_sem]); have rf1 := hgwA.thaw (b := w.heap.size + 1) (o := 1) (v := false) (by first | (simp; done) | (simp; omega)) (by simp [go_sem]); have rf2 := hgwA.thaw (b := w.heap.size + 1) (o := 2) (v := false) (by first | (simp; done) | (simp; omega)) (by simp [go_sem]); have rf3 := hgwA.thaw (b := w.heap.size + 1) (o := 3) (v := false) (by first | (simp; done) | (simp; omega)) (by simp [go_sem]); have hl1 := hgwA.lt (b := w.heap.size + 1) (by simp); have hl0 : w.heap.size < wA.heap.size := (by omega); have GA : Gr w wA := (by repeat (first | exact Gr.refl _ | refine Gr.setCell ?_ _ _ (by first | exact Nat.le_refl _ | (simp; omega) | (simp; done)) | refine Gr.grown ?_ _ _ | refine Gr.drewN ?_ _ | refine Gr.drew ?_ | refine Gr.alloc ?_ _ | refine Gr.grow ?_ _ | (refine Gr.trans ?_ (by assumption)))); clear hgwA))
    obtain ⟨W5, hW5⟩ : ∃ W5, W5 = wA.alloc (.cells #[.int .i64 b, .int .i64 k, .bool l, .int .i64 ((j : Int) + 1)] 98) := ⟨_, rfl⟩
    rw [← hW5]
    have G5 : Gr wA W5 := by rw [hW5]; exact (by repeat (first | exact Gr.refl _ | refine Gr.setCell ?_ _ _ (by first | exact Nat.le_refl _ | (simp; omega) | (simp; done)) | refine Gr.grown ?_ _ _ | refine Gr.drewN ?_ _ | refine Gr.drew ?_ | refine Gr.alloc ?_ _ | refine Gr.grow ?_ _ | (refine Gr.trans ?_ (by assumption))))
    have l5 : wA.heap.size < W5.heap.size := by rw [hW5]; simp
    have k0 := gcell_in (b := wA.heap.size) (o := 0) (v := .int .i64 b) l5 (by rw [hW5]; simp [go_sem])
    have k1 := gcell_in (b := wA.heap.size) (o := 1) (v := .int .i64 k) l5 (by rw [hW5]; simp [go_sem])
    have k2 := gcell_in (b := wA.heap.size) (o := 2) (v := .bool l) l5 (by rw [hW5]; simp [go_sem])
    have k3 := gcell_in (b := wA.heap.size) (o := 3) (v := .int .i64 ((j : Int) + 1)) l5 (by rw [hW5]; simp [go_sem])
    have e0 := G5.keep hl0 c0; have e1 := G5.keep hl0 c1; have e2 := G5.keep hl0 c2; have e3 := G5.keep hl0 c3
    have s0 := G5.keep hl1 r0; have s1 := G5.keep hl1 r1; have s2 := G5.keep hl1 r2; have s3 := G5.keep hl1 r3; have sf0 := G5.thaw hl1 rf0; have sf1 := G5.thaw hl1 rf1; have sf2 := G5.thaw hl1 rf2; have sf3 := G5.thaw hl1 rf3
    have x0 := gcell_in (G5.lt hl0) e0; have x1 := gcell_in (G5.lt hl0) e1; have x2 := gcell_in (G5.lt hl0) e2; have x3 := gcell_in (G5.lt hl0) e3
    have y0 := gcell_in (G5.lt hl1) s0; have y1 := gcell_in (G5.lt hl1) s1; have y2 := gcell_in (G5.lt hl1) s2; have y3 := gcell_in (G5.lt hl1) s3; have yf0 := gfrozen_in (G5.lt hl1) sf0; have yf1 := gfrozen_in (G5.lt hl1) sf1; have yf2 := gfrozen_in (G5.lt hl1) sf2; have yf3 := gfrozen_in (G5.lt hl1) sf3
    have GW : Gr w W5 := GA.trans G5
    clear hW5 G5 l5 hl0 hl1 GA c0 c1 c2 c3 r0 r1 r2 r3 rf0 rf1 rf2 rf3 e0 e1 e2 e3 s0 s1 s2 s3 sf0 sf1 sf2 sf3
    (refine wp_region_quiet_grown mixed (by kernel_rfl) ?_; (repeat (first | go_big_quiet_step ((first | (go_at_call 21; exact gr_of (C2.out _ ((by repeat (first | exact Gr.refl _ | refine Gr.setCell ?_ _ _ (by first | exact Nat.le_refl _ | (simp; omega) | (simp; done)) | refine Gr.grown ?_ _ _ | refine Gr.drewN ?_ _ | refine Gr.drew ?_ | refine Gr.alloc ?_ _ | refine Gr.grow ?_ _ | (refine Gr.trans ?_ (by assumption))))))))) | quiet_step ((first | (go_at_call 21; exact gr_of (C2.out _ ((by repeat (first | exact Gr.refl _ | refine Gr.setCell ?_ _ _ (by first | exact Nat.le_refl _ | (simp; omega) | (simp; done)) | refine Gr.grown ?_ _ _ | refine Gr.drewN ?_ _ | refine Gr.drew ?_ | refine Gr.alloc ?_ _ | refine Gr.grow ?_ _ | (refine Gr.trans ?_ (by assumption))))))))))); refine wpQuiet_nil ?_; intro _ hw'; obtain ⟨⟨nq, osq⟩, hw''⟩ := hw'; subst hw'')
    go_wp2
    exact bodyPost_ret (v := .tuple #[.agg #[.int .i64 0, .int .i64 0, .bool false, .int .i64 0], .int .i64 4]) (by simp [results, Tryz.results55, go_sem, *]) rfl ⟨rfl, (by repeat (first | exact Gr.refl _ | refine Gr.setCell ?_ _ _ (by first | exact Nat.le_refl _ | (simp; omega) | (simp; done)) | refine Gr.grown ?_ _ _ | refine Gr.drewN ?_ _ | refine Gr.drew ?_ | refine Gr.alloc ?_ _ | refine Gr.grow ?_ _ | (refine Gr.trans ?_ (by assumption))))⟩)
set_option maxHeartbeats 2000000 in
/-- The month being none: the error is find's. -/
theorem look_e (y n d E : Int) (c : Bool) (w : World) (hE : E ≠ 0) (h : ∀ w, Calls Tryq.prog 94 #[.int .i64 y, .agg #[.int .i64 n, .bool c]] w fun e w' => e = .returned (.tuple #[.agg #[.int .i64 0, .int .i64 0, .bool false, .int .i64 0], .int .i64 E]) ∧ Gr w w') :
    Calls Tryq.prog 55 #[.agg #[.int .i64 y, .int .i64 n, .bool c, .int .i64 d]] w fun e w' => e = .returned (.tuple #[.agg #[.int .i64 0, .int .i64 0, .bool false, .int .i64 0], .int .i64 E]) ∧ Gr w w' := by
  have C1 := Lib.hid h
  have q : (E == 0) = false := beq_eq_false_iff_ne.2 hE
  clear h hE
  go_enter Tryq.func55, Tryq.ntmps55
  go_wp2_with (first | ((go_at_call 94; (with_reducible refine (C1.out _).mono ?_); rintro e wA ⟨rfl, hgwA⟩); have r0 := hgwA.keep (b := w.heap.size + 1) (o := 0) (v := .int .i64 0) (by first | (simp; done) | (simp; omega)) (by simp [go_sem]); have r1 := hgwA.keep (b := w.heap.size + 1) (o := 1) (v := .int .i64 0) (by first | (simp; done) | (simp; omega)) (by simp [go_sem]); have r2 := hgwA.keep (b := w.heap.size + 1) (o := 2) (v := .bool false) (by first | (simp; done) | (simp; omega)) (by simp [go_sem]); have r3 := hgwA.keep (b := w.heap.size + 1) (o := 3) (v := .int .i64 0) (by first | (simp; done) | (simp; omega)) (by simp [go_sem]); have rf0 := hgwA.thaw (b := w.heap.size + 1) (o := 0) (v := false) (by first | (simp; done) | (simp; omega)) (by simp [go_sem]); have rf1 := hgwA.thaw (b := w.heap.size + 1) (o := 1) (v := false) (by first | (simp; done) | (simp; omega)) (by simp [go_sem]); have rf2 := hgwA.thaw (b := w.heap.size + 1) (o := 2) (v := false) (by first | (simp; done) | (simp; omega)) (by simp [go_sem]); have rf3 := hgwA.thaw (b := w.heap.size + 1) (o := 3) (v := false) (by first | (simp; done) | (simp; omega)) (by simp [go_sem]); have hl1 := hgwA.lt (b := w.heap.size + 1) (by simp); have hl0 : w.heap.size < wA.heap.size := (by omega); have GA : Gr w wA := (by repeat (first | exact Gr.refl _ | refine Gr.setCell ?_ _ _ (by first | exact Nat.le_refl _ | (simp; omega) | (simp; done)) | refine Gr.grown ?_ _ _ | refine Gr.drewN ?_ _ | refine Gr.drew ?_ | refine Gr.alloc ?_ _ | refine Gr.grow ?_ _ | (refine Gr.trans ?_ (by assumption)))); clear hgwA))
  exact bodyPost_ret (v := .tuple #[.agg #[.int .i64 0, .int .i64 0, .bool false, .int .i64 0], .int .i64 E]) (by simp [results, Tryz.results55, go_sem, *]) rfl ⟨rfl, (by repeat (first | exact Gr.refl _ | refine Gr.setCell ?_ _ _ (by first | exact Nat.le_refl _ | (simp; omega) | (simp; done)) | refine Gr.grown ?_ _ _ | refine Gr.drewN ?_ _ | refine Gr.drew ?_ | refine Gr.alloc ?_ _ | refine Gr.grow ?_ _ | (refine Gr.trans ?_ (by assumption))))⟩

end Go.Proofs.YtegkbjpcgelomaaGreatDoor.Walks
end
/- Walks of package heb: whether a date may be, its day, the last day of a month, the date of a day, and which date stands ahead. -/
section
namespace Go.Proofs.YtegkbjpcgelomaaGreatDoor.Walks
open Go Go.RowKit Go.Sort Go.Proofs.YtegkbjpcgelomaaGreatDoor.Base Go.Proofs.YtegkbjpcgelomaaGreatDoor.Plain Go.Proofs.YtegkbjpcgelomaaGreatDoor.Math

set_option maxHeartbeats 1000000 in
theorem hcheck_of (y n d E p0 p1 p3 : Int) (c p2 : Bool) (w : World) (h : ∀ W, Gr w W → Calls Tryq.prog 55 #[.agg #[.int .i64 y, .int .i64 n, .bool c, .int .i64 d]] W fun e w' => e = .returned (.tuple #[.agg #[.int .i64 p0, .int .i64 p1, .bool p2, .int .i64 p3], .int .i64 E]) ∧ Gr W w') :
    Calls Tryq.prog 27 #[.agg #[.int .i64 y, .int .i64 n, .bool c, .int .i64 d]] w fun e w' => e = .returned (.int .i64 E) ∧ Gr w w' := by
  have C1 := Lib.hid h
  clear h
  go_enter Tryq.func27, Tryq.ntmps27
  go_wp2_with (first | (go_at_call 55; (with_reducible refine (C1.out _ ((by repeat (first | exact Gr.refl _ | refine Gr.setCell ?_ _ _ (by first | exact Nat.le_refl _ | (simp; omega) | (simp; done)) | refine Gr.grown ?_ _ _ | refine Gr.drewN ?_ _ | refine Gr.drew ?_ | refine Gr.alloc ?_ _ | refine Gr.grow ?_ _ | (refine Gr.trans ?_ (by assumption)))))).mono ?_); rintro e wA ⟨rfl, hgwA⟩; obtain ⟨hclwA, hfzwA, hszwA⟩ := gcell hgwA; (try simp [Nat.add_one_le_iff] at hszwA); have hlwA_w : w.heap.size < wA.heap.size := (by omega)))
  go_ret
  exact ⟨rfl, (by repeat (first | exact Gr.refl _ | refine Gr.setCell ?_ _ _ (by first | exact Nat.le_refl _ | (simp; omega) | (simp; done)) | refine Gr.grown ?_ _ _ | refine Gr.drewN ?_ _ | refine Gr.drew ?_ | refine Gr.alloc ?_ _ | refine Gr.grow ?_ _ | (refine Gr.trans ?_ (by assumption))))⟩
theorem hcheck_in (y : Int) (j : Nat) (d : Int) (w : World) (G : GT w) (h : HV y j d) :
    Calls Tryq.prog 27 #[.agg #[.int .i64 y, .int .i64 (cN (lp y) j), .bool (cL (lp y) j), .int .i64 d]] w fun e w' => e = .returned (.int .i64 0) ∧ Gr w w' :=
  hcheck_of _ _ _ _ _ _ _ _ _ w fun W hW => look_in y j d W (G.gr hW) h
set_option maxHeartbeats 1000000 in
theorem hlast_in (y : Int) (j : Nat) (w : World) (G : GT w) (h0 : 1 ≤ y) (h1 : y ≤ 9999) (hj : j < mct (lp y)) :
    Calls Tryq.prog 97 #[.int .i64 y, .agg #[.int .i64 (cN (lp y) j), .bool (cL (lp y) j)]] w fun e w' => e = .returned (.tuple #[.int .i64 (mlen (kk y) (lp y) j), .int .i64 0]) ∧ Gr w w' := by
  have C1 := Lib.hid fun w => find_in y j w h0 h1 hj
  have C2 := Lib.hid fun W (hW : Gr w W) => mdays_in (kb y) (kk y) (lp y) j W (G.gr hW) (by rw [mN_year h0 h1]; exact hj)
  obtain ⟨N, hN⟩ : ∃ N, cN (lp y) j = N := ⟨_, rfl⟩
  obtain ⟨C, hC⟩ : ∃ C, cL (lp y) j = C := ⟨_, rfl⟩
  obtain ⟨l, hl⟩ : ∃ l, lp y = l := ⟨_, rfl⟩
  obtain ⟨b, hb⟩ : ∃ b, kb y = b := ⟨_, rfl⟩
  obtain ⟨k, hk⟩ : ∃ k, kk y = k := ⟨_, rfl⟩
  rw [hN, hC, hl, hb, hk] at C1
  rw [hl, hb, hk] at C2
  rw [hN, hC, hl, hk]
  clear hN hC hl hb hk h0 h1 hj G
  go_enter Tryq.func97, Tryq.ntmps97
  go_wp2_with (first | (go_at_call 94; (with_reducible refine (C1.out _).mono ?_); rintro e wA ⟨rfl, hgwA⟩; obtain ⟨hclwA, hfzwA, hszwA⟩ := gcell hgwA; (try simp [Nat.add_one_le_iff] at hszwA); have hlwA_w : w.heap.size < wA.heap.size := (by omega)) | (go_at_call 21; (with_reducible refine (C2.out _ ((by repeat (first | exact Gr.refl _ | refine Gr.setCell ?_ _ _ (by first | exact Nat.le_refl _ | (simp; omega) | (simp; done)) | refine Gr.grown ?_ _ _ | refine Gr.drewN ?_ _ | refine Gr.drew ?_ | refine Gr.alloc ?_ _ | refine Gr.grow ?_ _ | (refine Gr.trans ?_ (by assumption)))))).mono ?_); rintro e wB ⟨rfl, hgwB⟩; obtain ⟨hclwB, hfzwB, hszwB⟩ := gcell hgwB; (try simp [Nat.add_one_le_iff] at hszwB); have hlwB_w : w.heap.size < wB.heap.size := (by omega)))
  go_ret2
  exact ⟨rfl, (by repeat (first | exact Gr.refl _ | refine Gr.setCell ?_ _ _ (by first | exact Nat.le_refl _ | (simp; omega) | (simp; done)) | refine Gr.grown ?_ _ _ | refine Gr.drewN ?_ _ | refine Gr.drew ?_ | refine Gr.alloc ?_ _ | refine Gr.grow ?_ _ | (refine Gr.trans ?_ (by assumption))))⟩
set_option maxHeartbeats 4000000 in
theorem htoday_in (y : Int) (j : Nat) (d : Int) (w : World) (G : GT w) (h : HV y j d) :
    Calls Tryq.prog 24 #[.agg #[.int .i64 y, .int .i64 (cN (lp y) j), .bool (cL (lp y) j), .int .i64 d]] w fun e w' => e = .returned (.tuple #[.int .i64 (hd y j d), .int .i64 0]) ∧ Gr w w' := by
  have hy0 := h.y0
  have hy1 := h.y1
  have C1 := Lib.hid fun W (hW : Gr w W) => look_in y j d W (G.gr hW) h
  have C2 := Lib.hid fun W (hW : Gr w W) => mahead_in (kb y) (kk y) (lp y) j W (G.gr hW) (by rw [mN_year h.y0 h.y1]; exact h.j1)
  have C3 := Lib.hid fun w => first_in y w (by omega) (by omega)
  have rA := fy_range (y := y) (by omega) (by omega)
  have rM := mah_range (kk y) (lp y) j
  have HD : RowKit.Hid (fy y + mah (kk y) (lp y) j + d - 1 = hd y j d) := Lib.hid rfl
  have d0 := h.d0
  have d1 : d ≤ 30 := by have := h.d1; have := mlen_range (kk y) (lp y) j; omega
  have hj := h.j1
  have m13 := mct_le (lp y)
  obtain ⟨R, hR⟩ : ∃ R, hd y j d = R := ⟨_, rfl⟩
  obtain ⟨N, hN⟩ : ∃ N, cN (lp y) j = N := ⟨_, rfl⟩
  obtain ⟨C, hC⟩ : ∃ C, cL (lp y) j = C := ⟨_, rfl⟩
  obtain ⟨S, hS⟩ : ∃ S, mah (kk y) (lp y) j = S := ⟨_, rfl⟩
  obtain ⟨l, hl⟩ : ∃ l, lp y = l := ⟨_, rfl⟩
  obtain ⟨b, hb⟩ : ∃ b, kb y = b := ⟨_, rfl⟩
  obtain ⟨k, hk⟩ : ∃ k, kk y = k := ⟨_, rfl⟩
  obtain ⟨A, hA⟩ : ∃ A, fy y = A := ⟨_, rfl⟩
  rw [hN, hC, hl, hb, hk] at C1
  rw [hS, hl, hb, hk] at C2
  rw [hA] at C3 rA
  rw [hS] at rM
  rw [hA, hS, hR] at HD
  rw [hN, hC, hR]
  obtain ⟨a0, a1⟩ := rA
  obtain ⟨s0, s1⟩ := rM
  have s2 : S ≤ 400 := by omega
  have s3 : 0 ≤ S := by omega
  clear hR hN hC hS hl hb hk hA h G m13 s0 s1 hj hy0 hy1
  go_enter Tryq.func24, Tryq.ntmps24
  go_wp2_with (first | ((go_at_call 55; (with_reducible refine (C1.out _ ((by repeat (first | exact Gr.refl _ | refine Gr.setCell ?_ _ _ (by first | exact Nat.le_refl _ | (simp; omega) | (simp; done)) | refine Gr.grown ?_ _ _ | refine Gr.drewN ?_ _ | refine Gr.drew ?_ | refine Gr.alloc ?_ _ | refine Gr.grow ?_ _ | (refine Gr.trans ?_ (by assumption)))))).mono ?_); rintro e wA ⟨rfl, hgwA⟩; obtain ⟨hclwA, hfzwA, hszwA⟩ := gcell hgwA; (try simp [Nat.add_one_le_iff] at hszwA); have hlwA_w : w.heap.size < wA.heap.size := (by omega)); have c0 := hgwA.keep (b := w.heap.size) (o := 0) (v := .int .i64 y) (by first | (simp; done) | (simp; omega)) (by simp [go_sem]); have c1 := hgwA.keep (b := w.heap.size) (o := 1) (v := .int .i64 N) (by first | (simp; done) | (simp; omega)) (by simp [go_sem]); have c2 := hgwA.keep (b := w.heap.size) (o := 2) (v := .bool C) (by first | (simp; done) | (simp; omega)) (by simp [go_sem]); have c3 := hgwA.keep (b := w.heap.size) (o := 3) (v := .int .i64 d) (by first | (simp; done) | (simp; omega)) (by simp [go_sem])) | (go_at_call 15; (with_reducible refine (C3.out _).mono ?_); rintro e wB ⟨rfl, hgwB⟩; obtain ⟨hclwB, hfzwB, hszwB⟩ := gcell hgwB; (try simp [Nat.add_one_le_iff] at hszwB); have hlwB_w : w.heap.size < wB.heap.size := (by omega); have hlwB_wA : wA.heap.size < wB.heap.size := (by omega)))
  have GAB : Gr (wA.alloc (.cells #[.int .i64 b, .int .i64 k, .bool l, .int .i64 ((j : Int) + 1)] 98)) wB := hgwB
  have k0 := GAB.keep (b := wA.heap.size) (o := 0) (v := .int .i64 b) (by first | (simp; done) | (simp; omega)) (by simp [go_sem]); have k1 := GAB.keep (b := wA.heap.size) (o := 1) (v := .int .i64 k) (by first | (simp; done) | (simp; omega)) (by simp [go_sem]); have k2 := GAB.keep (b := wA.heap.size) (o := 2) (v := .bool l) (by first | (simp; done) | (simp; omega)) (by simp [go_sem]); have k3 := GAB.keep (b := wA.heap.size) (o := 3) (v := .int .i64 ((j : Int) + 1)) (by first | (simp; done) | (simp; omega)) (by simp [go_sem])
  have G1 : Gr wA wB := (by repeat (first | exact Gr.refl _ | refine Gr.setCell ?_ _ _ (by first | exact Nat.le_refl _ | (simp; omega) | (simp; done)) | refine Gr.grown ?_ _ _ | refine Gr.drewN ?_ _ | refine Gr.drew ?_ | refine Gr.alloc ?_ _ | refine Gr.grow ?_ _ | (refine Gr.trans ?_ (by assumption))))
  have e0 := G1.keep hlwA_w c0; have e1 := G1.keep hlwA_w c1; have e2 := G1.keep hlwA_w c2; have e3 := G1.keep hlwA_w c3
  have x0 := gcell_in hlwB_w e0; have x1 := gcell_in hlwB_w e1; have x2 := gcell_in hlwB_w e2; have x3 := gcell_in hlwB_w e3
  have z0 := gcell_in hlwB_wA k0; have z1 := gcell_in hlwB_wA k1; have z2 := gcell_in hlwB_wA k2; have z3 := gcell_in hlwB_wA k3
  have GW : Gr w wB := (by repeat (first | exact Gr.refl _ | refine Gr.setCell ?_ _ _ (by first | exact Nat.le_refl _ | (simp; omega) | (simp; done)) | refine Gr.grown ?_ _ _ | refine Gr.drewN ?_ _ | refine Gr.drew ?_ | refine Gr.alloc ?_ _ | refine Gr.grow ?_ _ | (refine Gr.trans ?_ (by assumption))))
  clear GAB G1 hclwA hfzwA hszwA hclwB hfzwB hszwB hgwA hgwB c0 c1 c2 c3 k0 k1 k2 k3 e0 e1 e2 e3
  (refine wp_region_quiet_grown mixed (by kernel_rfl) ?_; (repeat (first | go_big_quiet_step ((first | (go_at_call 56; exact gr_of (C2.out _ ((by repeat (first | exact Gr.refl _ | refine Gr.setCell ?_ _ _ (by first | exact Nat.le_refl _ | (simp; omega) | (simp; done)) | refine Gr.grown ?_ _ _ | refine Gr.drewN ?_ _ | refine Gr.drew ?_ | refine Gr.alloc ?_ _ | refine Gr.grow ?_ _ | (refine Gr.trans ?_ (by assumption))))))))) | quiet_step ((first | (go_at_call 56; exact gr_of (C2.out _ ((by repeat (first | exact Gr.refl _ | refine Gr.setCell ?_ _ _ (by first | exact Nat.le_refl _ | (simp; omega) | (simp; done)) | refine Gr.grown ?_ _ _ | refine Gr.drewN ?_ _ | refine Gr.drew ?_ | refine Gr.alloc ?_ _ | refine Gr.grow ?_ _ | (refine Gr.trans ?_ (by assumption))))))))))); refine wpQuiet_nil ?_; intro _ hw'; obtain ⟨⟨nq, osq⟩, hw''⟩ := hw'; subst hw'')
  go_wp2
  go_ret2
  exact ⟨ret2 HD.out rfl, (by repeat (first | exact Gr.refl _ | refine Gr.setCell ?_ _ _ (by first | exact Nat.le_refl _ | (simp; omega) | (simp; done)) | refine Gr.grown ?_ _ _ | refine Gr.drewN ?_ _ | refine Gr.drew ?_ | refine Gr.alloc ?_ _ | refine Gr.grow ?_ _ | (refine Gr.trans ?_ (by assumption))))⟩
theorem htoday_e (y n d E : Int) (c : Bool) (w : World) (hE : E ≠ 0) (h : ∀ W, Gr w W → Calls Tryq.prog 55 #[.agg #[.int .i64 y, .int .i64 n, .bool c, .int .i64 d]] W fun e w' => e = .returned (.tuple #[.agg #[.int .i64 0, .int .i64 0, .bool false, .int .i64 0], .int .i64 E]) ∧ Gr W w') :
    Calls Tryq.prog 24 #[.agg #[.int .i64 y, .int .i64 n, .bool c, .int .i64 d]] w fun e w' => e = .returned (.tuple #[.int .i64 0, .int .i64 E]) ∧ Gr w w' := by
  have C1 := Lib.hid h
  have q : (E == 0) = false := beq_eq_false_iff_ne.2 hE
  clear h hE
  go_enter Tryq.func24, Tryq.ntmps24
  go_wp2_with (first | (go_at_call 55; (with_reducible refine (C1.out _ ((by repeat (first | exact Gr.refl _ | refine Gr.setCell ?_ _ _ (by first | exact Nat.le_refl _ | (simp; omega) | (simp; done)) | refine Gr.grown ?_ _ _ | refine Gr.drewN ?_ _ | refine Gr.drew ?_ | refine Gr.alloc ?_ _ | refine Gr.grow ?_ _ | (refine Gr.trans ?_ (by assumption)))))).mono ?_); rintro e wA ⟨rfl, hgwA⟩; obtain ⟨hclwA, hfzwA, hszwA⟩ := gcell hgwA; (try simp [Nat.add_one_le_iff] at hszwA); have hlwA_w : w.heap.size < wA.heap.size := (by omega)))
  go_ret2
  exact ⟨rfl, (by repeat (first | exact Gr.refl _ | refine Gr.setCell ?_ _ _ (by first | exact Nat.le_refl _ | (simp; omega) | (simp; done)) | refine Gr.grown ?_ _ _ | refine Gr.drewN ?_ _ | refine Gr.drew ?_ | refine Gr.alloc ?_ _ | refine Gr.grow ?_ _ | (refine Gr.trans ?_ (by assumption))))⟩

theorem mfind_w (b kd : Int) (l : Bool) (j : Nat) (r y : Int) (w : World) (G : GT w) (hj : j < mN b kd l) (h0 : mah kd l j < r) (h1 : r ≤ mah kd l (j + 1)) (hy : r - mah kd l j = y) :
    Calls Tryq.prog 49 #[.agg #[.int .i64 b, .int .i64 kd, .bool l], .int .i64 r] w fun e w' => e = .returned (.tuple #[.int .i64 ((j : Int) + 1), .int .i64 y, .bool true]) ∧ Gr w w' := by
  subst hy
  exact mfind_in b kd l j r w G hj h0 h1
set_option maxHeartbeats 4000000 in
theorem hfrom_in (y : Int) (j : Nat) (d n : Int) (w : World) (G : GT w) (h : HV y j d) (hn : hd y j d = n) :
    Calls Tryq.prog 22 #[.int .i64 n] w fun e w' => e = .returned (.tuple #[.agg #[.int .i64 y, .int .i64 (cN (lp y) j), .bool (cL (lp y) j), .int .i64 d], .int .i64 0]) ∧ Gr w w' := by
  have hy0 := h.y0
  have hy1 := h.y1
  have hr := hd_range h
  have hi := hd_in h
  rw [hn] at hr hi
  obtain ⟨n0, n1⟩ := hr
  have C0 := Lib.hid fun W => year_c n y W h.y0 h.y1 hi.1 hi.2
  have C1 := Lib.hid fun W => kof_in y W h.y0 h.y1
  have C2 := Lib.hid fun w => first_in y w (by omega) (by omega)
  have er : n - fy y + 1 = mah (kk y) (lp y) j + d := by rw [← hn]; unfold hd; omega
  have C3 : RowKit.Hid (∀ W, Gr w W → Calls Tryq.prog 49 #[.agg #[.int .i64 (kb y), .int .i64 (kk y), .bool (lp y)], .int .i64 (n - fy y + 1)] W fun e w' => e = .returned (.tuple #[.int .i64 ((j : Int) + 1), .int .i64 d, .bool true]) ∧ Gr W w') := Lib.hid fun W hW =>
    mfind_w _ _ _ j _ _ W (G.gr hW) (by rw [mN_year h.y0 h.y1]; exact h.j1) (by have := h.d0; omega) (by have := h.d1; simp only [mah]; omega) (by omega)
  have C4 := Lib.hid fun w => cof_in (lp y) j w h.j1
  have rA := fy_range (y := y) (by omega) (by omega)
  obtain ⟨N, hN⟩ : ∃ N, cN (lp y) j = N := ⟨_, rfl⟩
  obtain ⟨C, hC⟩ : ∃ C, cL (lp y) j = C := ⟨_, rfl⟩
  obtain ⟨l, hl⟩ : ∃ l, lp y = l := ⟨_, rfl⟩
  obtain ⟨b, hb⟩ : ∃ b, kb y = b := ⟨_, rfl⟩
  obtain ⟨k, hk⟩ : ∃ k, kk y = k := ⟨_, rfl⟩
  obtain ⟨A, hA⟩ : ∃ A, fy y = A := ⟨_, rfl⟩
  rw [hl, hb, hk] at C1
  rw [hA] at C2 rA
  rw [hl, hb, hk, hA] at C3
  rw [hN, hC, hl] at C4
  rw [hN, hC]
  obtain ⟨a0, a1⟩ := rA
  clear hN hC hl hb hk hA h G er hi hn hy0 hy1
  go_enter Tryq.func22, Tryq.ntmps22
  go_wp2_with (first | ((go_at_call 48; (with_reducible refine (C0.out _).mono ?_); rintro e wA ⟨rfl, hgwA⟩); have r0 := hgwA.keep (b := w.heap.size) (o := 0) (v := .int .i64 0) (by first | (simp; done) | (simp; omega)) (by simp [go_sem]); have r1 := hgwA.keep (b := w.heap.size) (o := 1) (v := .int .i64 0) (by first | (simp; done) | (simp; omega)) (by simp [go_sem]); have r2 := hgwA.keep (b := w.heap.size) (o := 2) (v := .bool false) (by first | (simp; done) | (simp; omega)) (by simp [go_sem]); have r3 := hgwA.keep (b := w.heap.size) (o := 3) (v := .int .i64 0) (by first | (simp; done) | (simp; omega)) (by simp [go_sem]); have rf0 := hgwA.thaw (b := w.heap.size) (o := 0) (v := false) (by first | (simp; done) | (simp; omega)) (by simp [go_sem]); have rf1 := hgwA.thaw (b := w.heap.size) (o := 1) (v := false) (by first | (simp; done) | (simp; omega)) (by simp [go_sem]); have rf2 := hgwA.thaw (b := w.heap.size) (o := 2) (v := false) (by first | (simp; done) | (simp; omega)) (by simp [go_sem]); have rf3 := hgwA.thaw (b := w.heap.size) (o := 3) (v := false) (by first | (simp; done) | (simp; omega)) (by simp [go_sem]); have hlA := hgwA.lt (b := w.heap.size) (by simp); have GA : Gr w wA := ((by repeat (first | exact Gr.refl _ | refine Gr.setCell ?_ _ _ (by first | exact Nat.le_refl _ | (simp; omega) | (simp; done)) | refine Gr.grown ?_ _ _ | refine Gr.drewN ?_ _ | refine Gr.drew ?_ | refine Gr.alloc ?_ _ | refine Gr.grow ?_ _ | (refine Gr.trans ?_ (by assumption))))); clear hgwA) | ((go_at_call 14; (with_reducible refine (C1.out _).mono ?_); rintro e wB ⟨rfl, hgwB⟩); have GAB : Gr wA wB := (by assumption); have s0 := GAB.keep hlA r0; have s1 := GAB.keep hlA r1; have s2 := GAB.keep hlA r2; have s3 := GAB.keep hlA r3; have sf0 := GAB.thaw hlA rf0; have sf1 := GAB.thaw hlA rf1; have sf2 := GAB.thaw hlA rf2; have sf3 := GAB.thaw hlA rf3; have hlB := GAB.lt hlA; have GB : Gr w wB := GA.trans GAB; clear hgwB r0 r1 r2 r3 rf0 rf1 rf2 rf3) | ((go_at_call 15; (with_reducible refine (C2.out _).mono ?_); rintro e wC ⟨rfl, hgwC⟩); have GBC : Gr wB wC := ((by repeat (first | exact Gr.refl _ | refine Gr.setCell ?_ _ _ (by first | exact Nat.le_refl _ | (simp; omega) | (simp; done)) | refine Gr.grown ?_ _ _ | refine Gr.drewN ?_ _ | refine Gr.drew ?_ | refine Gr.alloc ?_ _ | refine Gr.grow ?_ _ | (refine Gr.trans ?_ (by assumption))))); have t0 := GBC.keep hlB s0; have t1 := GBC.keep hlB s1; have t2 := GBC.keep hlB s2; have t3 := GBC.keep hlB s3; have tf0 := GBC.thaw hlB sf0; have tf1 := GBC.thaw hlB sf1; have tf2 := GBC.thaw hlB sf2; have tf3 := GBC.thaw hlB sf3; have hlC := GBC.lt hlB; have k0 := hgwC.keep (b := wB.heap.size) (o := 0) (v := .int .i64 b) (by first | (simp; done) | (simp; omega)) (by simp [go_sem]); have k1 := hgwC.keep (b := wB.heap.size) (o := 1) (v := .int .i64 k) (by first | (simp; done) | (simp; omega)) (by simp [go_sem]); have k2 := hgwC.keep (b := wB.heap.size) (o := 2) (v := .bool l) (by first | (simp; done) | (simp; omega)) (by simp [go_sem]); have hkC := hgwC.lt (b := wB.heap.size) (by simp); have GC : Gr w wC := GB.trans GBC; clear hgwC s0 s1 s2 s3 sf0 sf1 sf2 sf3) | ((go_at_call 49; (with_reducible refine (C3.out _ GC).mono ?_); rintro e wD ⟨rfl, hgwD⟩); have GCD : Gr wC wD := (by assumption); have u0 := GCD.keep hlC t0; have u1 := GCD.keep hlC t1; have u2 := GCD.keep hlC t2; have u3 := GCD.keep hlC t3; have uf0 := GCD.thaw hlC tf0; have uf1 := GCD.thaw hlC tf1; have uf2 := GCD.thaw hlC tf2; have uf3 := GCD.thaw hlC tf3; have hlD := GCD.lt hlC; have m0 := GCD.keep hkC k0; have m1 := GCD.keep hkC k1; have m2 := GCD.keep hkC k2; have hkD := GCD.lt hkC; have GD : Gr w wD := GC.trans GCD; clear hgwD t0 t1 t2 t3 tf0 tf1 tf2 tf3 k0 k1 k2) | ((go_at_call 50; (with_reducible refine (C4.out _).mono ?_); rintro e wE ⟨rfl, hgwE⟩); have GDE : Gr wD wE := (by assumption); have v0 := GDE.keep hlD u0; have v1 := GDE.keep hlD u1; have v2 := GDE.keep hlD u2; have v3 := GDE.keep hlD u3; have vf0 := GDE.thaw hlD uf0; have vf1 := GDE.thaw hlD uf1; have vf2 := GDE.thaw hlD uf2; have vf3 := GDE.thaw hlD uf3; have hlE := GDE.lt hlD; have GE : Gr w wE := GD.trans GDE; clear hgwE u0 u1 u2 u3 uf0 uf1 uf2 uf3 m0 m1 m2))
  exact bodyPost_ret (v := .tuple #[.agg #[.int .i64 y, .int .i64 N, .bool C, .int .i64 d], .int .i64 0]) (by simp [results, Tryz.results22, go_sem, *]) rfl ⟨rfl, (by repeat (first | exact Gr.refl _ | refine Gr.setCell ?_ _ _ (by first | exact Nat.le_refl _ | (simp; omega) | (simp; done)) | refine Gr.grown ?_ _ _ | refine Gr.drewN ?_ _ | refine Gr.drew ?_ | refine Gr.alloc ?_ _ | refine Gr.grow ?_ _ | (refine Gr.trans ?_ (by assumption))))⟩
set_option maxHeartbeats 1000000 in
theorem hfrom_out (n : Int) (w : World) (h : n < -1373427 ∨ 2278650 < n) :
    Calls Tryq.prog 22 #[.int .i64 n] w fun e w' => e = .returned (.tuple #[.agg #[.int .i64 0, .int .i64 0, .bool false, .int .i64 0], .int .i64 2]) ∧ Gr w w' := by
  have C0 := Lib.hid fun W => year_out n W h
  clear h
  go_enter Tryq.func22, Tryq.ntmps22
  go_wp2_with (first | ((go_at_call 48; (with_reducible refine (C0.out _).mono ?_); rintro e wA ⟨rfl, hgwA⟩); have r0 := hgwA.keep (b := w.heap.size) (o := 0) (v := .int .i64 0) (by first | (simp; done) | (simp; omega)) (by simp [go_sem]); have r1 := hgwA.keep (b := w.heap.size) (o := 1) (v := .int .i64 0) (by first | (simp; done) | (simp; omega)) (by simp [go_sem]); have r2 := hgwA.keep (b := w.heap.size) (o := 2) (v := .bool false) (by first | (simp; done) | (simp; omega)) (by simp [go_sem]); have r3 := hgwA.keep (b := w.heap.size) (o := 3) (v := .int .i64 0) (by first | (simp; done) | (simp; omega)) (by simp [go_sem]); have rf0 := hgwA.thaw (b := w.heap.size) (o := 0) (v := false) (by first | (simp; done) | (simp; omega)) (by simp [go_sem]); have rf1 := hgwA.thaw (b := w.heap.size) (o := 1) (v := false) (by first | (simp; done) | (simp; omega)) (by simp [go_sem]); have rf2 := hgwA.thaw (b := w.heap.size) (o := 2) (v := false) (by first | (simp; done) | (simp; omega)) (by simp [go_sem]); have rf3 := hgwA.thaw (b := w.heap.size) (o := 3) (v := false) (by first | (simp; done) | (simp; omega)) (by simp [go_sem]); have hlA := hgwA.lt (b := w.heap.size) (by simp); have GA : Gr w wA := ((by repeat (first | exact Gr.refl _ | refine Gr.setCell ?_ _ _ (by first | exact Nat.le_refl _ | (simp; omega) | (simp; done)) | refine Gr.grown ?_ _ _ | refine Gr.drewN ?_ _ | refine Gr.drew ?_ | refine Gr.alloc ?_ _ | refine Gr.grow ?_ _ | (refine Gr.trans ?_ (by assumption))))); clear hgwA))
  exact bodyPost_ret (v := .tuple #[.agg #[.int .i64 0, .int .i64 0, .bool false, .int .i64 0], .int .i64 2]) (by simp [results, Tryz.results22, go_sem, *]) rfl ⟨rfl, (by repeat (first | exact Gr.refl _ | refine Gr.setCell ?_ _ _ (by first | exact Nat.le_refl _ | (simp; omega) | (simp; done)) | refine Gr.grown ?_ _ _ | refine Gr.drewN ?_ _ | refine Gr.drew ?_ | refine Gr.alloc ?_ _ | refine Gr.grow ?_ _ | (refine Gr.trans ?_ (by assumption))))⟩

end Go.Proofs.YtegkbjpcgelomaaGreatDoor.Walks
end
/- Walks of package feast: its rows, which kinds rest. -/
section
namespace Go.Proofs.YtegkbjpcgelomaaGreatDoor.Walks
open Go Go.RowKit Go.Sort Go.Proofs.YtegkbjpcgelomaaGreatDoor.Base Go.Proofs.YtegkbjpcgelomaaGreatDoor.Plain Go.Proofs.YtegkbjpcgelomaaGreatDoor.Math

theorem rows1_c (n : Int) (w : World) : Calls Tryq.prog 103 #[.int .i64 n] w fun e w' => e = .returned (.agg #[.int .i64 n, .bool false]) ∧ Gr w w' := by
  go_enter Tryq.func103, Tryq.ntmps103
  go_wp2
  exact bodyPost_ret (v := .agg #[.int .i64 n, .bool false]) (by simp [results, Tryz.results103, go_sem, *]) rfl ⟨rfl, (by repeat (first | exact Gr.refl _ | refine Gr.setCell ?_ _ _ (by first | exact Nat.le_refl _ | (simp; omega) | (simp; done)) | refine Gr.grown ?_ _ _ | refine Gr.drewN ?_ _ | refine Gr.drew ?_ | refine Gr.alloc ?_ _ | refine Gr.grow ?_ _ | (refine Gr.trans ?_ (by assumption))))⟩
/-- A cell of the rows. -/
def frv (j : Nat) : Value :=
  match j % 7 with
  | 0 => .int .i64 (fK (j / 7))
  | 1 => .int .i64 (fN (j / 7))
  | 2 => .bool (fL (j / 7))
  | 3 => .int .i64 (fA (j / 7))
  | 4 => .int .i64 (fB (j / 7))
  | 5 => .int .i64 (fC (j / 7))
  | _ => .int .i64 (fD (j / 7))
def FRows (w : World) (e : Ending) (w' : World) : Prop := ∃ g, e = .returned (.slice (some ⟨g, 0, none⟩) 19 19) ∧ Row w' 7 19 g frv ∧ Gr w w'
def frV : Array Value := Array.ofFn fun j : Fin 133 => frv j.val
theorem frow_new (w : World) (vs : Array Value) (hv : vs = frV) (e : TypeId) : Row (w.alloc (.cells vs e)) 7 19 w.heap.size frv := by
  subst hv
  refine ⟨by simp, fun j hj => ?_⟩
  rw [Lib.cell_of_heap (heap_alloc_new w _)]
  have hj : j < 133 := hj
  unfold frV
  simp [hj]
set_option maxRecDepth 20000 in
set_option maxHeartbeats 8000000 in
theorem rows_c (w : World) : Calls Tryq.prog 68 #[] w (FRows w) := by
  have GG := Gr.refl w
  go_enter Tryq.func68, Tryq.ntmps68
  go_wp2_with (first | (go_at_call 103; (with_reducible refine (rows1_c _ _).mono ?_); rintro e w1 ⟨rfl, hg⟩; replace GG := Gr.trans GG hg; clear hg))
  go_ret
  exact ⟨_, rfl, frow_new w1 _ (by kernel_rfl) _, GG.alloc _⟩
end Go.Proofs.YtegkbjpcgelomaaGreatDoor.Walks
end
/- The Sabbaths and the readings of a cycle in plain numbers. No program in sight. -/
section
namespace Go.Proofs.YtegkbjpcgelomaaGreatDoor.Math
open Go Go.RowKit Go.Proofs.YtegkbjpcgelomaaGreatDoor.Plain Go.Proofs.YtegkbjpcgelomaaGreatDoor.Walks

/-- The first Saturday from a day on; the Saturdays up to another one. -/
def saF (x : Int) : Int := x + (6 - x) % 7
def saK (a b : Int) : Nat := ((b - saF a) / 7 + 1).toNat
def sats (a b : Int) : List Int := (List.range (saK a b)).map fun (k : Nat) => saF a + 7 * (k : Int)
theorem saK_lt {a b : Int} (k : Nat) : k < saK a b ↔ saF a + 7 * (k : Int) ≤ b := by
  unfold saK
  omega
theorem sats_len (a b : Int) : (sats a b).length = saK a b := by simp [sats]
/-- The day of SimchatTorah; a cycle's Sabbaths. -/
def rej (y p : Int) : Int := hd y 0 (23 - p)
def allS (y p : Int) : List Int := sats (rej y p + 1) (rej (y + 1) p)
theorem rej_hv {y p : Int} (h0 : 1 ≤ y) (h1 : y ≤ 9999) (hp : p = 0 ∨ p = 1) : HV y 0 (23 - p) :=
  ⟨h0, h1, by have := (mct_le (lp y)).1; omega, by omega, by have := mlen_range (kk y) (lp y) 0; omega⟩
theorem rej_range {y p : Int} (h0 : 1 ≤ y) (h1 : y ≤ 9999) (hp : p = 0 ∨ p = 1) : -1373427 ≤ rej y p ∧ rej y p ≤ 2278650 := hd_range (rej_hv h0 h1 hp)
theorem rej_step {y p : Int} (h0 : 1 ≤ y) (h1 : y ≤ 9998) (hp : p = 0 ∨ p = 1) : rej y p + 353 ≤ rej (y + 1) p ∧ rej (y + 1) p ≤ rej y p + 385 := by
  obtain ⟨a, b, c⟩ := kk_leap (y := y) h0 (by omega)
  have k := kln_mah (y := y) h0 (by omega)
  have e : fy (y + 1) - fy y = kln y := rfl
  unfold rej hd
  simp only [mah]
  cases hl : lp y <;> simp only [hl, Bool.false_eq_true, if_false, if_true] at a <;> omega
theorem allS_pos {y p : Int} (h0 : 1 ≤ y) (h1 : y ≤ 9998) (hp : p = 0 ∨ p = 1) : 0 < (allS y p).length ∧ (allS y p).length ≤ 60 := by
  have := rej_step h0 h1 hp
  unfold allS
  rw [sats_len]
  have a := (saK_lt (a := rej y p + 1) (b := rej (y + 1) p) 0)
  have b := (saK_lt (a := rej y p + 1) (b := rej (y + 1) p) 60)
  unfold saF at a b
  omega
/-- Which kinds rest. -/
def fRest (k : Int) : Bool := k == 1 || k == 3 || k == 4 || k == 5 || k == 6 || k == 7 || k == 8 || k == 17 || k == 18 || k == 25
/-- Is a day one on which no portion is read? -/
def rstL (L : List (Int × Int)) (n : Int) : Bool := L.any fun e => fRest e.1 && e.2 == n
def rst (y p n : Int) : Bool := rstL (evs y p) n || rstL (evs (y + 1) p) n
theorem rstL_perm {L M : List (Int × Int)} (h : L.Perm M) (n : Int) : rstL L n = rstL M n := by
  unfold rstL
  rw [Bool.eq_iff_iff, List.any_eq_true, List.any_eq_true]
  exact ⟨fun ⟨e, a, b⟩ => ⟨e, h.mem_iff.1 a, b⟩, fun ⟨e, a, b⟩ => ⟨e, h.mem_iff.2 a, b⟩⟩
def freeS (y p : Int) : List Int := (allS y p).filter fun n => !rst y p n
/-- The day of a code's number, in a year. -/
def dJ (l : Bool) (n : Int) : Nat := if l = true ∧ 6 ≤ n then n.toNat else n.toNat - 1
def dyn (y n d : Int) : Int := hd y (dJ (lp y) n) d
theorem dJ_ok : ∀ l : Bool, ∀ n : Nat, n < 12 → dJ l ((n : Int) + 1) < mct l ∧ cN l (dJ l ((n : Int) + 1)) = (n : Int) + 1 ∧ cL l (dJ l ((n : Int) + 1)) = false := by decide
theorem dJ_in (l : Bool) {n : Int} (h0 : 1 ≤ n) (h1 : n ≤ 12) : dJ l n < mct l ∧ cN l (dJ l n) = n ∧ cL l (dJ l n) = false := by
  have := dJ_ok l (n.toNat - 1) (by omega)
  rwa [show (((n.toNat - 1 : Nat) : Int)) + 1 = n by omega] at this
theorem dyn_hv {y n d : Int} (h0 : 1 ≤ y) (h1 : y ≤ 9999) (n0 : 1 ≤ n) (n1 : n ≤ 12) (d0 : 1 ≤ d) (d1 : d ≤ 29) : HV y (dJ (lp y) n) d :=
  ⟨h0, h1, (dJ_in _ n0 n1).1, d0, by have := mlen_range (kk y) (lp y) (dJ (lp y) n); omega⟩
/-- The part of a cycle in which a day is. -/
def prt (y n : Int) : Int :=
  1 + (if dyn y 7 15 ≤ n then 1 else 0) + (if dyn y 9 6 ≤ n then 1 else 0) + (if dyn y 11 10 ≤ n then 1 else 0) + (if dyn (y + 1) 1 1 ≤ n then 1 else 0)
theorem prt_range (y n : Int) : 1 ≤ prt y n ∧ prt y n ≤ 5 := by
  unfold prt
  repeat' split
  all_goals omega
end Go.Proofs.YtegkbjpcgelomaaGreatDoor.Math
end
/- Walks of package feast: which kinds rest; a row's month; the comparison. -/
section
namespace Go.Proofs.YtegkbjpcgelomaaGreatDoor.Walks
open Go Go.RowKit Go.Sort Go.Proofs.YtegkbjpcgelomaaGreatDoor.Base Go.Proofs.YtegkbjpcgelomaaGreatDoor.Plain Go.Proofs.YtegkbjpcgelomaaGreatDoor.Math

set_option maxHeartbeats 4000000 in
theorem rest_c (k : Int) (w : World) : Calls Tryq.prog 158 #[.int .i64 k] w fun e w' => e = .returned (.bool (fRest k)) ∧ w' = w := by
  have hR : RowKit.Hid (fRest k = fRest k) := Lib.hid rfl
  unfold fRest at hR ⊢
  by_cases h1 : k = 1
  · subst h1; go_enter Tryq.func158, Tryq.ntmps158; go_wp2; go_ret; exact ⟨rfl, rfl⟩
  by_cases h3 : k = 3
  · subst h3; go_enter Tryq.func158, Tryq.ntmps158; go_wp2; go_ret; exact ⟨rfl, rfl⟩
  by_cases h4 : k = 4
  · subst h4; go_enter Tryq.func158, Tryq.ntmps158; go_wp2; go_ret; exact ⟨rfl, rfl⟩
  by_cases h5 : k = 5
  · subst h5; go_enter Tryq.func158, Tryq.ntmps158; go_wp2; go_ret; exact ⟨rfl, rfl⟩
  by_cases h6 : k = 6
  · subst h6; go_enter Tryq.func158, Tryq.ntmps158; go_wp2; go_ret; exact ⟨rfl, rfl⟩
  by_cases h7 : k = 7
  · subst h7; go_enter Tryq.func158, Tryq.ntmps158; go_wp2; go_ret; exact ⟨rfl, rfl⟩
  by_cases h8 : k = 8
  · subst h8; go_enter Tryq.func158, Tryq.ntmps158; go_wp2; go_ret; exact ⟨rfl, rfl⟩
  by_cases h17 : k = 17
  · subst h17; go_enter Tryq.func158, Tryq.ntmps158; go_wp2; go_ret; exact ⟨rfl, rfl⟩
  by_cases h18 : k = 18
  · subst h18; go_enter Tryq.func158, Tryq.ntmps158; go_wp2; go_ret; exact ⟨rfl, rfl⟩
  by_cases h25 : k = 25
  · subst h25; go_enter Tryq.func158, Tryq.ntmps158; go_wp2; go_ret; exact ⟨rfl, rfl⟩
  have b1 : (k == 1) = false := beq_eq_false_iff_ne.2 h1
  have b3 : (k == 3) = false := beq_eq_false_iff_ne.2 h3
  have b4 : (k == 4) = false := beq_eq_false_iff_ne.2 h4
  have b5 : (k == 5) = false := beq_eq_false_iff_ne.2 h5
  have b6 : (k == 6) = false := beq_eq_false_iff_ne.2 h6
  have b7 : (k == 7) = false := beq_eq_false_iff_ne.2 h7
  have b8 : (k == 8) = false := beq_eq_false_iff_ne.2 h8
  have b17 : (k == 17) = false := beq_eq_false_iff_ne.2 h17
  have b18 : (k == 18) = false := beq_eq_false_iff_ne.2 h18
  have b25 : (k == 25) = false := beq_eq_false_iff_ne.2 h25
  clear h1 h3 h4 h5 h6 h7 h8 h17 h18 h25
  go_enter Tryq.func158, Tryq.ntmps158
  go_wp2
  go_ret
  exact ⟨by simp [b1, b3, b4, b5, b6, b7, b8, b17, b18, b25], rfl⟩

/-- The first day of a row's month: what ToDay tells. -/
theorem htoday_row (y : Int) (i : Nat) (w : World) (G : GT w) (h0 : 1 ≤ y) (h1 : y ≤ 9999) (hi : i < 19) :
    Calls Tryq.prog 24 #[.agg #[.int .i64 y, .int .i64 (fN i), .bool (fL i), .int .i64 1]] w fun e w' => e = .returned (.tuple #[.int .i64 (fdy y i), .int .i64 (fer y i)]) ∧ Gr w w' := by
  unfold fdy fer
  cases hh : fH (lp y) i with
  | true =>
    obtain ⟨a, b, c⟩ := fJ_ok (lp y) i hi hh
    have hm := mlen_range (kk y) (lp y) (fJ (lp y) i)
    have := htoday_in y (fJ (lp y) i) 1 w G ⟨h0, h1, a, by omega, by omega⟩
    rw [b, c] at this
    simpa using this
  | false =>
    have hn := fH_no (lp y) i hi hh
    exact htoday_e y (fN i) 1 3 (fL i) w (by decide) fun W hW => look_e y (fN i) 1 3 (fL i) W (by decide) fun w => find_m y (fN i) (fL i) w h0 h1 hn
/-- The comparison of two events. -/
def evc (x y : Int × Int) : Int := if x.2 < y.2 then -1 else if y.2 < x.2 then 1 else if x.1 < y.1 then -1 else if y.1 < x.1 then 1 else 0
def cmpI (x y : Int) : Int := if x < y then -1 else if y < x then 1 else 0
set_option maxHeartbeats 1000000 in
theorem isnan_c (x : Int) (w : World) : Calls Tryq.prog 122 #[.int .i64 x] w fun e w' => e = .returned (.bool false) ∧ w' = w := by
  go_enter Tryq.func122, Tryq.ntmps122
  go_wp2
  go_ret
  exact ⟨by simp, rfl⟩
set_option maxHeartbeats 1000000 in
theorem compare_c (x y : Int) (w : World) : Calls Tryq.prog 102 #[.int .i64 x, .int .i64 y] w fun e w' => e = .returned (.int .i64 (cmpI x y)) ∧ w' = w := by
  have C1 := Lib.hid (fun a w => isnan_c a w)
  by_cases h : x < y
  · have hc : cmpI x y = -1 := if_pos h
    rw [hc]
    clear hc
    go_enter Tryq.func102, Tryq.ntmps102
    go_wp2_with (first | (go_at_call 122; (with_reducible refine (C1.out _ _).mono ?_); rintro e w1 ⟨rfl, rfl⟩))
    go_ret
    exact ⟨rfl, rfl⟩
  · by_cases g : y < x
    · have hc : cmpI x y = 1 := by unfold cmpI; rw [if_neg h, if_pos g]
      rw [hc]
      clear hc
      go_enter Tryq.func102, Tryq.ntmps102
      go_wp2_with (first | (go_at_call 122; (with_reducible refine (C1.out _ _).mono ?_); rintro e w1 ⟨rfl, rfl⟩))
      go_ret
      exact ⟨rfl, rfl⟩
    · have hc : cmpI x y = 0 := by unfold cmpI; rw [if_neg h, if_neg g]
      rw [hc]
      clear hc
      go_enter Tryq.func102, Tryq.ntmps102
      go_wp2_with (first | (go_at_call 122; (with_reducible refine (C1.out _ _).mono ?_); rintro e w1 ⟨rfl, rfl⟩))
      go_ret
      exact ⟨rfl, rfl⟩
set_option maxHeartbeats 1000000 in
theorem or_c (x y : Int) (g : Nat) (w : World) (h0 : w.cell? ⟨g, 0, none⟩ = some (.int .i64 x)) (h1 : w.cell? ⟨g, 1, none⟩ = some (.int .i64 y)) :
    Calls Tryq.prog 101 #[.slice (some ⟨g, 0, none⟩) 2 2] w fun e w' => e = .returned (.int .i64 (if x = 0 then y else x)) ∧ w' = w := by
  by_cases hx : x = 0
  · subst hx
    rw [if_pos rfl]
    by_cases hy : y = 0
    · subst hy
      go_enter Tryq.func101, Tryq.ntmps101
      go_wp2
      refine wp_loop_rounds 3 ?_
      repeat any_goals (rw [rounds_succ]; go_wp2)
      all_goals (go_ret; exact ⟨rfl, rfl⟩)
    · have b : (y == 0) = false := beq_eq_false_iff_ne.2 hy
      have b' : (y != 0) = true := by simp [hy]
      go_enter Tryq.func101, Tryq.ntmps101
      go_wp2
      refine wp_loop_rounds 3 ?_
      repeat any_goals (rw [rounds_succ]; go_wp2)
      all_goals (go_ret; exact ⟨rfl, rfl⟩)
  · rw [if_neg hx]
    have b : (x == 0) = false := beq_eq_false_iff_ne.2 hx
    have b' : (x != 0) = true := by simp [hx]
    go_enter Tryq.func101, Tryq.ntmps101
    go_wp2
    refine wp_loop_rounds 3 ?_
    repeat any_goals (rw [rounds_succ]; go_wp2)
    all_goals (go_ret; exact ⟨rfl, rfl⟩)
end Go.Proofs.YtegkbjpcgelomaaGreatDoor.Walks
end
/- Walks of almanackerref08: the lengths of a type's months, and what comes of them. -/
section
namespace Go.Proofs.YtegkbjpcgelomaaGreatDoor.Walks
open Go Go.RowKit Go.Sort Go.Proofs.YtegkbjpcgelomaaGreatDoor.Base Go.Proofs.YtegkbjpcgelomaaGreatDoor.Plain Go.Proofs.YtegkbjpcgelomaaGreatDoor.Math

theorem ninfo_int : (Tryq.prog.info? 3).map (fun i => (i.zero, i.size, i.bytes)) = some (some (.int .i64 0), 1, 8) := by kernel_rfl
theorem nund_ints : Tryq.prog.underlying 70 = some (.slice 3) := by kernel_rfl
/-- 'append(row, ..)': a row of numbers of the call's own. -/
theorem append_ints (w : World) {ops : Array Oper} {rest : List Oper} {o : Oper} {a : Act} {Q : Exit → Act → World → Prop} (hg : o.guard = none) (s x : Operand)
    (hop : o.op = .call { callee := .builtin .append, args := #[s, x], argTypes := #[70, 70] })
    (base : Nat) (v : Value) (n : Nat) (xs : List Value) (hs : a.eval s = v) (hown : w.ownsRow base 3 1 v n xs)
    (ad : Addr) (m c : Nat) (news : List Value) (hx : a.eval x = .slice (some ad) m c) (hl : news.length = m) (hnews : ∀ j u, news[j]? = some u → w.cell? (ad.add j) = some u) (h1 : ∀ u ∈ news, u.oneCell' = true)
    (hm : 0 < m) (hsm : n + m ≤ 100000) (hbase : base ≤ w.heap.size)
    (hK : ∀ g cap w', w'.ownsRow base 3 1 (.slice (some ⟨g, 0, none⟩) (n + m) cap) (n + m) (xs ++ news) → w.grownBy w' v.ownBlock → base ≤ g → (∀ W, Gr W w → W.heap.size ≤ base → Gr W w') →
      wpList Tryq.prog ops Q rest (a.put o.dst (.slice (some ⟨g, 0, none⟩) (n + m) cap)) w') : wpList Tryq.prog ops Q (o :: rest) a w := by
  obtain ⟨i, h2, h3, h4, h5⟩ := info_parts ninfo_int
  exact wpList_append_gr w hg s x 70 hop base 3 i (.int .i64 0) 1 8 nund_ints h2 h3 h4 h5 rfl (by decide) v n xs hs hown ad m c news hx (by omega) hnews h1 hm (by simp only [maxLen]; omega) (by omega) hbase hK

end Go.Proofs.YtegkbjpcgelomaaGreatDoor.Walks
end
/- Walks of almanackerref09: the codes of a year's months; the code of a month, the month of a code. -/
section
namespace Go.Proofs.YtegkbjpcgelomaaGreatDoor.Walks
open Go Go.RowKit Go.Sort Go.Proofs.YtegkbjpcgelomaaGreatDoor.Base Go.Proofs.YtegkbjpcgelomaaGreatDoor.Plain Go.Proofs.YtegkbjpcgelomaaGreatDoor.Math

theorem news2 {w : World} {g : Nat} (hg : w.heap.size = g) (v u : Value) (t : TypeId) : ∀ j y, [v, u][j]? = some y → (w.alloc (.cells #[v, u] t)).cell? ((⟨g, 0, none⟩ : Addr).add j) = some y := by
  subst hg
  intro j y hj
  match j, hj with
  | 0, hj => simp at hj; subst hj; simp [go_sem, Addr.add]
  | 1, hj => simp at hj; subst hj; simp [go_sem, Addr.add]

end Go.Proofs.YtegkbjpcgelomaaGreatDoor.Walks
end
