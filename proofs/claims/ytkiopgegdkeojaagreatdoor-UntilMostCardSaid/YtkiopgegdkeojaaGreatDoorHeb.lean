/- Walks of package heb: where a month stands, whether a date may be, its day, the last day of a month, the date of a day. -/
import Derived.Test.YtkiopgegdkeojaaGreatDoorCode
import Derived.Test.YtkiopgegdkeojaaGreatDoorMonth4
import Derived.Test.YtkiopgegdkeojaaGreatDoorKy
set_option linter.unusedVariables false
set_option linter.unusedSimpArgs false
namespace Go.Proofs.YtkiopgegdkeojaaGreatDoor.Base
open Go Go.RowKit Go.Sort
/-- The mark of a block that was there, in every grown world. -/
theorem gfrozen_in {w : World} {b o : Nat} {v : Bool} (hb : b < w.heap.size) (h : w.frozen? ⟨b, o, none⟩ = v) : ∀ n os, (grow (w.drewN n) os).frozen? ⟨b, o, none⟩ = v := fun n os => ((Gr.refl w).grown n os).thaw hb h
end Go.Proofs.YtkiopgegdkeojaaGreatDoor.Base
namespace Go.Proofs.YtkiopgegdkeojaaGreatDoor.Walks
open Go Go.RowKit Go.Sort Go.Proofs.YtkiopgegdkeojaaGreatDoor.Base Go.Proofs.YtkiopgegdkeojaaGreatDoor.Plain Go.Proofs.YtkiopgegdkeojaaGreatDoor.Math

theorem knum_year {y : Int} (h0 : 1 ≤ y) (h1 : y ≤ 9999) : 0 < knum (kb y) (kk y) (lp y) := by
  obtain ⟨i, hi, e1, e2, e3⟩ := ky_in h0 h1
  have e : ∀ i : Nat, i < 14 → 0 < knum (kB i) (kK i) (kL i) := by decide +kernel
  rw [e1, e2, e3]
  exact e i hi
theorem mN_year {y : Int} (h0 : 1 ≤ y) (h1 : y ≤ 9999) : mN (kb y) (kk y) (lp y) = mct (lp y) := mN_in (knum_year h0 h1)

set_option maxHeartbeats 2000000 in
theorem find_in (y : Int) (j : Nat) (w : World) (h0 : 1 ≤ y) (h1 : y ≤ 9999) (hj : j < mct (lp y)) :
    Calls Tryz.prog 69 #[.int .i64 y, .agg #[.int .i64 (cN (lp y) j), .bool (cL (lp y) j)]] w fun e w' => e = .returned (.tuple #[.agg #[.int .i64 (kb y), .int .i64 (kk y), .bool (lp y), .int .i64 ((j : Int) + 1)], .int .i64 0]) ∧ Gr w w' := by
  have C1 := Lib.hid fun w => kof_in y w h0 h1
  have C2 := Lib.hid fun w => cplace_in (lp y) j w hj
  obtain ⟨N, hN⟩ : ∃ N, cN (lp y) j = N := ⟨_, rfl⟩
  obtain ⟨C, hC⟩ : ∃ C, cL (lp y) j = C := ⟨_, rfl⟩
  obtain ⟨l, hl⟩ : ∃ l, lp y = l := ⟨_, rfl⟩
  obtain ⟨b, hb⟩ : ∃ b, kb y = b := ⟨_, rfl⟩
  obtain ⟨k, hk⟩ : ∃ k, kk y = k := ⟨_, rfl⟩
  rw [hN, hC] at C2 ⊢
  rw [hl] at C1 C2 ⊢
  rw [hb, hk] at C1 ⊢
  clear hN hC hl hb hk hj h0 h1
  go_enter Tryz.func69, Tryz.ntmps69
  go_wp2_with (first | ((go_at_call 79; (with_reducible refine (C1.out _).mono ?_); rintro e wA ⟨rfl, hgwA⟩); have c0 := hgwA.keep (b := w.heap.size) (o := 0) (v := .int .i64 N) (by first | (simp; done) | (simp; omega)) (by simp [go_sem]); have c1 := hgwA.keep (b := w.heap.size) (o := 1) (v := .bool C) (by first | (simp; done) | (simp; omega)) (by simp [go_sem]); have r0 := hgwA.keep (b := w.heap.size + 1) (o := 0) (v := .int .i64 0) (by first | (simp; done) | (simp; omega)) (by simp [go_sem]); have r1 := hgwA.keep (b := w.heap.size + 1) (o := 1) (v := .int .i64 0) (by first | (simp; done) | (simp; omega)) (by simp [go_sem]); have r2 := hgwA.keep (b := w.heap.size + 1) (o := 2) (v := .bool false) (by first | (simp; done) | (simp; omega)) (by simp [go_sem]); have r3 := hgwA.keep (b := w.heap.size + 1) (o := 3) (v := .int .i64 0) (by first | (simp; done) | (simp; omega)) (by simp [go_sem]); have rf0 := hgwA.thaw (b := w.heap.size + 1) (o := 0) (v := false) (by first | (simp; done) | (simp; omega)) (by simp [go_sem]); have rf1 := hgwA.thaw (b := w.heap.size + 1) (o := 1) (v := false) (by first | (simp; done) | (simp; omega)) (by simp [go_sem]); have rf2 := hgwA.thaw (b := w.heap.size + 1) (o := 2) (v := false) (by first | (simp; done) | (simp; omega)) (by simp [go_sem]); have rf3 := hgwA.thaw (b := w.heap.size + 1) (o := 3) (v := false) (by first | (simp; done) | (simp; omega)) (by simp [go_sem]); have hl1 := hgwA.lt (b := w.heap.size + 1) (by simp); have hl0 : w.heap.size < wA.heap.size := (by omega); have GA : Gr w wA := (by repeat (first | exact Gr.refl _ | refine Gr.setCell ?_ _ _ (by first | exact Nat.le_refl _ | (simp; omega) | (simp; done)) | refine Gr.grown ?_ _ _ | refine Gr.drewN ?_ _ | refine Gr.drew ?_ | refine Gr.alloc ?_ _ | refine Gr.grow ?_ _ | (refine Gr.trans ?_ (by assumption)))); clear hgwA) | ((go_at_call 72; (with_reducible refine (C2.out _).mono ?_); rintro e wB ⟨rfl, hgwB⟩); have GAB : Gr wA wB := ((by repeat (first | exact Gr.refl _ | refine Gr.setCell ?_ _ _ (by first | exact Nat.le_refl _ | (simp; omega) | (simp; done)) | refine Gr.grown ?_ _ _ | refine Gr.drewN ?_ _ | refine Gr.drew ?_ | refine Gr.alloc ?_ _ | refine Gr.grow ?_ _ | (refine Gr.trans ?_ (by assumption))))); have s0 := GAB.keep hl1 r0; have s1 := GAB.keep hl1 r1; have s2 := GAB.keep hl1 r2; have s3 := GAB.keep hl1 r3; have sf0 := GAB.thaw hl1 rf0; have sf1 := GAB.thaw hl1 rf1; have sf2 := GAB.thaw hl1 rf2; have sf3 := GAB.thaw hl1 rf3; have k0 := hgwB.keep (b := wA.heap.size) (o := 0) (v := .int .i64 b) (by first | (simp; done) | (simp; omega)) (by simp [go_sem]); have k1 := hgwB.keep (b := wA.heap.size) (o := 1) (v := .int .i64 k) (by first | (simp; done) | (simp; omega)) (by simp [go_sem]); have k2 := hgwB.keep (b := wA.heap.size) (o := 2) (v := .bool l) (by first | (simp; done) | (simp; omega)) (by simp [go_sem]); have GB : Gr w wB := GA.trans GAB; clear GAB hgwB))
  exact bodyPost_ret (v := .tuple #[.agg #[.int .i64 b, .int .i64 k, .bool l, .int .i64 ((j : Int) + 1)], .int .i64 0]) (by simp [results, Tryz.results69, go_sem, *]) rfl ⟨rfl, (by repeat (first | exact Gr.refl _ | refine Gr.setCell ?_ _ _ (by first | exact Nat.le_refl _ | (simp; omega) | (simp; done)) | refine Gr.grown ?_ _ _ | refine Gr.drewN ?_ _ | refine Gr.drew ?_ | refine Gr.alloc ?_ _ | refine Gr.grow ?_ _ | (refine Gr.trans ?_ (by assumption))))⟩
set_option maxHeartbeats 2000000 in
theorem find_y (y n : Int) (c : Bool) (w : World) (h : y < 1 ∨ 9999 < y) :
    Calls Tryz.prog 69 #[.int .i64 y, .agg #[.int .i64 n, .bool c]] w fun e w' => e = .returned (.tuple #[.agg #[.int .i64 0, .int .i64 0, .bool false, .int .i64 0], .int .i64 2]) ∧ Gr w w' := by
  have C1 := Lib.hid fun w => kof_out y w h
  clear h
  go_enter Tryz.func69, Tryz.ntmps69
  go_wp2_with (first | ((go_at_call 79; (with_reducible refine (C1.out _).mono ?_); rintro e wA ⟨rfl, hgwA⟩); have r0 := hgwA.keep (b := w.heap.size + 1) (o := 0) (v := .int .i64 0) (by first | (simp; done) | (simp; omega)) (by simp [go_sem]); have r1 := hgwA.keep (b := w.heap.size + 1) (o := 1) (v := .int .i64 0) (by first | (simp; done) | (simp; omega)) (by simp [go_sem]); have r2 := hgwA.keep (b := w.heap.size + 1) (o := 2) (v := .bool false) (by first | (simp; done) | (simp; omega)) (by simp [go_sem]); have r3 := hgwA.keep (b := w.heap.size + 1) (o := 3) (v := .int .i64 0) (by first | (simp; done) | (simp; omega)) (by simp [go_sem]); have rf0 := hgwA.thaw (b := w.heap.size + 1) (o := 0) (v := false) (by first | (simp; done) | (simp; omega)) (by simp [go_sem]); have rf1 := hgwA.thaw (b := w.heap.size + 1) (o := 1) (v := false) (by first | (simp; done) | (simp; omega)) (by simp [go_sem]); have rf2 := hgwA.thaw (b := w.heap.size + 1) (o := 2) (v := false) (by first | (simp; done) | (simp; omega)) (by simp [go_sem]); have rf3 := hgwA.thaw (b := w.heap.size + 1) (o := 3) (v := false) (by first | (simp; done) | (simp; omega)) (by simp [go_sem]); have hl1 := hgwA.lt (b := w.heap.size + 1) (by simp); have hl0 : w.heap.size < wA.heap.size := (by omega); have GA : Gr w wA := (by repeat (first | exact Gr.refl _ | refine Gr.setCell ?_ _ _ (by first | exact Nat.le_refl _ | (simp; omega) | (simp; done)) | refine Gr.grown ?_ _ _ | refine Gr.drewN ?_ _ | refine Gr.drew ?_ | refine Gr.alloc ?_ _ | refine Gr.grow ?_ _ | (refine Gr.trans ?_ (by assumption)))); clear hgwA))
  exact bodyPost_ret (v := .tuple #[.agg #[.int .i64 0, .int .i64 0, .bool false, .int .i64 0], .int .i64 2]) (by simp [results, Tryz.results69, go_sem, *]) rfl ⟨rfl, (by repeat (first | exact Gr.refl _ | refine Gr.setCell ?_ _ _ (by first | exact Nat.le_refl _ | (simp; omega) | (simp; done)) | refine Gr.grown ?_ _ _ | refine Gr.drewN ?_ _ | refine Gr.drew ?_ | refine Gr.alloc ?_ _ | refine Gr.grow ?_ _ | (refine Gr.trans ?_ (by assumption))))⟩
set_option maxHeartbeats 2000000 in
theorem find_m (y n : Int) (c : Bool) (w : World) (h0 : 1 ≤ y) (h1 : y ≤ 9999) (h : cHas (lp y) n c = false) :
    Calls Tryz.prog 69 #[.int .i64 y, .agg #[.int .i64 n, .bool c]] w fun e w' => e = .returned (.tuple #[.agg #[.int .i64 0, .int .i64 0, .bool false, .int .i64 0], .int .i64 3]) ∧ Gr w w' := by
  have C1 := Lib.hid fun w => kof_in y w h0 h1
  have C2 := Lib.hid fun w => cplace_out (lp y) n c w h
  obtain ⟨l, hl⟩ : ∃ l, lp y = l := ⟨_, rfl⟩
  rw [hl] at C1 C2
  clear hl h h0 h1
  go_enter Tryz.func69, Tryz.ntmps69
  go_wp2_with (first | ((go_at_call 79; (with_reducible refine (C1.out _).mono ?_); rintro e wA ⟨rfl, hgwA⟩); have c0 := hgwA.keep (b := w.heap.size) (o := 0) (v := .int .i64 n) (by first | (simp; done) | (simp; omega)) (by simp [go_sem]); have c1 := hgwA.keep (b := w.heap.size) (o := 1) (v := .bool c) (by first | (simp; done) | (simp; omega)) (by simp [go_sem]); have r0 := hgwA.keep (b := w.heap.size + 1) (o := 0) (v := .int .i64 0) (by first | (simp; done) | (simp; omega)) (by simp [go_sem]); have r1 := hgwA.keep (b := w.heap.size + 1) (o := 1) (v := .int .i64 0) (by first | (simp; done) | (simp; omega)) (by simp [go_sem]); have r2 := hgwA.keep (b := w.heap.size + 1) (o := 2) (v := .bool false) (by first | (simp; done) | (simp; omega)) (by simp [go_sem]); have r3 := hgwA.keep (b := w.heap.size + 1) (o := 3) (v := .int .i64 0) (by first | (simp; done) | (simp; omega)) (by simp [go_sem]); have rf0 := hgwA.thaw (b := w.heap.size + 1) (o := 0) (v := false) (by first | (simp; done) | (simp; omega)) (by simp [go_sem]); have rf1 := hgwA.thaw (b := w.heap.size + 1) (o := 1) (v := false) (by first | (simp; done) | (simp; omega)) (by simp [go_sem]); have rf2 := hgwA.thaw (b := w.heap.size + 1) (o := 2) (v := false) (by first | (simp; done) | (simp; omega)) (by simp [go_sem]); have rf3 := hgwA.thaw (b := w.heap.size + 1) (o := 3) (v := false) (by first | (simp; done) | (simp; omega)) (by simp [go_sem]); have hl1 := hgwA.lt (b := w.heap.size + 1) (by simp); have hl0 : w.heap.size < wA.heap.size := (by omega); have GA : Gr w wA := (by repeat (first | exact Gr.refl _ | refine Gr.setCell ?_ _ _ (by first | exact Nat.le_refl _ | (simp; omega) | (simp; done)) | refine Gr.grown ?_ _ _ | refine Gr.drewN ?_ _ | refine Gr.drew ?_ | refine Gr.alloc ?_ _ | refine Gr.grow ?_ _ | (refine Gr.trans ?_ (by assumption)))); clear hgwA) | ((go_at_call 72; (with_reducible refine (C2.out _).mono ?_); rintro e wB ⟨rfl, hgwB⟩); have GAB : Gr wA wB := ((by repeat (first | exact Gr.refl _ | refine Gr.setCell ?_ _ _ (by first | exact Nat.le_refl _ | (simp; omega) | (simp; done)) | refine Gr.grown ?_ _ _ | refine Gr.drewN ?_ _ | refine Gr.drew ?_ | refine Gr.alloc ?_ _ | refine Gr.grow ?_ _ | (refine Gr.trans ?_ (by assumption))))); have s0 := GAB.keep hl1 r0; have s1 := GAB.keep hl1 r1; have s2 := GAB.keep hl1 r2; have s3 := GAB.keep hl1 r3; have sf0 := GAB.thaw hl1 rf0; have sf1 := GAB.thaw hl1 rf1; have sf2 := GAB.thaw hl1 rf2; have sf3 := GAB.thaw hl1 rf3; have GB : Gr w wB := GA.trans GAB; clear GAB hgwB))
  exact bodyPost_ret (v := .tuple #[.agg #[.int .i64 0, .int .i64 0, .bool false, .int .i64 0], .int .i64 3]) (by simp [results, Tryz.results69, go_sem, *]) rfl ⟨rfl, (by repeat (first | exact Gr.refl _ | refine Gr.setCell ?_ _ _ (by first | exact Nat.le_refl _ | (simp; omega) | (simp; done)) | refine Gr.grown ?_ _ _ | refine Gr.drewN ?_ _ | refine Gr.drew ?_ | refine Gr.alloc ?_ _ | refine Gr.grow ?_ _ | (refine Gr.trans ?_ (by assumption))))⟩

set_option maxHeartbeats 4000000 in
theorem look_in (y : Int) (j : Nat) (d : Int) (w : World) (G : GT w) (h : HV y j d) :
    Calls Tryz.prog 40 #[.agg #[.int .i64 y, .int .i64 (cN (lp y) j), .bool (cL (lp y) j), .int .i64 d]] w fun e w' => e = .returned (.tuple #[.agg #[.int .i64 (kb y), .int .i64 (kk y), .bool (lp y), .int .i64 ((j : Int) + 1)], .int .i64 0]) ∧ Gr w w' := by
  have C1 := Lib.hid fun w => find_in y j w h.y0 h.y1 h.j1
  have C2 := Lib.hid fun W (hW : Gr w W) => mdays_in (kb y) (kk y) (lp y) j W (G.gr hW) (by rw [mN_year h.y0 h.y1]; exact h.j1)
  have d0 := h.d0
  have d1 := h.d1
  obtain ⟨N, hN⟩ : ∃ N, cN (lp y) j = N := ⟨_, rfl⟩
  obtain ⟨C, hC⟩ : ∃ C, cL (lp y) j = C := ⟨_, rfl⟩
  obtain ⟨l, hl⟩ : ∃ l, lp y = l := ⟨_, rfl⟩
  obtain ⟨b, hb⟩ : ∃ b, kb y = b := ⟨_, rfl⟩
  obtain ⟨k, hk⟩ : ∃ k, kk y = k := ⟨_, rfl⟩
  rw [hN, hC, hl, hb, hk] at C1
  rw [hl, hb, hk] at C2
  rw [hl, hk] at d1
  rw [hN, hC, hl, hb, hk]
  clear hN hC hl hb hk h G
  go_enter Tryz.func40, Tryz.ntmps40
  go_wp2_with (first | ((go_at_call 69; (with_reducible refine (C1.out _).mono ?_); rintro e wA ⟨rfl, hgwA⟩); have c0 := hgwA.keep (b := w.heap.size) (o := 0) (v := .int .i64 y) (by first | (simp; done) | (simp; omega)) (by simp [go_sem]); have c1 := hgwA.keep (b := w.heap.size) (o := 1) (v := .int .i64 N) (by first | (simp; done) | (simp; omega)) (by simp [go_sem]); have c2 := hgwA.keep (b := w.heap.size) (o := 2) (v := .bool C) (by first | (simp; done) | (simp; omega)) (by simp [go_sem]); have c3 := hgwA.keep (b := w.heap.size) (o := 3) (v := .int .i64 d) (by first | (simp; done) | (simp; omega)) (by simp [go_sem]); have r0 := hgwA.keep (b := w.heap.size + 1) (o := 0) (v := .int .i64 0) (by first | (simp; done) | (simp; omega)) (by simp [go_sem]); have r1 := hgwA.keep (b := w.heap.size + 1) (o := 1) (v := .int .i64 0) (by first | (simp; done) | (simp; omega)) (by simp [go_sem]); have r2 := hgwA.keep (b := w.heap.size + 1) (o := 2) (v := .bool false) (by first | (simp; done) | (simp; omega)) (by simp [go_sem]); have r3 := hgwA.keep (b := w.heap.size + 1) (o := 3) (v := .int .i64 0) (by first | (simp; done) | (simp; omega)) (by simp [go_sem]); have rf0 := hgwA.thaw (b := w.heap.size + 1) (o := 0) (v := false) (by first | (simp; done) | (simp; omega)) (by simp [go_sem]); have rf1 := hgwA.thaw (b := w.heap.size + 1) (o := 1) (v := false) (by first | (simp; done) | (simp; omega)) (by simp [go_sem]); have rf2 := hgwA.thaw (b := w.heap.size + 1) (o := 2) (v := false) (by first | (simp; done) | (simp; omega)) (by simp [go_sem]); have rf3 := hgwA.thaw (b := w.heap.size + 1) (o := 3) (v := false) (by first | (simp; done) | (simp; omega)) (by simp [go_sem]); have hl1 := hgwA.lt (b := w.heap.size + 1) (by simp); have hl0 : w.heap.size < wA.heap.size := (by omega); have GA : Gr w wA := (by repeat (first | exact Gr.refl _ | refine Gr.setCell ?_ _ _ (by first | exact Nat.le_refl _ | (simp; omega) | (simp; done)) | refine Gr.grown ?_ _ _ | refine Gr.drewN ?_ _ | refine Gr.drew ?_ | refine Gr.alloc ?_ _ | refine Gr.grow ?_ _ | (refine Gr.trans ?_ (by assumption)))); clear hgwA))
  obtain ⟨W5, hW5⟩ : ∃ W5, W5 = wA.alloc (.cells #[.int .i64 b, .int .i64 k, .bool l, .int .i64 ((j : Int) + 1)] 69) := ⟨_, rfl⟩
  rw [← hW5]
  have G5 : Gr wA W5 := by rw [hW5]; exact (by repeat (first | exact Gr.refl _ | refine Gr.setCell ?_ _ _ (by first | exact Nat.le_refl _ | (simp; omega) | (simp; done)) | refine Gr.grown ?_ _ _ | refine Gr.drewN ?_ _ | refine Gr.drew ?_ | refine Gr.alloc ?_ _ | refine Gr.grow ?_ _ | (refine Gr.trans ?_ (by assumption))))
  have l5 : wA.heap.size < W5.heap.size := by rw [hW5]; simp
  have k0 := gcell_in (b := wA.heap.size) (o := 0) (v := .int .i64 b) l5 (by rw [hW5]; simp [go_sem])
  have k1 := gcell_in (b := wA.heap.size) (o := 1) (v := .int .i64 k) l5 (by rw [hW5]; simp [go_sem])
  have k2 := gcell_in (b := wA.heap.size) (o := 2) (v := .bool l) l5 (by rw [hW5]; simp [go_sem])
  have k3 := gcell_in (b := wA.heap.size) (o := 3) (v := .int .i64 ((j : Int) + 1)) l5 (by rw [hW5]; simp [go_sem])
  have e0 := G5.keep hl0 c0; have e1 := G5.keep hl0 c1; have e2 := G5.keep hl0 c2; have e3 := G5.keep hl0 c3
  have s0 := G5.keep hl1 r0; have s1 := G5.keep hl1 r1; have s2 := G5.keep hl1 r2; have s3 := G5.keep hl1 r3; have sf0 := G5.thaw hl1 rf0; have sf1 := G5.thaw hl1 rf1; have sf2 := G5.thaw hl1 rf2; have sf3 := G5.thaw hl1 rf3
  have x0 := gcell_in (G5.lt hl0) e0; have x1 := gcell_in (G5.lt hl0) e1; have x2 := gcell_in (G5.lt hl0) e2; have x3 := gcell_in (G5.lt hl0) e3
  have y0 := gcell_in (G5.lt hl1) s0; have y1 := gcell_in (G5.lt hl1) s1; have y2 := gcell_in (G5.lt hl1) s2; have y3 := gcell_in (G5.lt hl1) s3; have yf0 := gfrozen_in (G5.lt hl1) sf0; have yf1 := gfrozen_in (G5.lt hl1) sf1; have yf2 := gfrozen_in (G5.lt hl1) sf2; have yf3 := gfrozen_in (G5.lt hl1) sf3
  have GW : Gr w W5 := GA.trans G5
  clear hW5 G5 l5 hl0 hl1 GA c0 c1 c2 c3 r0 r1 r2 r3 rf0 rf1 rf2 rf3 e0 e1 e2 e3 s0 s1 s2 s3 sf0 sf1 sf2 sf3
  (refine wp_region_quiet_grown mixed (by kernel_rfl) ?_; (repeat (first | go_big_quiet_step ((first | (go_at_call 70; exact gr_of (C2.out _ ((by repeat (first | exact Gr.refl _ | refine Gr.setCell ?_ _ _ (by first | exact Nat.le_refl _ | (simp; omega) | (simp; done)) | refine Gr.grown ?_ _ _ | refine Gr.drewN ?_ _ | refine Gr.drew ?_ | refine Gr.alloc ?_ _ | refine Gr.grow ?_ _ | (refine Gr.trans ?_ (by assumption))))))))) | quiet_step ((first | (go_at_call 70; exact gr_of (C2.out _ ((by repeat (first | exact Gr.refl _ | refine Gr.setCell ?_ _ _ (by first | exact Nat.le_refl _ | (simp; omega) | (simp; done)) | refine Gr.grown ?_ _ _ | refine Gr.drewN ?_ _ | refine Gr.drew ?_ | refine Gr.alloc ?_ _ | refine Gr.grow ?_ _ | (refine Gr.trans ?_ (by assumption))))))))))); refine wpQuiet_nil ?_; intro _ hw'; obtain ⟨⟨nq, osq⟩, hw''⟩ := hw'; subst hw'')
  go_wp2
  exact bodyPost_ret (v := .tuple #[.agg #[.int .i64 b, .int .i64 k, .bool l, .int .i64 ((j : Int) + 1)], .int .i64 0]) (by simp [results, Tryz.results40, go_sem, *]) rfl ⟨rfl, (by repeat (first | exact Gr.refl _ | refine Gr.setCell ?_ _ _ (by first | exact Nat.le_refl _ | (simp; omega) | (simp; done)) | refine Gr.grown ?_ _ _ | refine Gr.drewN ?_ _ | refine Gr.drew ?_ | refine Gr.alloc ?_ _ | refine Gr.grow ?_ _ | (refine Gr.trans ?_ (by assumption))))⟩
set_option maxHeartbeats 4000000 in
theorem look_d (y : Int) (j : Nat) (d : Int) (w : World) (G : GT w) (h0 : 1 ≤ y) (h1 : y ≤ 9999) (hj : j < mct (lp y)) (hd : d < 1 ∨ mlen (kk y) (lp y) j < d) :
    Calls Tryz.prog 40 #[.agg #[.int .i64 y, .int .i64 (cN (lp y) j), .bool (cL (lp y) j), .int .i64 d]] w fun e w' => e = .returned (.tuple #[.agg #[.int .i64 0, .int .i64 0, .bool false, .int .i64 0], .int .i64 4]) ∧ Gr w w' := by
  have C1 := Lib.hid fun w => find_in y j w h0 h1 hj
  have C2 := Lib.hid fun W (hW : Gr w W) => mdays_in (kb y) (kk y) (lp y) j W (G.gr hW) (by rw [mN_year h0 h1]; exact hj)
  obtain ⟨N, hN⟩ : ∃ N, cN (lp y) j = N := ⟨_, rfl⟩
  obtain ⟨C, hC⟩ : ∃ C, cL (lp y) j = C := ⟨_, rfl⟩
  obtain ⟨l, hl⟩ : ∃ l, lp y = l := ⟨_, rfl⟩
  obtain ⟨b, hb⟩ : ∃ b, kb y = b := ⟨_, rfl⟩
  obtain ⟨k, hk⟩ : ∃ k, kk y = k := ⟨_, rfl⟩
  rw [hN, hC, hl, hb, hk] at C1
  rw [hl, hb, hk] at C2
  rw [hl, hk] at hd
  rw [hN, hC]
  clear hN hC hl hb hk h0 h1 hj G
  by_cases g : d < 1
  all_goals (
    try (have g2 : 1 ≤ d := by omega)
    try (have g3 : mlen k l j < d := by omega)
    clear hd
    go_enter Tryz.func40, Tryz.ntmps40
    go_wp2_with (first | ((go_at_call 69; (with_reducible refine (C1.out _).mono ?_); rintro e wA ⟨rfl, hgwA⟩); have c0 := hgwA.keep (b := w.heap.size) (o := 0) (v := .int .i64 y) (by first | (simp; done) | (simp; omega)) (by simp [go_sem]); have c1 := hgwA.keep (b := w.heap.size) (o := 1) (v := .int .i64 N) (by first | (simp; done) | (simp; omega)) (by simp [go_sem]); have c2 := hgwA.keep (b := w.heap.size) (o := 2) (v := .bool C) (by first | (simp; done) | (simp; omega)) (by simp [go_sem]); have c3 := hgwA.keep (b := w.heap.size) (o := 3) (v := .int .i64 d) (by first | (simp; done) | (simp; omega)) (by simp [go_sem]); have r0 := hgwA.keep (b := w.heap.size + 1) (o := 0) (v := .int .i64 0) (by first | (simp; done) | (simp; omega)) (by simp [go_sem]); have r1 := hgwA.keep (b := w.heap.size + 1) (o := 1) (v := .int .i64 0) (by first | (simp; done) | (simp; omega)) (by simp [go_sem]); have r2 := hgwA.keep (b := w.heap.size + 1) (o := 2) (v := .bool false) (by first | (simp; done) | (simp; omega)) (by simp [go_sem]); have r3 := hgwA.keep (b := w.heap.size + 1) (o := 3) (v := .int .i64 0) (by first | (simp; done) | (simp; omega)) (by simp [go_sem]); have rf0 := hgwA.thaw (b := w.heap.size + 1) (o := 0) (v := false) (by first | (simp; done) | (simp; omega)) (by simp [go_sem]); have rf1 := hgwA.thaw (b := w.heap.size + 1) (o := 1) (v := false) (by first | (simp; done) | (simp; omega)) (by simp [go_sem]); have rf2 := hgwA.thaw (b := w.heap.size + 1) (o := 2) (v := false) (by first | (simp; done) | (simp; omega)) (by simp [go_sem]); have rf3 := hgwA.thaw (b := w.heap.size + 1) (o := 3) (v := false) (by first | (simp; done) | (simp; omega)) (by simp [go_sem]); have hl1 := hgwA.lt (b := w.heap.size + 1) (by simp); have hl0 : w.heap.size < wA.heap.size := (by omega); have GA : Gr w wA := (by repeat (first | exact Gr.refl _ | refine Gr.setCell ?_ _ _ (by first | exact Nat.le_refl _ | (simp; omega) | (simp; done)) | refine Gr.grown ?_ _ _ | refine Gr.drewN ?_ _ | refine Gr.drew ?_ | refine Gr.alloc ?_ _ | refine Gr.grow ?_ _ | (refine Gr.trans ?_ (by assumption)))); clear hgwA))
    obtain ⟨W5, hW5⟩ : ∃ W5, W5 = wA.alloc (.cells #[.int .i64 b, .int .i64 k, .bool l, .int .i64 ((j : Int) + 1)] 69) := ⟨_, rfl⟩
    rw [← hW5]
    have G5 : Gr wA W5 := by rw [hW5]; exact (by repeat (first | exact Gr.refl _ | refine Gr.setCell ?_ _ _ (by first | exact Nat.le_refl _ | (simp; omega) | (simp; done)) | refine Gr.grown ?_ _ _ | refine Gr.drewN ?_ _ | refine Gr.drew ?_ | refine Gr.alloc ?_ _ | refine Gr.grow ?_ _ | (refine Gr.trans ?_ (by assumption))))
    have l5 : wA.heap.size < W5.heap.size := by rw [hW5]; simp
    have k0 := gcell_in (b := wA.heap.size) (o := 0) (v := .int .i64 b) l5 (by rw [hW5]; simp [go_sem])
    have k1 := gcell_in (b := wA.heap.size) (o := 1) (v := .int .i64 k) l5 (by rw [hW5]; simp [go_sem])
    have k2 := gcell_in (b := wA.heap.size) (o := 2) (v := .bool l) l5 (by rw [hW5]; simp [go_sem])
    have k3 := gcell_in (b := wA.heap.size) (o := 3) (v := .int .i64 ((j : Int) + 1)) l5 (by rw [hW5]; simp [go_sem])
    have e0 := G5.keep hl0 c0; have e1 := G5.keep hl0 c1; have e2 := G5.keep hl0 c2; have e3 := G5.keep hl0 c3
    have s0 := G5.keep hl1 r0; have s1 := G5.keep hl1 r1; have s2 := G5.keep hl1 r2; have s3 := G5.keep hl1 r3; have sf0 := G5.thaw hl1 rf0; have sf1 := G5.thaw hl1 rf1; have sf2 := G5.thaw hl1 rf2; have sf3 := G5.thaw hl1 rf3
    have x0 := gcell_in (G5.lt hl0) e0; have x1 := gcell_in (G5.lt hl0) e1; have x2 := gcell_in (G5.lt hl0) e2; have x3 := gcell_in (G5.lt hl0) e3
    have y0 := gcell_in (G5.lt hl1) s0; have y1 := gcell_in (G5.lt hl1) s1; have y2 := gcell_in (G5.lt hl1) s2; have y3 := gcell_in (G5.lt hl1) s3; have yf0 := gfrozen_in (G5.lt hl1) sf0; have yf1 := gfrozen_in (G5.lt hl1) sf1; have yf2 := gfrozen_in (G5.lt hl1) sf2; have yf3 := gfrozen_in (G5.lt hl1) sf3
    have GW : Gr w W5 := GA.trans G5
    clear hW5 G5 l5 hl0 hl1 GA c0 c1 c2 c3 r0 r1 r2 r3 rf0 rf1 rf2 rf3 e0 e1 e2 e3 s0 s1 s2 s3 sf0 sf1 sf2 sf3
    (refine wp_region_quiet_grown mixed (by kernel_rfl) ?_; (repeat (first | go_big_quiet_step ((first | (go_at_call 70; exact gr_of (C2.out _ ((by repeat (first | exact Gr.refl _ | refine Gr.setCell ?_ _ _ (by first | exact Nat.le_refl _ | (simp; omega) | (simp; done)) | refine Gr.grown ?_ _ _ | refine Gr.drewN ?_ _ | refine Gr.drew ?_ | refine Gr.alloc ?_ _ | refine Gr.grow ?_ _ | (refine Gr.trans ?_ (by assumption))))))))) | quiet_step ((first | (go_at_call 70; exact gr_of (C2.out _ ((by repeat (first | exact Gr.refl _ | refine Gr.setCell ?_ _ _ (by first | exact Nat.le_refl _ | (simp; omega) | (simp; done)) | refine Gr.grown ?_ _ _ | refine Gr.drewN ?_ _ | refine Gr.drew ?_ | refine Gr.alloc ?_ _ | refine Gr.grow ?_ _ | (refine Gr.trans ?_ (by assumption))))))))))); refine wpQuiet_nil ?_; intro _ hw'; obtain ⟨⟨nq, osq⟩, hw''⟩ := hw'; subst hw'')
    go_wp2
    exact bodyPost_ret (v := .tuple #[.agg #[.int .i64 0, .int .i64 0, .bool false, .int .i64 0], .int .i64 4]) (by simp [results, Tryz.results40, go_sem, *]) rfl ⟨rfl, (by repeat (first | exact Gr.refl _ | refine Gr.setCell ?_ _ _ (by first | exact Nat.le_refl _ | (simp; omega) | (simp; done)) | refine Gr.grown ?_ _ _ | refine Gr.drewN ?_ _ | refine Gr.drew ?_ | refine Gr.alloc ?_ _ | refine Gr.grow ?_ _ | (refine Gr.trans ?_ (by assumption))))⟩)
set_option maxHeartbeats 2000000 in
/-- The month being none: the error is find's. -/
theorem look_e (y n d E : Int) (c : Bool) (w : World) (hE : E ≠ 0) (h : ∀ w, Calls Tryz.prog 69 #[.int .i64 y, .agg #[.int .i64 n, .bool c]] w fun e w' => e = .returned (.tuple #[.agg #[.int .i64 0, .int .i64 0, .bool false, .int .i64 0], .int .i64 E]) ∧ Gr w w') :
    Calls Tryz.prog 40 #[.agg #[.int .i64 y, .int .i64 n, .bool c, .int .i64 d]] w fun e w' => e = .returned (.tuple #[.agg #[.int .i64 0, .int .i64 0, .bool false, .int .i64 0], .int .i64 E]) ∧ Gr w w' := by
  have C1 := Lib.hid h
  have q : (E == 0) = false := beq_eq_false_iff_ne.2 hE
  clear h hE
  go_enter Tryz.func40, Tryz.ntmps40
  go_wp2_with (first | ((go_at_call 69; (with_reducible refine (C1.out _).mono ?_); rintro e wA ⟨rfl, hgwA⟩); have r0 := hgwA.keep (b := w.heap.size + 1) (o := 0) (v := .int .i64 0) (by first | (simp; done) | (simp; omega)) (by simp [go_sem]); have r1 := hgwA.keep (b := w.heap.size + 1) (o := 1) (v := .int .i64 0) (by first | (simp; done) | (simp; omega)) (by simp [go_sem]); have r2 := hgwA.keep (b := w.heap.size + 1) (o := 2) (v := .bool false) (by first | (simp; done) | (simp; omega)) (by simp [go_sem]); have r3 := hgwA.keep (b := w.heap.size + 1) (o := 3) (v := .int .i64 0) (by first | (simp; done) | (simp; omega)) (by simp [go_sem]); have rf0 := hgwA.thaw (b := w.heap.size + 1) (o := 0) (v := false) (by first | (simp; done) | (simp; omega)) (by simp [go_sem]); have rf1 := hgwA.thaw (b := w.heap.size + 1) (o := 1) (v := false) (by first | (simp; done) | (simp; omega)) (by simp [go_sem]); have rf2 := hgwA.thaw (b := w.heap.size + 1) (o := 2) (v := false) (by first | (simp; done) | (simp; omega)) (by simp [go_sem]); have rf3 := hgwA.thaw (b := w.heap.size + 1) (o := 3) (v := false) (by first | (simp; done) | (simp; omega)) (by simp [go_sem]); have hl1 := hgwA.lt (b := w.heap.size + 1) (by simp); have hl0 : w.heap.size < wA.heap.size := (by omega); have GA : Gr w wA := (by repeat (first | exact Gr.refl _ | refine Gr.setCell ?_ _ _ (by first | exact Nat.le_refl _ | (simp; omega) | (simp; done)) | refine Gr.grown ?_ _ _ | refine Gr.drewN ?_ _ | refine Gr.drew ?_ | refine Gr.alloc ?_ _ | refine Gr.grow ?_ _ | (refine Gr.trans ?_ (by assumption)))); clear hgwA))
  exact bodyPost_ret (v := .tuple #[.agg #[.int .i64 0, .int .i64 0, .bool false, .int .i64 0], .int .i64 E]) (by simp [results, Tryz.results40, go_sem, *]) rfl ⟨rfl, (by repeat (first | exact Gr.refl _ | refine Gr.setCell ?_ _ _ (by first | exact Nat.le_refl _ | (simp; omega) | (simp; done)) | refine Gr.grown ?_ _ _ | refine Gr.drewN ?_ _ | refine Gr.drew ?_ | refine Gr.alloc ?_ _ | refine Gr.grow ?_ _ | (refine Gr.trans ?_ (by assumption))))⟩

end Go.Proofs.YtkiopgegdkeojaaGreatDoor.Walks
