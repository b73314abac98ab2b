/- Walks of package shift: the month so many months away. -/
import Derived.Test.YtkiopgegdkeojaaGreatDoorShift
set_option linter.unusedVariables false
set_option linter.unusedSimpArgs false
namespace Go.Proofs.YtkiopgegdkeojaaGreatDoor.Walks
open Go Go.RowKit Go.Sort Go.Proofs.YtkiopgegdkeojaaGreatDoor.Base Go.Proofs.YtkiopgegdkeojaaGreatDoor.Plain Go.Proofs.YtkiopgegdkeojaaGreatDoor.Math

theorem bf_le {Y : Int} {i : Nat} {t : Int} (y0 : 1 ≤ Y) (y1 : Y ≤ 9999) (h0 : bf Y ≤ t) (h1 : t < bf (Y + 1)) (hi : i < 10000) : decide (t < bfN ((i : Int) + 1)) = decide (Y.toNat ≤ i) := by
  rw [bfN_in (by omega) (by omega)]
  by_cases c : Y.toNat ≤ i
  · have := bf_mono (show Y + 1 ≤ (i : Int) + 1 by omega)
    rw [decide_eq_true c, decide_eq_true (by omega)]
  · have := bf_mono (show (i : Int) + 1 ≤ Y by omega)
    rw [decide_eq_false c, decide_eq_false (by omega)]
set_option maxHeartbeats 1000000 in
theorem monClo_c (b : Nat) (t : Int) (i : Nat) (W : World) (hb : b < W.heap.size) (hc : W.cell? ⟨b, 0, none⟩ = some (.int .i64 t)) (hi : i < 10000) :
    Calls Tryz.prog 76 (#[.int .i64 i] ++ #[.pointer (some ⟨b, 0, none⟩)]) W fun e w' => e = .returned (.bool (decide (t < bfN ((i : Int) + 1)))) ∧ Gr W w' := by
  have k0 := gcell_in hb hc
  have hi2 : (i : Int) < 10000 := by omega
  clear hb hc
  go_enter Tryz.func76, Tryz.ntmps76
  go_wp2
  (refine wp_region_quiet_grown mixed (by kernel_rfl) ?_; (repeat (first | go_big_quiet_step ((first | (go_at_call 75; exact gr_of (sahead_c _ _)))) | quiet_step ((first | (go_at_call 75; exact gr_of (sahead_c _ _)))))); refine wpQuiet_nil ?_; intro _ hw'; obtain ⟨⟨nq, osq⟩, hw''⟩ := hw'; subst hw'')
  go_wp2
  go_ret
  exact ⟨rfl, (by repeat (first | exact Gr.refl _ | refine Gr.setCell ?_ _ _ (by first | exact Nat.le_refl _ | (simp; omega) | (simp; done)) | refine Gr.grown ?_ _ _ | refine Gr.drewN ?_ _ | refine Gr.drew ?_ | refine Gr.alloc ?_ _ | refine Gr.grow ?_ _ | (refine Gr.trans ?_ (by assumption))))⟩

set_option maxHeartbeats 2000000 in
theorem smonths_e (y n q E : Int) (c : Bool) (w : World) (hE : E ≠ 0) (h : ∀ W, Gr w W → Calls Tryz.prog 74 #[.int .i64 y, .agg #[.int .i64 n, .bool c]] W fun e w' => e = .returned (.tuple #[.int .i64 0, .int .i64 E]) ∧ Gr W w') :
    Calls Tryz.prog 42 #[.int .i64 y, .agg #[.int .i64 n, .bool c], .int .i64 q] w fun e w' => e = .returned (.tuple #[.int .i64 0, .agg #[.int .i64 0, .bool false], .int .i64 E]) ∧ Gr w w' := by
  have C1 := Lib.hid h
  have qE : (E == 0) = false := beq_eq_false_iff_ne.2 hE
  clear h hE
  go_enter Tryz.func42, Tryz.ntmps42
  go_wp2_with (first | ((go_at_call 74; (with_reducible refine (C1.out _ ((by repeat (first | exact Gr.refl _ | refine Gr.setCell ?_ _ _ (by first | exact Nat.le_refl _ | (simp; omega) | (simp; done)) | refine Gr.grown ?_ _ _ | refine Gr.drewN ?_ _ | refine Gr.drew ?_ | refine Gr.alloc ?_ _ | refine Gr.grow ?_ _ | (refine Gr.trans ?_ (by assumption)))))).mono ?_); rintro e wA ⟨rfl, hgwA⟩); obtain ⟨lt, c0, c1, f0, f1⟩ := (ZC.at (w := w.alloc (.cells #[.int .i64 n, .bool c] 23)) (b := w.heap.size + 1) (by simp)).gr hgwA))
  exact bodyPost_ret (v := .tuple #[.int .i64 0, .agg #[.int .i64 0, .bool false], .int .i64 E]) (by simp [results, Tryz.results42, go_sem, *]) rfl ⟨rfl, (by repeat (first | exact Gr.refl _ | refine Gr.setCell ?_ _ _ (by first | exact Nat.le_refl _ | (simp; omega) | (simp; done)) | refine Gr.grown ?_ _ _ | refine Gr.drewN ?_ _ | refine Gr.drew ?_ | refine Gr.alloc ?_ _ | refine Gr.grow ?_ _ | (refine Gr.trans ?_ (by assumption))))⟩
set_option maxHeartbeats 2000000 in
theorem smonths_q (y n q L : Int) (c : Bool) (w : World) (hq : q < -4000000 ∨ 4000000 < q) (h : ∀ W, Gr w W → Calls Tryz.prog 74 #[.int .i64 y, .agg #[.int .i64 n, .bool c]] W fun e w' => e = .returned (.tuple #[.int .i64 L, .int .i64 0]) ∧ Gr W w') :
    Calls Tryz.prog 42 #[.int .i64 y, .agg #[.int .i64 n, .bool c], .int .i64 q] w fun e w' => e = .returned (.tuple #[.int .i64 0, .agg #[.int .i64 0, .bool false], .int .i64 1]) ∧ Gr w w' := by
  have C1 := Lib.hid h
  clear h
  by_cases g : q < -4000000
  all_goals (
    try (have g2 : 4000000 < q := by omega)
    clear hq
    go_enter Tryz.func42, Tryz.ntmps42
    go_wp2_with (first | ((go_at_call 74; (with_reducible refine (C1.out _ ((by repeat (first | exact Gr.refl _ | refine Gr.setCell ?_ _ _ (by first | exact Nat.le_refl _ | (simp; omega) | (simp; done)) | refine Gr.grown ?_ _ _ | refine Gr.drewN ?_ _ | refine Gr.drew ?_ | refine Gr.alloc ?_ _ | refine Gr.grow ?_ _ | (refine Gr.trans ?_ (by assumption)))))).mono ?_); rintro e wA ⟨rfl, hgwA⟩); obtain ⟨lt, c0, c1, f0, f1⟩ := (ZC.at (w := w.alloc (.cells #[.int .i64 n, .bool c] 23)) (b := w.heap.size + 1) (by simp)).gr hgwA))
    exact bodyPost_ret (v := .tuple #[.int .i64 0, .agg #[.int .i64 0, .bool false], .int .i64 1]) (by simp [results, Tryz.results42, go_sem, *]) rfl ⟨rfl, (by repeat (first | exact Gr.refl _ | refine Gr.setCell ?_ _ _ (by first | exact Nat.le_refl _ | (simp; omega) | (simp; done)) | refine Gr.grown ?_ _ _ | refine Gr.drewN ?_ _ | refine Gr.drew ?_ | refine Gr.alloc ?_ _ | refine Gr.grow ?_ _ | (refine Gr.trans ?_ (by assumption))))⟩)

set_option maxRecDepth 20000 in
set_option maxHeartbeats 8000000 in
/-- Out of range. -/
theorem smonths_out (y n q L A M : Int) (c l : Bool) (w : World) (y0 : 1 ≤ y) (y1 : y ≤ 9999) (q0 : -4000000 ≤ q) (q1 : q ≤ 4000000) (A0 : 0 ≤ A) (A1 : A ≤ 123671) (M0 : 1 ≤ M) (M1 : M ≤ 13)
    (h1 : ∀ W, Gr w W → Calls Tryz.prog 74 #[.int .i64 y, .agg #[.int .i64 n, .bool c]] W fun e w' => e = .returned (.tuple #[.int .i64 L, .int .i64 0]) ∧ Gr W w')
    (h2 : ∀ w, Calls Tryz.prog 73 #[.int .i64 y] w fun e w' => e = .returned (.bool l) ∧ Gr w w')
    (h3 : ∀ w, Calls Tryz.prog 72 #[.bool l, .agg #[.int .i64 n, .bool c]] w fun e w' => e = .returned (.tuple #[.int .i64 M, .bool true]) ∧ Gr w w')
    (h4 : ∀ w, Calls Tryz.prog 75 #[.int .i64 y] w fun e w' => e = .returned (.int .i64 A) ∧ Gr w w')
    (ht : A + M - 1 + q < 0 ∨ 123671 ≤ A + M - 1 + q) :
    Calls Tryz.prog 42 #[.int .i64 y, .agg #[.int .i64 n, .bool c], .int .i64 q] w fun e w' => e = .returned (.tuple #[.int .i64 0, .agg #[.int .i64 0, .bool false], .int .i64 2]) ∧ Gr w w' := by
  have C1 := Lib.hid h1
  have C2 := Lib.hid h2
  have C3 := Lib.hid h3
  have C4 := Lib.hid h4
  have C5 : RowKit.Hid (∀ w, Calls Tryz.prog 75 #[.int .i64 10000] w fun e w' => e = .returned (.int .i64 123671) ∧ Gr w w') := Lib.hid fun w => by
    have := sahead_in 10000 w (by decide) (by decide); rwa [bf_all] at this
  clear h1 h2 h3 h4
  obtain ⟨T, hT⟩ : ∃ T, A + M - 1 + q = T := ⟨_, rfl⟩
  rw [hT] at ht
  have HT := Lib.hid hT
  clear hT
  by_cases g : T < 0
  all_goals (
    try (have g2 : 123671 ≤ T := by omega)
    clear ht
    go_enter Tryz.func42, Tryz.ntmps42
    go_wp2_with (first | ((go_at_call 74; (with_reducible refine (C1.out _ ((by repeat (first | exact Gr.refl _ | refine Gr.setCell ?_ _ _ (by first | exact Nat.le_refl _ | (simp; omega) | (simp; done)) | refine Gr.grown ?_ _ _ | refine Gr.drewN ?_ _ | refine Gr.drew ?_ | refine Gr.alloc ?_ _ | refine Gr.grow ?_ _ | (refine Gr.trans ?_ (by assumption)))))).mono ?_); rintro e wA ⟨rfl, hgwA⟩); have c0 := hgwA.keep (b := w.heap.size) (o := 0) (v := .int .i64 n) (by first | (simp; done) | (simp; omega)) (by simp [go_sem]); have c1 := hgwA.keep (b := w.heap.size) (o := 1) (v := .bool c) (by first | (simp; done) | (simp; omega)) (by simp [go_sem]); have hl0 := hgwA.lt (b := w.heap.size) (by simp; omega); have Z := (ZC.at (w := w.alloc (.cells #[.int .i64 n, .bool c] 23)) (b := w.heap.size + 1) (by simp)).gr hgwA; have GA : Gr w wA := (by repeat (first | exact Gr.refl _ | refine Gr.setCell ?_ _ _ (by first | exact Nat.le_refl _ | (simp; omega) | (simp; done)) | refine Gr.grown ?_ _ _ | refine Gr.drewN ?_ _ | refine Gr.drew ?_ | refine Gr.alloc ?_ _ | refine Gr.grow ?_ _ | (refine Gr.trans ?_ (by assumption))))))
    have x0 := gcell_in hl0 c0; have x1 := gcell_in hl0 c1
    clear hgwA c0 c1
    (refine wp_region_quiet_grown mixed (by kernel_rfl) ?_; (repeat (first | go_big_quiet_step ((first | (go_at_call 73; exact gr_of (C2.out _)) | (go_at_call 72; exact gr_of (C3.out _)))) | quiet_step ((first | (go_at_call 73; exact gr_of (C2.out _)) | (go_at_call 72; exact gr_of (C3.out _)))))); refine wpQuiet_nil ?_; intro _ hw'; obtain ⟨⟨nq, osq⟩, hw''⟩ := hw'; subst hw'')
    have ZB := Z.gr ((Gr.refl wA).grown nq osq)
    have GB : Gr w (grow (wA.drewN nq) osq) := GA.grown nq osq
    obtain ⟨wB, hB⟩ : ∃ wB, wB = grow (wA.drewN nq) osq := ⟨_, rfl⟩
    rw [← hB] at ZB GB ⊢
    clear hB Z GA x0 x1 hl0 C1 C2 C3
    go_wp2_with (first | ((go_at_call 75; (with_reducible refine (C4.out _).mono ?_); rintro e wC ⟨rfl, hgwC⟩); have ZC1 := ZB.gr hgwC; have GC : Gr w wC := GB.trans hgwC; clear ZB GB hgwC; clear C4))
    rw [HT.out]
    obtain ⟨wD, hD⟩ : ∃ wD, wD = wC.alloc (.cells #[.int .i64 T] 3) := ⟨_, rfl⟩
    rw [← hD]
    have ZD : ZC wD (w.heap.size + 1) := by rw [hD]; exact ZC1.gr (by repeat (first | exact Gr.refl _ | refine Gr.setCell ?_ _ _ (by first | exact Nat.le_refl _ | (simp; omega) | (simp; done)) | refine Gr.grown ?_ _ _ | refine Gr.drewN ?_ _ | refine Gr.drew ?_ | refine Gr.alloc ?_ _ | refine Gr.grow ?_ _ | (refine Gr.trans ?_ (by assumption))))
    have GD : Gr w wD := by rw [hD]; exact (by repeat (first | exact Gr.refl _ | refine Gr.setCell ?_ _ _ (by first | exact Nat.le_refl _ | (simp; omega) | (simp; done)) | refine Gr.grown ?_ _ _ | refine Gr.drewN ?_ _ | refine Gr.drew ?_ | refine Gr.alloc ?_ _ | refine Gr.grow ?_ _ | (refine Gr.trans ?_ (by assumption))))
    have t0 := gcell_in (w := wD) (b := wC.heap.size) (o := 0) (v := .int .i64 T) (by rw [hD]; simp) (by rw [hD]; simp [go_sem])
    clear hD ZC1 GC
    (refine wp_region_quiet_grown mixed (by kernel_rfl) ?_; (repeat (first | go_big_quiet_step ((first | (go_at_call 75; exact gr_of (C5.out _)))) | quiet_step ((first | (go_at_call 75; exact gr_of (C5.out _)))))); refine wpQuiet_nil ?_; intro _ hw'; obtain ⟨⟨nq, osq⟩, hw''⟩ := hw'; subst hw'')
    obtain ⟨lt, c0, c1, f0, f1⟩ := ZD.gr ((Gr.refl wD).grown nq osq)
    clear t0 ZD
    go_wp2
    exact bodyPost_ret (v := .tuple #[.int .i64 0, .agg #[.int .i64 0, .bool false], .int .i64 2]) (by simp [results, Tryz.results42, go_sem, *]) rfl ⟨rfl, (by repeat (first | exact Gr.refl _ | refine Gr.setCell ?_ _ _ (by first | exact Nat.le_refl _ | (simp; omega) | (simp; done)) | refine Gr.grown ?_ _ _ | refine Gr.drewN ?_ _ | refine Gr.drew ?_ | refine Gr.alloc ?_ _ | refine Gr.grow ?_ _ | (refine Gr.trans ?_ (by assumption))))⟩)

set_option maxRecDepth 20000 in
set_option maxHeartbeats 8000000 in
/-- In range: the year Y, its month J. -/
theorem smonths_at (y n q L A M T Y J D N : Int) (c l lY C : Bool) (w : World) (y0 : 1 ≤ y) (y1 : y ≤ 9999) (q0 : -4000000 ≤ q) (q1 : q ≤ 4000000) (A0 : 0 ≤ A) (A1 : A ≤ 123671) (M0 : 1 ≤ M) (M1 : M ≤ 13)
    (t0 : 0 ≤ T) (t1 : T < 123671) (hT : A + M - 1 + q = T) (Y0 : 1 ≤ Y) (Y1 : Y ≤ 9999) (hD : bf Y = D) (hD0 : D ≤ T) (hD1 : T < bf (Y + 1)) (hJ : T - D + 1 = J) (d0 : 0 ≤ D) (d1 : D ≤ 123671)
    (h1 : ∀ W, Gr w W → Calls Tryz.prog 74 #[.int .i64 y, .agg #[.int .i64 n, .bool c]] W fun e w' => e = .returned (.tuple #[.int .i64 L, .int .i64 0]) ∧ Gr W w')
    (h2 : ∀ w, Calls Tryz.prog 73 #[.int .i64 y] w fun e w' => e = .returned (.bool l) ∧ Gr w w')
    (h3 : ∀ w, Calls Tryz.prog 72 #[.bool l, .agg #[.int .i64 n, .bool c]] w fun e w' => e = .returned (.tuple #[.int .i64 M, .bool true]) ∧ Gr w w')
    (h4 : ∀ w, Calls Tryz.prog 75 #[.int .i64 y] w fun e w' => e = .returned (.int .i64 A) ∧ Gr w w')
    (h6 : ∀ w, Calls Tryz.prog 73 #[.int .i64 Y] w fun e w' => e = .returned (.bool lY) ∧ Gr w w')
    (h7 : ∀ w, Calls Tryz.prog 75 #[.int .i64 Y] w fun e w' => e = .returned (.int .i64 D) ∧ Gr w w')
    (h8 : ∀ w, Calls Tryz.prog 77 #[.bool lY, .int .i64 J] w fun e w' => e = .returned (.tuple #[.agg #[.int .i64 N, .bool C], .bool true]) ∧ Gr w w') :
    Calls Tryz.prog 42 #[.int .i64 y, .agg #[.int .i64 n, .bool c], .int .i64 q] w fun e w' => e = .returned (.tuple #[.int .i64 Y, .agg #[.int .i64 N, .bool C], .int .i64 0]) ∧ Gr w w' := by
  have C1 := Lib.hid h1
  have C2 := Lib.hid h2
  have C3 := Lib.hid h3
  have C4 := Lib.hid h4
  have C6 := Lib.hid h6
  have C7 := Lib.hid h7
  have C8 : RowKit.Hid (∀ w, Calls Tryz.prog 77 #[.bool lY, .int .i64 (IntKind.i64.wrap (IntKind.i64.wrap (T - D) + 1))] w fun e w' => e = .returned (.tuple #[.agg #[.int .i64 N, .bool C], .bool true]) ∧ Gr w w') := Lib.hid (by
    have e1 : IntKind.i64.wrap (T - D) = T - D := by rw [IntKind.wrap_i64]; omega
    have e2 : IntKind.i64.wrap (T - D + 1) = J := by rw [IntKind.wrap_i64]; omega
    rw [e1, e2]; exact h8)
  have C5 : RowKit.Hid (∀ w, Calls Tryz.prog 75 #[.int .i64 10000] w fun e w' => e = .returned (.int .i64 123671) ∧ Gr w w') := Lib.hid fun w => by
    have := sahead_in 10000 w (by decide) (by decide); rwa [bf_all] at this
  have eg : ∀ args w, (callFunc 76 args).run Tryz.prog w = .ok (.enter 76 args) w := enters_of Tryz.func76 (by kernel_rfl) rfl
  have EG := Lib.hid eg
  have H1 := Lib.hid (fun i => bf_le (i := i) (t := T) Y0 Y1 (by rw [hD]; exact hD0) hD1)
  have HY : RowKit.Hid (((Y.toNat : Nat) : Int) = Y) := Lib.hid (by omega)
  have HYT : Y.toNat ≤ 10000 := by omega
  have HT := Lib.hid hT
  clear h1 h2 h3 h4 h6 h7 h8 eg hT hJ hD1 hD
  go_enter Tryz.func42, Tryz.ntmps42
  go_wp2_with (first | ((go_at_call 74; (with_reducible refine (C1.out _ ((by repeat (first | exact Gr.refl _ | refine Gr.setCell ?_ _ _ (by first | exact Nat.le_refl _ | (simp; omega) | (simp; done)) | refine Gr.grown ?_ _ _ | refine Gr.drewN ?_ _ | refine Gr.drew ?_ | refine Gr.alloc ?_ _ | refine Gr.grow ?_ _ | (refine Gr.trans ?_ (by assumption)))))).mono ?_); rintro e wA ⟨rfl, hgwA⟩); have c0 := hgwA.keep (b := w.heap.size) (o := 0) (v := .int .i64 n) (by first | (simp; done) | (simp; omega)) (by simp [go_sem]); have c1 := hgwA.keep (b := w.heap.size) (o := 1) (v := .bool c) (by first | (simp; done) | (simp; omega)) (by simp [go_sem]); have hl0 := hgwA.lt (b := w.heap.size) (by simp; omega); have Z := (ZC.at (w := w.alloc (.cells #[.int .i64 n, .bool c] 23)) (b := w.heap.size + 1) (by simp)).gr hgwA; have GA : Gr w wA := (by repeat (first | exact Gr.refl _ | refine Gr.setCell ?_ _ _ (by first | exact Nat.le_refl _ | (simp; omega) | (simp; done)) | refine Gr.grown ?_ _ _ | refine Gr.drewN ?_ _ | refine Gr.drew ?_ | refine Gr.alloc ?_ _ | refine Gr.grow ?_ _ | (refine Gr.trans ?_ (by assumption))))))
  have x0 := gcell_in hl0 c0; have x1 := gcell_in hl0 c1
  clear hgwA c0 c1
  (refine wp_region_quiet_grown mixed (by kernel_rfl) ?_; (repeat (first | go_big_quiet_step ((first | (go_at_call 73; exact gr_of (C2.out _)) | (go_at_call 72; exact gr_of (C3.out _)))) | quiet_step ((first | (go_at_call 73; exact gr_of (C2.out _)) | (go_at_call 72; exact gr_of (C3.out _)))))); refine wpQuiet_nil ?_; intro _ hw'; obtain ⟨⟨nq, osq⟩, hw''⟩ := hw'; subst hw'')
  have ZB := Z.gr ((Gr.refl wA).grown nq osq)
  have GB : Gr w (grow (wA.drewN nq) osq) := GA.grown nq osq
  obtain ⟨wB, hB⟩ : ∃ wB, wB = grow (wA.drewN nq) osq := ⟨_, rfl⟩
  rw [← hB] at ZB GB ⊢
  clear hB Z GA x0 x1 hl0 C1 C2 C3
  go_wp2_with (first | ((go_at_call 75; (with_reducible refine (C4.out _).mono ?_); rintro e wC ⟨rfl, hgwC⟩); have ZC1 := ZB.gr hgwC; have GC : Gr w wC := GB.trans hgwC; clear ZB GB hgwC; clear C4))
  rw [HT.out]
  obtain ⟨wD, hD⟩ : ∃ wD, wD = wC.alloc (.cells #[.int .i64 T] 3) := ⟨_, rfl⟩
  rw [← hD]
  have ZD : ZC wD (w.heap.size + 1) := by rw [hD]; exact ZC1.gr (by repeat (first | exact Gr.refl _ | refine Gr.setCell ?_ _ _ (by first | exact Nat.le_refl _ | (simp; omega) | (simp; done)) | refine Gr.grown ?_ _ _ | refine Gr.drewN ?_ _ | refine Gr.drew ?_ | refine Gr.alloc ?_ _ | refine Gr.grow ?_ _ | (refine Gr.trans ?_ (by assumption))))
  have GD : Gr w wD := by rw [hD]; exact (by repeat (first | exact Gr.refl _ | refine Gr.setCell ?_ _ _ (by first | exact Nat.le_refl _ | (simp; omega) | (simp; done)) | refine Gr.grown ?_ _ _ | refine Gr.drewN ?_ _ | refine Gr.drew ?_ | refine Gr.alloc ?_ _ | refine Gr.grow ?_ _ | (refine Gr.trans ?_ (by assumption))))
  have hlD : wC.heap.size < wD.heap.size := by rw [hD]; simp
  have tD : wD.cell? ⟨wC.heap.size, 0, none⟩ = some (.int .i64 T) := by rw [hD]; simp [go_sem]
  have k0 := gcell_in hlD tD
  clear hD ZC1 GC
  (refine wp_region_quiet_grown mixed (by kernel_rfl) ?_; (repeat (first | go_big_quiet_step ((first | (go_at_call 75; exact gr_of (C5.out _)))) | quiet_step ((first | (go_at_call 75; exact gr_of (C5.out _)))))); refine wpQuiet_nil ?_; intro _ hw'; obtain ⟨⟨nq, osq⟩, hw''⟩ := hw'; subst hw'')
  obtain ⟨wE, hE⟩ : ∃ wE, wE = grow (wD.drewN nq) osq := ⟨_, rfl⟩
  have GDE : Gr wD wE := by rw [hE]; exact (Gr.refl wD).grown nq osq
  rw [← hE]
  have ZE := ZD.gr GDE
  have hlE := GDE.lt hlD
  have tE := GDE.keep hlD tD
  have GE : Gr w wE := GD.trans GDE
  clear hE k0 ZD hlD tD GD GDE C5
  go_wp2_with fail
  refine (search_v 76 #[.pointer (some ⟨wC.heap.size, 0, none⟩)] 10000 Y 10000 Y.toNat _ EG.out (by omega) HYT rfl HY.out ?_).mono ?_
  · intro W i hW hi
    have := monClo_c wC.heap.size T i W (hW.lt hlE) (hW.keep hlE tE) hi
    rwa [H1.out i hi] at this
  · rintro e wF ⟨rfl, hg⟩
    have ZF := ZE.gr hg
    have hlF := hg.lt hlE
    have tF := hg.keep hlE tE
    have GF : Gr w wF := GE.trans hg
    clear ZE hlE tE GE hg H1 EG
    have k0 : ∀ w', Gr wF w' → w'.cell? ⟨wC.heap.size, 0, none⟩ = some (.int .i64 T) := fun w' h => h.keep hlF tF
    have ZF2 := Lib.hid ZF
    clear ZF hlF tF
    go_wp2
    have hd : Gr wF wF.drew := (Gr.refl _).drew
    go_region_held3 (fun w' => Gr wF w') (repeat (first | exact hd | assumption | exact Gr.refl _ | refine Gr.drew ?_ | refine Gr.setCell ?_ _ _ (by first | exact Nat.le_refl _ | (simp; omega) | (simp at *; omega)) | refine Gr.alloc ?_ _ | (refine Gr.trans ?_ (by assumption)))) (first | (go_at_call 73; (with_reducible refine (C6.out _).mono ?_); rintro e w1 ⟨rfl, hg1⟩; obtain ⟨hcl1, hfz1, hsz1⟩ := gcell hg1; (try simp [Nat.add_one_le_iff] at hsz1); (try have l1a : wF.heap.size < w1.heap.size := (by omega))) | (go_at_call 75; (with_reducible refine (C7.out _).mono ?_); rintro e w2 ⟨rfl, hg2⟩; obtain ⟨hcl2, hfz2, hsz2⟩ := gcell hg2; (try simp [Nat.add_one_le_iff] at hsz2); (try have l2a : wF.heap.size < w2.heap.size := (by omega)); (try have l2b : w1.heap.size < w2.heap.size := (by omega))) | (go_at_call 77; (with_reducible refine (C8.out _).mono ?_); rintro e w3 ⟨rfl, hg3⟩; obtain ⟨hcl3, hfz3, hsz3⟩ := gcell hg3; (try simp [Nat.add_one_le_iff] at hsz3); (try have l3a : wF.heap.size < w3.heap.size := (by omega)); (try have l3b : w1.heap.size < w3.heap.size := (by omega)); (try have l3c : w2.heap.size < w3.heap.size := (by omega))))
    all_goals (
      first | (obtain ⟨W, hW⟩ : ∃ W, W = (w3.setCell ⟨wF.heap.size, 0, none⟩ (.int .i64 N)).setCell ⟨wF.heap.size, 1, none⟩ (.bool C) := ⟨_, rfl⟩; rw [← hW]; have e0 : W.cell? ⟨wF.heap.size, 0, none⟩ = some (.int .i64 N) := (by rw [hW]; have q0 : w3.cell? ⟨wF.heap.size, 0, none⟩ = some (.int .i64 0) := (by first | exact hg3.keep (by simp) (by simp [go_sem]) | exact hg3.keep (by omega) (hg2.keep (by simp) (by simp [go_sem])) | exact hg3.keep (by omega) (hg2.keep (by omega) (hg1.keep (by simp) (by simp [go_sem])))); have s0 := set_cell (b := wF.heap.size) (o := 1) (v := .bool C) (set_cell (b := wF.heap.size) (o := 0) (v := .int .i64 N) q0); simpa using s0); have e1 : W.cell? ⟨wF.heap.size, 1, none⟩ = some (.bool C) := (by rw [hW]; have q0 : w3.cell? ⟨wF.heap.size, 1, none⟩ = some (.bool false) := (by first | exact hg3.keep (by simp) (by simp [go_sem]) | exact hg3.keep (by omega) (hg2.keep (by simp) (by simp [go_sem])) | exact hg3.keep (by omega) (hg2.keep (by omega) (hg1.keep (by simp) (by simp [go_sem])))); have s0 := set_cell (b := wF.heap.size) (o := 1) (v := .bool C) (set_cell (b := wF.heap.size) (o := 0) (v := .int .i64 N) q0); simpa using s0); have lB : wF.heap.size < W.heap.size := (by rw [hW]; first | (simp; done) | (rw [set_size, set_size]; omega))) | (obtain ⟨W, hW⟩ : ∃ W, W = (w3.setCell ⟨w1.heap.size, 0, none⟩ (.int .i64 N)).setCell ⟨w1.heap.size, 1, none⟩ (.bool C) := ⟨_, rfl⟩; rw [← hW]; have e0 : W.cell? ⟨w1.heap.size, 0, none⟩ = some (.int .i64 N) := (by rw [hW]; have q0 : w3.cell? ⟨w1.heap.size, 0, none⟩ = some (.int .i64 0) := (by first | exact hg3.keep (by simp) (by simp [go_sem]) | exact hg3.keep (by omega) (hg2.keep (by simp) (by simp [go_sem])) | exact hg3.keep (by omega) (hg2.keep (by omega) (hg1.keep (by simp) (by simp [go_sem])))); have s0 := set_cell (b := w1.heap.size) (o := 1) (v := .bool C) (set_cell (b := w1.heap.size) (o := 0) (v := .int .i64 N) q0); simpa using s0); have e1 : W.cell? ⟨w1.heap.size, 1, none⟩ = some (.bool C) := (by rw [hW]; have q0 : w3.cell? ⟨w1.heap.size, 1, none⟩ = some (.bool false) := (by first | exact hg3.keep (by simp) (by simp [go_sem]) | exact hg3.keep (by omega) (hg2.keep (by simp) (by simp [go_sem])) | exact hg3.keep (by omega) (hg2.keep (by omega) (hg1.keep (by simp) (by simp [go_sem])))); have s0 := set_cell (b := w1.heap.size) (o := 1) (v := .bool C) (set_cell (b := w1.heap.size) (o := 0) (v := .int .i64 N) q0); simpa using s0); have lB : w1.heap.size < W.heap.size := (by rw [hW]; first | (simp; done) | (rw [set_size, set_size]; omega))) | (obtain ⟨W, hW⟩ : ∃ W, W = (w3.setCell ⟨w2.heap.size, 0, none⟩ (.int .i64 N)).setCell ⟨w2.heap.size, 1, none⟩ (.bool C) := ⟨_, rfl⟩; rw [← hW]; have e0 : W.cell? ⟨w2.heap.size, 0, none⟩ = some (.int .i64 N) := (by rw [hW]; have q0 : w3.cell? ⟨w2.heap.size, 0, none⟩ = some (.int .i64 0) := (by first | exact hg3.keep (by simp) (by simp [go_sem]) | exact hg3.keep (by omega) (hg2.keep (by simp) (by simp [go_sem])) | exact hg3.keep (by omega) (hg2.keep (by omega) (hg1.keep (by simp) (by simp [go_sem])))); have s0 := set_cell (b := w2.heap.size) (o := 1) (v := .bool C) (set_cell (b := w2.heap.size) (o := 0) (v := .int .i64 N) q0); simpa using s0); have e1 : W.cell? ⟨w2.heap.size, 1, none⟩ = some (.bool C) := (by rw [hW]; have q0 : w3.cell? ⟨w2.heap.size, 1, none⟩ = some (.bool false) := (by first | exact hg3.keep (by simp) (by simp [go_sem]) | exact hg3.keep (by omega) (hg2.keep (by simp) (by simp [go_sem])) | exact hg3.keep (by omega) (hg2.keep (by omega) (hg1.keep (by simp) (by simp [go_sem])))); have s0 := set_cell (b := w2.heap.size) (o := 1) (v := .bool C) (set_cell (b := w2.heap.size) (o := 0) (v := .int .i64 N) q0); simpa using s0); have lB : w2.heap.size < W.heap.size := (by rw [hW]; first | (simp; done) | (rw [set_size, set_size]; omega))) | (obtain ⟨W, hW⟩ : ∃ W, W = w3.alloc (.cells #[.int .i64 N, .bool C] 23) := ⟨_, rfl⟩; rw [← hW]; have e0 : W.cell? ⟨w3.heap.size, 0, none⟩ = some (.int .i64 N) := (by rw [hW]; simp [go_sem]); have e1 : W.cell? ⟨w3.heap.size, 1, none⟩ = some (.bool C) := (by rw [hW]; simp [go_sem]); have lB : w3.heap.size < W.heap.size := (by rw [hW]; first | (simp; done) | (rw [set_size, set_size]; omega)))
      have GFW : Gr wF W := by rw [hW]; assumption
      have Z := ZF2.out.gr GFW
      have GW : Gr w W := GF.trans GFW
      have z0 := gcell_in lB e0
      have z1 := gcell_in lB e1
      clear hW k0 ZF2 hcl1 hfz1 hcl2 hfz2 hcl3 hfz3 hg1 hg2 hg3 e0 e1 lB GFW hd
      go_wp2
      (refine wp_region_grown_tail 3 mixed (by kernel_rfl) ?_; simp only [List.take_succ_cons, List.take_zero, List.drop_succ_cons, List.drop_zero]; (repeat (first | go_big_quiet_step (fail) | quiet_step (fail))); refine wpQuiet_nil ?_; intro _ hw'; obtain ⟨⟨nq, osq⟩, hw''⟩ := hw'; subst hw'')
      have GX : Gr w (grow (W.drewN nq) osq) := GW.grown nq osq
      obtain ⟨lt, c0, c1, f0, f1⟩ := Z.gr ((Gr.refl W).grown nq osq)
      clear z0 z1 GX Z
      go_wp2
      exact bodyPost_ret (v := .tuple #[.int .i64 Y, .agg #[.int .i64 N, .bool C], .int .i64 0]) (by simp [results, Tryz.results42, go_sem, *]) rfl ⟨rfl, (by repeat (first | exact Gr.refl _ | refine Gr.setCell ?_ _ _ (by first | exact Nat.le_refl _ | (simp; omega) | (simp; done)) | refine Gr.grown ?_ _ _ | refine Gr.drewN ?_ _ | refine Gr.drew ?_ | refine Gr.alloc ?_ _ | refine Gr.grow ?_ _ | (refine Gr.trans ?_ (by assumption))))⟩)

end Go.Proofs.YtkiopgegdkeojaaGreatDoor.Walks
