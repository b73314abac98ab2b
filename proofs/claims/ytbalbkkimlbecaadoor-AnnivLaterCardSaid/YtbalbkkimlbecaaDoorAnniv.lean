/- Walks of package anniv: check, count, last, wanes, a birthday. -/
import Derived.Test.YtbalbkkimlbecaaDoorRef15
import Derived.Test.YtbalbkkimlbecaaDoorCount3
set_option linter.unusedVariables false
set_option linter.unusedSimpArgs false
namespace Go.Proofs.YtbalbkkimlbecaaDoor.Walks
open Go Go.RowKit Go.Sort Go.Proofs.YtbalbkkimlbecaaDoor.Base Go.Proofs.YtbalbkkimlbecaaDoor.Plain Go.Proofs.YtbalbkkimlbecaaDoor.Math

theorem aleap_in (y : Int) (w : World) (h0 : 0 ≤ y) (h1 : y ≤ 10001) : Calls Tryd.prog 67 #[.int .i64 y] w fun e w' => e = .returned (.bool (lp y)) ∧ Gr w w' := by
  have C1 := Lib.hid fun w => leap_in y w h0 h1
  go_enter Tryd.func67, Tryd.ntmps67
  go_wp2_with (first | (go_at_call 76; (with_reducible refine (C1.out _).mono ?_); rintro e wA ⟨rfl, hgwA⟩))
  go_ret
  exact ⟨rfl, (by repeat (first | exact Gr.refl _ | refine Gr.setCell ?_ _ _ (by first | exact Nat.le_refl _ | (simp; omega) | (simp; done)) | refine Gr.grown ?_ _ _ | refine Gr.drewN ?_ _ | refine Gr.drew ?_ | refine Gr.alloc ?_ _ | refine Gr.grow ?_ _ | (refine Gr.trans ?_ (by assumption))))⟩
/-- The error of an anniversary that is asked: of a date that tells E. -/
def anE (y t E : Int) : Int := if E = 0 then (if t < 1 ∨ 9999 < t then 2 else if t ≤ y then 1 else 0) else E
set_option maxHeartbeats 2000000 in
theorem ancheck_c (y n d t E : Int) (c : Bool) (w : World) (h : ∀ W, Gr w W → Calls Tryd.prog 37 #[.agg #[.int .i64 y, .int .i64 n, .bool c, .int .i64 d]] W fun e w' => e = .returned (.int .i64 E) ∧ Gr W w') :
    Calls Tryd.prog 59 #[.agg #[.int .i64 y, .int .i64 n, .bool c, .int .i64 d], .int .i64 t] w fun e w' => e = .returned (.int .i64 (anE y t E)) ∧ Gr w w' := by
  have C1 := Lib.hid h
  clear h
  unfold anE
  by_cases hE : E = 0
  · subst hE
    rw [if_pos rfl]
    by_cases g0 : t < 1
    · rw [if_pos (.inl g0)]
      have q0 : decide (t < 1) = true := decide_eq_true g0
      go_enter Tryd.func59, Tryd.ntmps59
      go_wp2_with (first | (go_at_call 37; (with_reducible refine (C1.out _ ((by repeat (first | exact Gr.refl _ | refine Gr.setCell ?_ _ _ (by first | exact Nat.le_refl _ | (simp; omega) | (simp; done)) | refine Gr.grown ?_ _ _ | refine Gr.drewN ?_ _ | refine Gr.drew ?_ | refine Gr.alloc ?_ _ | refine Gr.grow ?_ _ | (refine Gr.trans ?_ (by assumption)))))).mono ?_); rintro e wA ⟨rfl, hgwA⟩; obtain ⟨hclwA, hfzwA, hszwA⟩ := gcell hgwA; (try simp [Nat.add_one_le_iff] at hszwA); have hlwA_w : w.heap.size < wA.heap.size := (by omega)))
      go_ret
      exact ⟨rfl, (by repeat (first | exact Gr.refl _ | refine Gr.setCell ?_ _ _ (by first | exact Nat.le_refl _ | (simp; omega) | (simp; done)) | refine Gr.grown ?_ _ _ | refine Gr.drewN ?_ _ | refine Gr.drew ?_ | refine Gr.alloc ?_ _ | refine Gr.grow ?_ _ | (refine Gr.trans ?_ (by assumption))))⟩
    · have q0 : decide (t < 1) = false := decide_eq_false g0
      by_cases g1 : 9999 < t
      · rw [if_pos (.inr g1)]
        have q1 : decide (9999 < t) = true := decide_eq_true g1
        go_enter Tryd.func59, Tryd.ntmps59
        go_wp2_with (first | (go_at_call 37; (with_reducible refine (C1.out _ ((by repeat (first | exact Gr.refl _ | refine Gr.setCell ?_ _ _ (by first | exact Nat.le_refl _ | (simp; omega) | (simp; done)) | refine Gr.grown ?_ _ _ | refine Gr.drewN ?_ _ | refine Gr.drew ?_ | refine Gr.alloc ?_ _ | refine Gr.grow ?_ _ | (refine Gr.trans ?_ (by assumption)))))).mono ?_); rintro e wA ⟨rfl, hgwA⟩; obtain ⟨hclwA, hfzwA, hszwA⟩ := gcell hgwA; (try simp [Nat.add_one_le_iff] at hszwA); have hlwA_w : w.heap.size < wA.heap.size := (by omega)))
        go_ret
        exact ⟨rfl, (by repeat (first | exact Gr.refl _ | refine Gr.setCell ?_ _ _ (by first | exact Nat.le_refl _ | (simp; omega) | (simp; done)) | refine Gr.grown ?_ _ _ | refine Gr.drewN ?_ _ | refine Gr.drew ?_ | refine Gr.alloc ?_ _ | refine Gr.grow ?_ _ | (refine Gr.trans ?_ (by assumption))))⟩
      · have q1 : decide (9999 < t) = false := decide_eq_false g1
        rw [if_neg (by omega)]
        by_cases g2 : t ≤ y
        · rw [if_pos g2]
          have q2 : decide (t ≤ y) = true := decide_eq_true g2
          go_enter Tryd.func59, Tryd.ntmps59
          go_wp2_with (first | (go_at_call 37; (with_reducible refine (C1.out _ ((by repeat (first | exact Gr.refl _ | refine Gr.setCell ?_ _ _ (by first | exact Nat.le_refl _ | (simp; omega) | (simp; done)) | refine Gr.grown ?_ _ _ | refine Gr.drewN ?_ _ | refine Gr.drew ?_ | refine Gr.alloc ?_ _ | refine Gr.grow ?_ _ | (refine Gr.trans ?_ (by assumption)))))).mono ?_); rintro e wA ⟨rfl, hgwA⟩; obtain ⟨hclwA, hfzwA, hszwA⟩ := gcell hgwA; (try simp [Nat.add_one_le_iff] at hszwA); have hlwA_w : w.heap.size < wA.heap.size := (by omega)))
          go_ret
          exact ⟨rfl, (by repeat (first | exact Gr.refl _ | refine Gr.setCell ?_ _ _ (by first | exact Nat.le_refl _ | (simp; omega) | (simp; done)) | refine Gr.grown ?_ _ _ | refine Gr.drewN ?_ _ | refine Gr.drew ?_ | refine Gr.alloc ?_ _ | refine Gr.grow ?_ _ | (refine Gr.trans ?_ (by assumption))))⟩
        · rw [if_neg g2]
          have q2 : decide (t ≤ y) = false := decide_eq_false g2
          go_enter Tryd.func59, Tryd.ntmps59
          go_wp2_with (first | (go_at_call 37; (with_reducible refine (C1.out _ ((by repeat (first | exact Gr.refl _ | refine Gr.setCell ?_ _ _ (by first | exact Nat.le_refl _ | (simp; omega) | (simp; done)) | refine Gr.grown ?_ _ _ | refine Gr.drewN ?_ _ | refine Gr.drew ?_ | refine Gr.alloc ?_ _ | refine Gr.grow ?_ _ | (refine Gr.trans ?_ (by assumption)))))).mono ?_); rintro e wA ⟨rfl, hgwA⟩; obtain ⟨hclwA, hfzwA, hszwA⟩ := gcell hgwA; (try simp [Nat.add_one_le_iff] at hszwA); have hlwA_w : w.heap.size < wA.heap.size := (by omega)))
          go_ret
          exact ⟨rfl, (by repeat (first | exact Gr.refl _ | refine Gr.setCell ?_ _ _ (by first | exact Nat.le_refl _ | (simp; omega) | (simp; done)) | refine Gr.grown ?_ _ _ | refine Gr.drewN ?_ _ | refine Gr.drew ?_ | refine Gr.alloc ?_ _ | refine Gr.grow ?_ _ | (refine Gr.trans ?_ (by assumption))))⟩
  · rw [if_neg hE]
    have q : (E == 0) = false := beq_eq_false_iff_ne.2 hE
    have q2 : (E != 0) = true := by simp [bne_iff_ne, hE]
    go_enter Tryd.func59, Tryd.ntmps59
    go_wp2_with (first | (go_at_call 37; (with_reducible refine (C1.out _ ((by repeat (first | exact Gr.refl _ | refine Gr.setCell ?_ _ _ (by first | exact Nat.le_refl _ | (simp; omega) | (simp; done)) | refine Gr.grown ?_ _ _ | refine Gr.drewN ?_ _ | refine Gr.drew ?_ | refine Gr.alloc ?_ _ | refine Gr.grow ?_ _ | (refine Gr.trans ?_ (by assumption)))))).mono ?_); rintro e wA ⟨rfl, hgwA⟩; obtain ⟨hclwA, hfzwA, hszwA⟩ := gcell hgwA; (try simp [Nat.add_one_le_iff] at hszwA); have hlwA_w : w.heap.size < wA.heap.size := (by omega)))
    go_ret
    exact ⟨rfl, (by repeat (first | exact Gr.refl _ | refine Gr.setCell ?_ _ _ (by first | exact Nat.le_refl _ | (simp; omega) | (simp; done)) | refine Gr.grown ?_ _ _ | refine Gr.drewN ?_ _ | refine Gr.drew ?_ | refine Gr.alloc ?_ _ | refine Gr.grow ?_ _ | (refine Gr.trans ?_ (by assumption))))⟩
set_option maxHeartbeats 2000000 in
theorem ancount_c (t n d A x1 x2 x4 : Int) (c x3 : Bool) (w : World) (a0 : -1373427 ≤ A) (a1 : A ≤ 2278650) (d0 : 1 ≤ d) (d1 : d ≤ 30)
    (h1 : ∀ W, Gr w W → Calls Tryd.prog 92 #[.agg #[.int .i64 t, .int .i64 n, .bool c, .int .i64 1]] W fun e w' => e = .returned (.tuple #[.int .i64 A, .int .i64 0]) ∧ Gr W w')
    (h2 : ∀ W, Gr w W → Calls Tryd.prog 55 #[.int .i64 (A + d - 1)] W fun e w' => e = .returned (.tuple #[.agg #[.int .i64 x1, .int .i64 x2, .bool x3, .int .i64 x4], .int .i64 0]) ∧ Gr W w') :
    Calls Tryd.prog 61 #[.int .i64 t, .agg #[.int .i64 n, .bool c], .int .i64 d] w fun e w' => e = .returned (.tuple #[.agg #[.int .i64 x1, .int .i64 x2, .bool x3, .int .i64 x4], .int .i64 0]) ∧ Gr w w' := by
  have C1 := Lib.hid h1
  have C2 := Lib.hid h2
  clear h1 h2
  go_enter Tryd.func61, Tryd.ntmps61
  go_wp2_with (first | ((go_at_call 92; (with_reducible refine (C1.out _ ((by repeat (first | exact Gr.refl _ | refine Gr.setCell ?_ _ _ (by first | exact Nat.le_refl _ | (simp; omega) | (simp; done)) | refine Gr.grown ?_ _ _ | refine Gr.drewN ?_ _ | refine Gr.drew ?_ | refine Gr.alloc ?_ _ | refine Gr.grow ?_ _ | (refine Gr.trans ?_ (by assumption)))))).mono ?_); rintro e wA ⟨rfl, hgwA⟩); have RA := (D4.at (w := w.alloc (.cells #[.int .i64 n, .bool c] 23)) (b := w.heap.size + 1) (by simp) 0 0 0 false).gr hgwA; have GA : Gr w wA := ((by repeat (first | exact Gr.refl _ | refine Gr.setCell ?_ _ _ (by first | exact Nat.le_refl _ | (simp; omega) | (simp; done)) | refine Gr.grown ?_ _ _ | refine Gr.drewN ?_ _ | refine Gr.drew ?_ | refine Gr.alloc ?_ _ | refine Gr.grow ?_ _ | (refine Gr.trans ?_ (by assumption))))); clear hgwA) | ((go_at_call 55; (with_reducible refine (C2.out _ ((by repeat (first | exact Gr.refl _ | refine Gr.setCell ?_ _ _ (by first | exact Nat.le_refl _ | (simp; omega) | (simp; done)) | refine Gr.grown ?_ _ _ | refine Gr.drewN ?_ _ | refine Gr.drew ?_ | refine Gr.alloc ?_ _ | refine Gr.grow ?_ _ | (refine Gr.trans ?_ (by assumption)))))).mono ?_); rintro e wB ⟨rfl, hgwB⟩); obtain ⟨lr, r0, r1, r2, r3, g0, g1, g2, g3⟩ := RA.gr hgwB; have GB : Gr w wB := GA.trans hgwB; clear hgwB RA GA))
  exact bodyPost_ret (v := .tuple #[.agg #[.int .i64 x1, .int .i64 x2, .bool x3, .int .i64 x4], .int .i64 0]) (by simp [results, Tryd.results61, go_sem, *]) rfl ⟨rfl, (by repeat (first | exact Gr.refl _ | refine Gr.setCell ?_ _ _ (by first | exact Nat.le_refl _ | (simp; omega) | (simp; done)) | refine Gr.grown ?_ _ _ | refine Gr.drewN ?_ _ | refine Gr.drew ?_ | refine Gr.alloc ?_ _ | refine Gr.grow ?_ _ | (refine Gr.trans ?_ (by assumption))))⟩
set_option maxHeartbeats 2000000 in
theorem anlast_c (t n L E : Int) (c : Bool) (w : World)
    (h1 : ∀ W, Gr w W → Calls Tryd.prog 97 #[.int .i64 t, .agg #[.int .i64 n, .bool c]] W fun e w' => e = .returned (.tuple #[.int .i64 L, .int .i64 E]) ∧ Gr W w') :
    Calls Tryd.prog 66 #[.int .i64 t, .agg #[.int .i64 n, .bool c]] w fun e w' => e = .returned (.tuple #[.agg #[.int .i64 t, .int .i64 n, .bool c, .int .i64 L], .int .i64 E]) ∧ Gr w w' := by
  have C1 := Lib.hid h1
  clear h1
  go_enter Tryd.func66, Tryd.ntmps66
  go_wp2_with (first | ((go_at_call 97; (with_reducible refine (C1.out _ ((by repeat (first | exact Gr.refl _ | refine Gr.setCell ?_ _ _ (by first | exact Nat.le_refl _ | (simp; omega) | (simp; done)) | refine Gr.grown ?_ _ _ | refine Gr.drewN ?_ _ | refine Gr.drew ?_ | refine Gr.alloc ?_ _ | refine Gr.grow ?_ _ | (refine Gr.trans ?_ (by assumption)))))).mono ?_); rintro e wA ⟨rfl, hgwA⟩); obtain ⟨lr, r0, r1, r2, r3, g0, g1, g2, g3⟩ := (D4.at (w := w.alloc (.cells #[.int .i64 n, .bool c] 23)) (b := w.heap.size + 1) (by simp) 0 0 0 false).gr hgwA; have GA : Gr w wA := ((by repeat (first | exact Gr.refl _ | refine Gr.setCell ?_ _ _ (by first | exact Nat.le_refl _ | (simp; omega) | (simp; done)) | refine Gr.grown ?_ _ _ | refine Gr.drewN ?_ _ | refine Gr.drew ?_ | refine Gr.alloc ?_ _ | refine Gr.grow ?_ _ | (refine Gr.trans ?_ (by assumption))))); have k0 := hgwA.keep (b := w.heap.size) (o := 0) (v := .int .i64 n) (by first | (simp; done) | (simp; omega)) (by simp [go_sem]); have k1 := hgwA.keep (b := w.heap.size) (o := 1) (v := .bool c) (by first | (simp; done) | (simp; omega)) (by simp [go_sem]); have kf0 := hgwA.thaw (b := w.heap.size) (o := 0) (v := false) (by first | (simp; done) | (simp; omega)) (by simp [go_sem]); have kf1 := hgwA.thaw (b := w.heap.size) (o := 1) (v := false) (by first | (simp; done) | (simp; omega)) (by simp [go_sem]); clear hgwA))
  exact bodyPost_ret (v := .tuple #[.agg #[.int .i64 t, .int .i64 n, .bool c, .int .i64 L], .int .i64 E]) (by simp [results, Tryd.results66, go_sem, *]) rfl ⟨rfl, (by repeat (first | exact Gr.refl _ | refine Gr.setCell ?_ _ _ (by first | exact Nat.le_refl _ | (simp; omega) | (simp; done)) | refine Gr.grown ?_ _ _ | refine Gr.drewN ?_ _ | refine Gr.drew ?_ | refine Gr.alloc ?_ _ | refine Gr.grow ?_ _ | (refine Gr.trans ?_ (by assumption))))⟩
set_option maxHeartbeats 2000000 in
theorem anwanes_c (y n d L : Int) (c : Bool) (w : World) (y0 : 1 ≤ y) (y1 : y ≤ 9999)
    (h1 : d = 30 ∧ (n = 2 ∨ n = 3) → ∃ E : Int, ∀ W, Gr w W → Calls Tryd.prog 97 #[.int .i64 (y + 1), .agg #[.int .i64 n, .bool c]] W fun e w' => e = .returned (.tuple #[.int .i64 L, .int .i64 E]) ∧ Gr W w') :
    Calls Tryd.prog 65 #[.agg #[.int .i64 y, .int .i64 n, .bool c, .int .i64 d]] w fun e w' => e = .returned (.bool (decide (d = 30 ∧ (n = 2 ∨ n = 3) ∧ L < 30))) ∧ Gr w w' := by
  by_cases hd : d = 30
  · by_cases hn : n = 2 ∨ n = 3
    · obtain ⟨E, h⟩ := h1 ⟨hd, hn⟩
      have C1 := Lib.hid h
      have e : decide (d = 30 ∧ (n = 2 ∨ n = 3) ∧ L < 30) = decide (L < 30) := decide_eq_decide.2 ⟨fun z => z.2.2, fun z => ⟨hd, hn, z⟩⟩
      rw [e]
      clear h h1 e
      subst hd
      rcases hn with rfl | rfl
      all_goals (
        go_enter Tryd.func65, Tryd.ntmps65
        go_wp2_with (first | (go_at_call 97; (with_reducible refine (C1.out _ ((by repeat (first | exact Gr.refl _ | refine Gr.setCell ?_ _ _ (by first | exact Nat.le_refl _ | (simp; omega) | (simp; done)) | refine Gr.grown ?_ _ _ | refine Gr.drewN ?_ _ | refine Gr.drew ?_ | refine Gr.alloc ?_ _ | refine Gr.grow ?_ _ | (refine Gr.trans ?_ (by assumption)))))).mono ?_); rintro e wA ⟨rfl, hgwA⟩; obtain ⟨hclwA, hfzwA, hszwA⟩ := gcell hgwA; (try simp [Nat.add_one_le_iff] at hszwA); have hlwA_w : w.heap.size < wA.heap.size := (by omega)))
        go_ret
        exact ⟨rfl, (by repeat (first | exact Gr.refl _ | refine Gr.setCell ?_ _ _ (by first | exact Nat.le_refl _ | (simp; omega) | (simp; done)) | refine Gr.grown ?_ _ _ | refine Gr.drewN ?_ _ | refine Gr.drew ?_ | refine Gr.alloc ?_ _ | refine Gr.grow ?_ _ | (refine Gr.trans ?_ (by assumption))))⟩)
    · have e : decide (d = 30 ∧ (n = 2 ∨ n = 3) ∧ L < 30) = false := decide_eq_false fun z => hn z.2.1
      rw [e]
      have n2 : ¬ n = 2 := fun z => hn (.inl z)
      have n3 : ¬ n = 3 := fun z => hn (.inr z)
      have q2 : (n != 2) = true := by simp [bne_iff_ne, n2]
      have q3 : (n != 3) = true := by simp [bne_iff_ne, n3]
      have q4 : (n == 2) = false := beq_eq_false_iff_ne.2 n2
      have q5 : (n == 3) = false := beq_eq_false_iff_ne.2 n3
      clear h1 e hn
      subst hd
      go_enter Tryd.func65, Tryd.ntmps65
      go_wp2
      go_ret
      exact ⟨rfl, (by repeat (first | exact Gr.refl _ | refine Gr.setCell ?_ _ _ (by first | exact Nat.le_refl _ | (simp; omega) | (simp; done)) | refine Gr.grown ?_ _ _ | refine Gr.drewN ?_ _ | refine Gr.drew ?_ | refine Gr.alloc ?_ _ | refine Gr.grow ?_ _ | (refine Gr.trans ?_ (by assumption))))⟩
  · have e : decide (d = 30 ∧ (n = 2 ∨ n = 3) ∧ L < 30) = false := decide_eq_false fun z => hd z.1
    rw [e]
    have q2 : (d != 30) = true := by simp [bne_iff_ne, hd]
    have q4 : (d == 30) = false := beq_eq_false_iff_ne.2 hd
    clear h1 e
    go_enter Tryd.func65, Tryd.ntmps65
    go_wp2
    go_ret
    exact ⟨rfl, (by repeat (first | exact Gr.refl _ | refine Gr.setCell ?_ _ _ (by first | exact Nat.le_refl _ | (simp; omega) | (simp; done)) | refine Gr.grown ?_ _ _ | refine Gr.drewN ?_ _ | refine Gr.drew ?_ | refine Gr.alloc ?_ _ | refine Gr.grow ?_ _ | (refine Gr.trans ?_ (by assumption))))⟩
set_option maxHeartbeats 2000000 in
theorem birth_e (y n d t E : Int) (c : Bool) (w : World) (hE : E ≠ 0) (h : ∀ W, Gr w W → Calls Tryd.prog 59 #[.agg #[.int .i64 y, .int .i64 n, .bool c, .int .i64 d], .int .i64 t] W fun e w' => e = .returned (.int .i64 E) ∧ Gr W w') :
    Calls Tryd.prog 32 #[.agg #[.int .i64 y, .int .i64 n, .bool c, .int .i64 d], .int .i64 t] w fun e w' => e = .returned (.tuple #[.agg #[.int .i64 0, .int .i64 0, .bool false, .int .i64 0], .int .i64 E]) ∧ Gr w w' := by
  have C1 := Lib.hid h
  have q : (E == 0) = false := beq_eq_false_iff_ne.2 hE
  clear h
  go_enter Tryd.func32, Tryd.ntmps32
  go_wp2_with (first | ((go_at_call 59; (with_reducible refine (C1.out _ ((by repeat (first | exact Gr.refl _ | refine Gr.setCell ?_ _ _ (by first | exact Nat.le_refl _ | (simp; omega) | (simp; done)) | refine Gr.grown ?_ _ _ | refine Gr.drewN ?_ _ | refine Gr.drew ?_ | refine Gr.alloc ?_ _ | refine Gr.grow ?_ _ | (refine Gr.trans ?_ (by assumption)))))).mono ?_); rintro e wA ⟨rfl, hgwA⟩); obtain ⟨lt, c0, c1, c2, c3, f0, f1, f2, f3⟩ := (D4.two w y n d c).2.gr hgwA))
  exact bodyPost_ret (v := .tuple #[.agg #[.int .i64 0, .int .i64 0, .bool false, .int .i64 0], .int .i64 E]) (by simp [results, Tryd.results32, go_sem, *]) rfl ⟨rfl, (by repeat (first | exact Gr.refl _ | refine Gr.setCell ?_ _ _ (by first | exact Nat.le_refl _ | (simp; omega) | (simp; done)) | refine Gr.grown ?_ _ _ | refine Gr.drewN ?_ _ | refine Gr.drew ?_ | refine Gr.alloc ?_ _ | refine Gr.grow ?_ _ | (refine Gr.trans ?_ (by assumption))))⟩
set_option maxHeartbeats 4000000 in
theorem birth_in (y n d t N x1 x2 x4 : Int) (c C x3 : Bool) (w : World)
    (h1 : ∀ W, Gr w W → Calls Tryd.prog 59 #[.agg #[.int .i64 y, .int .i64 n, .bool c, .int .i64 d], .int .i64 t] W fun e w' => e = .returned (.int .i64 0) ∧ Gr W w')
    (h2 : ∀ w, Calls Tryd.prog 60 #[.int .i64 t, .agg #[.int .i64 n, .bool c], .int .i64 0] w fun e w' => e = .returned (.tuple #[.agg #[.int .i64 N, .bool C], .int .i64 0]) ∧ Gr w w')
    (h3 : ∀ W, Gr w W → Calls Tryd.prog 61 #[.int .i64 t, .agg #[.int .i64 N, .bool C], .int .i64 d] W fun e w' => e = .returned (.tuple #[.agg #[.int .i64 x1, .int .i64 x2, .bool x3, .int .i64 x4], .int .i64 0]) ∧ Gr W w') :
    Calls Tryd.prog 32 #[.agg #[.int .i64 y, .int .i64 n, .bool c, .int .i64 d], .int .i64 t] w fun e w' => e = .returned (.tuple #[.agg #[.int .i64 x1, .int .i64 x2, .bool x3, .int .i64 x4], .int .i64 0]) ∧ Gr w w' := by
  have C1 := Lib.hid h1
  have C2 := Lib.hid h2
  have C3 := Lib.hid h3
  clear h1 h2 h3
  go_enter Tryd.func32, Tryd.ntmps32
  go_wp2_with (first | ((go_at_call 59; (with_reducible refine (C1.out _ ((by repeat (first | exact Gr.refl _ | refine Gr.setCell ?_ _ _ (by first | exact Nat.le_refl _ | (simp; omega) | (simp; done)) | refine Gr.grown ?_ _ _ | refine Gr.drewN ?_ _ | refine Gr.drew ?_ | refine Gr.alloc ?_ _ | refine Gr.grow ?_ _ | (refine Gr.trans ?_ (by assumption)))))).mono ?_); rintro e wA ⟨rfl, hgwA⟩); have DA := (D4.two w y n d c).1.gr hgwA; have RA := (D4.two w y n d c).2.gr hgwA; have GA : Gr w wA := ((by repeat (first | exact Gr.refl _ | refine Gr.setCell ?_ _ _ (by first | exact Nat.le_refl _ | (simp; omega) | (simp; done)) | refine Gr.grown ?_ _ _ | refine Gr.drewN ?_ _ | refine Gr.drew ?_ | refine Gr.alloc ?_ _ | refine Gr.grow ?_ _ | (refine Gr.trans ?_ (by assumption))))); clear hgwA; obtain ⟨lt, c0, c1, c2, c3, f0, f1, f2, f3⟩ := DA) | ((go_at_call 60; (with_reducible refine (C2.out _).mono ?_); rintro e wB ⟨rfl, hgwB⟩); have DB := (D4.mk lt c0 c1 c2 c3 f0 f1 f2 f3).gr hgwB; have RB := RA.gr hgwB; have GB : Gr w wB := GA.trans hgwB; clear hgwB RA GA lt c0 c1 c2 c3 f0 f1 f2 f3; obtain ⟨lt, c0, c1, c2, c3, f0, f1, f2, f3⟩ := DB) | ((go_at_call 61; (with_reducible refine (C3.out _ ((by repeat (first | exact Gr.refl _ | refine Gr.setCell ?_ _ _ (by first | exact Nat.le_refl _ | (simp; omega) | (simp; done)) | refine Gr.grown ?_ _ _ | refine Gr.drewN ?_ _ | refine Gr.drew ?_ | refine Gr.alloc ?_ _ | refine Gr.grow ?_ _ | (refine Gr.trans ?_ (by assumption)))))).mono ?_); rintro e wC ⟨rfl, hgwC⟩); obtain ⟨lr, r0, r1, r2, r3, g0, g1, g2, g3⟩ := (RB.gr ((Gr.refl _).alloc _)).gr hgwC; have GC : Gr w wC := ((by repeat (first | exact Gr.refl _ | refine Gr.setCell ?_ _ _ (by first | exact Nat.le_refl _ | (simp; omega) | (simp; done)) | refine Gr.grown ?_ _ _ | refine Gr.drewN ?_ _ | refine Gr.drew ?_ | refine Gr.alloc ?_ _ | refine Gr.grow ?_ _ | (refine Gr.trans ?_ (by assumption))))); clear hgwC))
  exact bodyPost_ret (v := .tuple #[.agg #[.int .i64 x1, .int .i64 x2, .bool x3, .int .i64 x4], .int .i64 0]) (by simp [results, Tryd.results32, go_sem, *]) rfl ⟨rfl, (by repeat (first | exact Gr.refl _ | refine Gr.setCell ?_ _ _ (by first | exact Nat.le_refl _ | (simp; omega) | (simp; done)) | refine Gr.grown ?_ _ _ | refine Gr.drewN ?_ _ | refine Gr.drew ?_ | refine Gr.alloc ?_ _ | refine Gr.grow ?_ _ | (refine Gr.trans ?_ (by assumption))))⟩

end Go.Proofs.YtbalbkkimlbecaaDoor.Walks
