/- A month on is the next code of the year, or the next year's first one: the walk of the law; every input. -/
import Derived.Test.YtgjgkldkdmohjaaDoorShiftTells
import Derived.Test.YtgjgkldkdmohjaaDoorHebMonths
set_option linter.unusedVariables false
set_option linter.unusedSimpArgs false
namespace Go.Proofs.YtgjgkldkdmohjaaDoor.Walks
open Go Go.RowKit Go.Sort Go.Proofs.YtgjgkldkdmohjaaDoor.Base Go.Proofs.YtgjgkldkdmohjaaDoor.Plain Go.Proofs.YtgjgkldkdmohjaaDoor.Math

set_option maxRecDepth 20000 in
set_option maxHeartbeats 8000000 in
theorem sone_core (y n L K x2 F g0 gE : Int) (c x3 : Bool) (w : World) (G : GT w) (y0 : 1 ≤ y) (y1 : y ≤ 9999) (n0 : 1 ≤ n) (n1 : n ≤ 12)
    (c1 : ∀ w, Calls Tryd.prog 37 #[.int .i64 y, .agg #[.int .i64 n, .bool c]] w fun e w' => e = .returned (.tuple #[.int .i64 L, .int .i64 0]) ∧ Gr w w')
    (c2 : ∀ W, Gr w W → Calls Tryd.prog 35 #[.int .i64 y, .agg #[.int .i64 n, .bool c], .int .i64 1] W fun e w' => e = .returned (.tuple #[.int .i64 K, .agg #[.int .i64 x2, .bool x3], .int .i64 F]) ∧ Gr W w')
    (c3 : ∀ w, Calls Tryd.prog 37 #[.int .i64 y, .agg #[.int .i64 5, .bool true]] w fun e w' => e = .returned (.tuple #[.int .i64 g0, .int .i64 gE]) ∧ Gr w w')
    (hq : (n = 12 ∧ y = 9999 ∧ F = 2) ∨ (n = 12 ∧ y ≠ 9999 ∧ F = 0 ∧ K = y + 1 ∧ x2 = 1 ∧ x3 = false) ∨ (n ≠ 12 ∧ n ≠ 5 ∧ F = 0 ∧ K = y ∧ x2 = n + 1 ∧ x3 = false) ∨
      (n = 5 ∧ c = true ∧ F = 0 ∧ K = y ∧ x2 = 6 ∧ x3 = false) ∨ (n = 5 ∧ c = false ∧ gE = 0 ∧ F = 0 ∧ K = y ∧ x2 = 5 ∧ x3 = true) ∨ (n = 5 ∧ c = false ∧ gE ≠ 0 ∧ F = 0 ∧ K = y ∧ x2 = 6 ∧ x3 = false)) :
    Calls Tryd.prog 9 #[.int .i64 y, .agg #[.int .i64 n, .bool c]] w fun e w' => e = .returned (.bool true) ∧ Gr w w' := by
  have C2 := Lib.hid c2
  have C3 := Lib.hid c3
  have C9 := Lib.hid fun W (hW : Gr w W) => awake15_c W (G.gr hW)
  clear c2 c3 G
  rcases hq with ⟨rfl, rfl, rfl⟩ | ⟨rfl, hy, rfl, rfl, rfl, rfl⟩ | ⟨h12, h5, rfl, rfl, rfl, rfl⟩ | ⟨rfl, rfl, rfl, rfl, rfl, rfl⟩ | ⟨rfl, rfl, rfl, rfl, rfl, rfl, rfl⟩ | ⟨rfl, rfl, hg, rfl, rfl, rfl, rfl⟩
  · have C1 := Lib.hid c1
    clear c1
    go_enter Tryd.func9, Tryd.ntmps9
    go_wp2_with (first | (go_at_call 37; (with_reducible refine (C1.out _).mono ?_); rintro e wA ⟨rfl, hgwA⟩; obtain ⟨hclwA, hfzwA, hszwA⟩ := gcell hgwA; (try simp [Nat.add_one_le_iff] at hszwA); have hlwA_w : w.heap.size < wA.heap.size := (by omega)) | ((go_at_call 35; (with_reducible refine (C2.out _ ((by repeat (first | exact Gr.refl _ | refine Gr.setCell ?_ _ _ (by first | exact Nat.le_refl _ | (simp; omega) | (simp; done)) | refine Gr.grown ?_ _ _ | refine Gr.drewN ?_ _ | refine Gr.drew ?_ | refine Gr.alloc ?_ _ | refine Gr.grow ?_ _ | (refine Gr.trans ?_ (by assumption)))))).mono ?_); rintro e wB ⟨rfl, hgwB⟩; obtain ⟨hclwB, hfzwB, hszwB⟩ := gcell hgwB; (try simp [Nat.add_one_le_iff] at hszwB); have hlwB_w : w.heap.size < wB.heap.size := (by omega)); have z2 : w.heap.size < wB.heap.size + 1 + 1 := (by omega); have z3 : wB.heap.size < wB.heap.size + 1 + 1 := (by omega)) | (go_at_call 36; (with_reducible refine (C9.out _ ((by repeat (first | exact Gr.refl _ | refine Gr.setCell ?_ _ _ (by first | exact Nat.le_refl _ | (simp; omega) | (simp; done)) | refine Gr.grown ?_ _ _ | refine Gr.drewN ?_ _ | refine Gr.drew ?_ | refine Gr.alloc ?_ _ | refine Gr.grow ?_ _ | (refine Gr.trans ?_ (by assumption)))))).mono ?_); rintro e wD ⟨rfl, hgwD⟩; obtain ⟨hclwD, hfzwD, hszwD⟩ := gcell hgwD; (try simp [Nat.add_one_le_iff] at hszwD); have hlwD_w : w.heap.size < wD.heap.size := (by omega); have hlwD_wB : wB.heap.size < wD.heap.size := (by omega)))
    go_ret
    exact ⟨rfl, (by repeat (first | exact Gr.refl _ | refine Gr.setCell ?_ _ _ (by first | exact Nat.le_refl _ | (simp; omega) | (simp; done)) | refine Gr.grown ?_ _ _ | refine Gr.drewN ?_ _ | refine Gr.drew ?_ | refine Gr.alloc ?_ _ | refine Gr.grow ?_ _ | (refine Gr.trans ?_ (by assumption))))⟩
  · have C1 := Lib.hid c1
    have qy : (y == 9999) = false := beq_eq_false_iff_ne.2 hy
    clear c1 hy
    go_enter Tryd.func9, Tryd.ntmps9
    go_wp2_with (first | (go_at_call 37; (with_reducible refine (C1.out _).mono ?_); rintro e wA ⟨rfl, hgwA⟩; obtain ⟨hclwA, hfzwA, hszwA⟩ := gcell hgwA; (try simp [Nat.add_one_le_iff] at hszwA); have hlwA_w : w.heap.size < wA.heap.size := (by omega)) | ((go_at_call 35; (with_reducible refine (C2.out _ ((by repeat (first | exact Gr.refl _ | refine Gr.setCell ?_ _ _ (by first | exact Nat.le_refl _ | (simp; omega) | (simp; done)) | refine Gr.grown ?_ _ _ | refine Gr.drewN ?_ _ | refine Gr.drew ?_ | refine Gr.alloc ?_ _ | refine Gr.grow ?_ _ | (refine Gr.trans ?_ (by assumption)))))).mono ?_); rintro e wB ⟨rfl, hgwB⟩; obtain ⟨hclwB, hfzwB, hszwB⟩ := gcell hgwB; (try simp [Nat.add_one_le_iff] at hszwB); have hlwB_w : w.heap.size < wB.heap.size := (by omega)); have z2 : w.heap.size < wB.heap.size + 1 + 1 := (by omega); have z3 : wB.heap.size < wB.heap.size + 1 + 1 := (by omega)) | (go_at_call 36; (with_reducible refine (C9.out _ ((by repeat (first | exact Gr.refl _ | refine Gr.setCell ?_ _ _ (by first | exact Nat.le_refl _ | (simp; omega) | (simp; done)) | refine Gr.grown ?_ _ _ | refine Gr.drewN ?_ _ | refine Gr.drew ?_ | refine Gr.alloc ?_ _ | refine Gr.grow ?_ _ | (refine Gr.trans ?_ (by assumption)))))).mono ?_); rintro e wD ⟨rfl, hgwD⟩; obtain ⟨hclwD, hfzwD, hszwD⟩ := gcell hgwD; (try simp [Nat.add_one_le_iff] at hszwD); have hlwD_w : w.heap.size < wD.heap.size := (by omega); have hlwD_wB : wB.heap.size < wD.heap.size := (by omega)))
    go_ret
    exact ⟨rfl, (by repeat (first | exact Gr.refl _ | refine Gr.setCell ?_ _ _ (by first | exact Nat.le_refl _ | (simp; omega) | (simp; done)) | refine Gr.grown ?_ _ _ | refine Gr.drewN ?_ _ | refine Gr.drew ?_ | refine Gr.alloc ?_ _ | refine Gr.grow ?_ _ | (refine Gr.trans ?_ (by assumption))))⟩
  · have C1 := Lib.hid c1
    have q12 : (n == 12) = false := beq_eq_false_iff_ne.2 h12
    have q5 : (n == 5) = false := beq_eq_false_iff_ne.2 h5
    clear c1 h12 h5
    go_enter Tryd.func9, Tryd.ntmps9
    go_wp2_with (first | (go_at_call 37; (with_reducible refine (C1.out _).mono ?_); rintro e wA ⟨rfl, hgwA⟩; obtain ⟨hclwA, hfzwA, hszwA⟩ := gcell hgwA; (try simp [Nat.add_one_le_iff] at hszwA); have hlwA_w : w.heap.size < wA.heap.size := (by omega)) | ((go_at_call 35; (with_reducible refine (C2.out _ ((by repeat (first | exact Gr.refl _ | refine Gr.setCell ?_ _ _ (by first | exact Nat.le_refl _ | (simp; omega) | (simp; done)) | refine Gr.grown ?_ _ _ | refine Gr.drewN ?_ _ | refine Gr.drew ?_ | refine Gr.alloc ?_ _ | refine Gr.grow ?_ _ | (refine Gr.trans ?_ (by assumption)))))).mono ?_); rintro e wB ⟨rfl, hgwB⟩; obtain ⟨hclwB, hfzwB, hszwB⟩ := gcell hgwB; (try simp [Nat.add_one_le_iff] at hszwB); have hlwB_w : w.heap.size < wB.heap.size := (by omega)); have z2 : w.heap.size < wB.heap.size + 1 + 1 := (by omega); have z3 : wB.heap.size < wB.heap.size + 1 + 1 := (by omega)) | ((go_at_call 37; (with_reducible refine (C3.out _).mono ?_); rintro e wC ⟨rfl, hgwC⟩; obtain ⟨hclwC, hfzwC, hszwC⟩ := gcell hgwC; (try simp [Nat.add_one_le_iff] at hszwC); have hlwC_w : w.heap.size < wC.heap.size := (by omega); have hlwC_wB : wB.heap.size < wC.heap.size := (by omega)); have l9 : wB.heap.size + 1 < wC.heap.size := hszwC) | ((go_at_call 36; (with_reducible refine (C9.out _ ((by repeat (first | exact Gr.refl _ | refine Gr.setCell ?_ _ _ (by first | exact Nat.le_refl _ | (simp; omega) | (simp; done)) | refine Gr.grown ?_ _ _ | refine Gr.drewN ?_ _ | refine Gr.drew ?_ | refine Gr.alloc ?_ _ | refine Gr.grow ?_ _ | (refine Gr.trans ?_ (by assumption)))))).mono ?_); rintro e wD ⟨rfl, hgwD⟩; obtain ⟨hclwD, hfzwD, hszwD⟩ := gcell hgwD; (try simp [Nat.add_one_le_iff] at hszwD); have hlwD_w : w.heap.size < wD.heap.size := (by omega); have hlwD_wB : wB.heap.size < wD.heap.size := (by omega)); have l10 : wB.heap.size + 1 < wD.heap.size := (by omega)))
    go_ret
    exact ⟨rfl, (by repeat (first | exact Gr.refl _ | refine Gr.setCell ?_ _ _ (by first | exact Nat.le_refl _ | (simp; omega) | (simp; done)) | refine Gr.grown ?_ _ _ | refine Gr.drewN ?_ _ | refine Gr.drew ?_ | refine Gr.alloc ?_ _ | refine Gr.grow ?_ _ | (refine Gr.trans ?_ (by assumption))))⟩
  · have C1 := Lib.hid c1
    clear c1
    go_enter Tryd.func9, Tryd.ntmps9
    go_wp2_with (first | ((go_at_call 37; (with_reducible refine (C3.out _).mono ?_); rintro e wC ⟨rfl, hgwC⟩; obtain ⟨hclwC, hfzwC, hszwC⟩ := gcell hgwC; (try simp [Nat.add_one_le_iff] at hszwC); have hlwC_w : w.heap.size < wC.heap.size := (by omega); have hlwC_wB : wB.heap.size < wC.heap.size := (by omega)); have l9 : wB.heap.size + 1 < wC.heap.size := hszwC) | (go_at_call 37; (with_reducible refine (C1.out _).mono ?_); rintro e wA ⟨rfl, hgwA⟩; obtain ⟨hclwA, hfzwA, hszwA⟩ := gcell hgwA; (try simp [Nat.add_one_le_iff] at hszwA); have hlwA_w : w.heap.size < wA.heap.size := (by omega)) | ((go_at_call 35; (with_reducible refine (C2.out _ ((by repeat (first | exact Gr.refl _ | refine Gr.setCell ?_ _ _ (by first | exact Nat.le_refl _ | (simp; omega) | (simp; done)) | refine Gr.grown ?_ _ _ | refine Gr.drewN ?_ _ | refine Gr.drew ?_ | refine Gr.alloc ?_ _ | refine Gr.grow ?_ _ | (refine Gr.trans ?_ (by assumption)))))).mono ?_); rintro e wB ⟨rfl, hgwB⟩; obtain ⟨hclwB, hfzwB, hszwB⟩ := gcell hgwB; (try simp [Nat.add_one_le_iff] at hszwB); have hlwB_w : w.heap.size < wB.heap.size := (by omega)); have z2 : w.heap.size < wB.heap.size + 1 + 1 := (by omega); have z3 : wB.heap.size < wB.heap.size + 1 + 1 := (by omega)) | ((go_at_call 36; (with_reducible refine (C9.out _ ((by repeat (first | exact Gr.refl _ | refine Gr.setCell ?_ _ _ (by first | exact Nat.le_refl _ | (simp; omega) | (simp; done)) | refine Gr.grown ?_ _ _ | refine Gr.drewN ?_ _ | refine Gr.drew ?_ | refine Gr.alloc ?_ _ | refine Gr.grow ?_ _ | (refine Gr.trans ?_ (by assumption)))))).mono ?_); rintro e wD ⟨rfl, hgwD⟩; obtain ⟨hclwD, hfzwD, hszwD⟩ := gcell hgwD; (try simp [Nat.add_one_le_iff] at hszwD); have hlwD_w : w.heap.size < wD.heap.size := (by omega); have hlwD_wB : wB.heap.size < wD.heap.size := (by omega)); have l10 : wB.heap.size + 1 < wD.heap.size := (by omega)))
    go_ret
    exact ⟨rfl, (by repeat (first | exact Gr.refl _ | refine Gr.setCell ?_ _ _ (by first | exact Nat.le_refl _ | (simp; omega) | (simp; done)) | refine Gr.grown ?_ _ _ | refine Gr.drewN ?_ _ | refine Gr.drew ?_ | refine Gr.alloc ?_ _ | refine Gr.grow ?_ _ | (refine Gr.trans ?_ (by assumption))))⟩
  · have C1 := Lib.hid c1
    clear c1
    go_enter Tryd.func9, Tryd.ntmps9
    go_wp2_with (first | (go_at_call 37; (with_reducible refine (C1.out _).mono ?_); rintro e wA ⟨rfl, hgwA⟩; obtain ⟨hclwA, hfzwA, hszwA⟩ := gcell hgwA; (try simp [Nat.add_one_le_iff] at hszwA); have hlwA_w : w.heap.size < wA.heap.size := (by omega)) | ((go_at_call 35; (with_reducible refine (C2.out _ ((by repeat (first | exact Gr.refl _ | refine Gr.setCell ?_ _ _ (by first | exact Nat.le_refl _ | (simp; omega) | (simp; done)) | refine Gr.grown ?_ _ _ | refine Gr.drewN ?_ _ | refine Gr.drew ?_ | refine Gr.alloc ?_ _ | refine Gr.grow ?_ _ | (refine Gr.trans ?_ (by assumption)))))).mono ?_); rintro e wB ⟨rfl, hgwB⟩; obtain ⟨hclwB, hfzwB, hszwB⟩ := gcell hgwB; (try simp [Nat.add_one_le_iff] at hszwB); have hlwB_w : w.heap.size < wB.heap.size := (by omega)); have z2 : w.heap.size < wB.heap.size + 1 + 1 := (by omega); have z3 : wB.heap.size < wB.heap.size + 1 + 1 := (by omega)) | ((go_at_call 37; (with_reducible refine (C3.out _).mono ?_); rintro e wC ⟨rfl, hgwC⟩; obtain ⟨hclwC, hfzwC, hszwC⟩ := gcell hgwC; (try simp [Nat.add_one_le_iff] at hszwC); have hlwC_w : w.heap.size < wC.heap.size := (by omega); have hlwC_wB : wB.heap.size < wC.heap.size := (by omega)); have l9 : wB.heap.size + 1 < wC.heap.size := hszwC) | ((go_at_call 36; (with_reducible refine (C9.out _ ((by repeat (first | exact Gr.refl _ | refine Gr.setCell ?_ _ _ (by first | exact Nat.le_refl _ | (simp; omega) | (simp; done)) | refine Gr.grown ?_ _ _ | refine Gr.drewN ?_ _ | refine Gr.drew ?_ | refine Gr.alloc ?_ _ | refine Gr.grow ?_ _ | (refine Gr.trans ?_ (by assumption)))))).mono ?_); rintro e wD ⟨rfl, hgwD⟩; obtain ⟨hclwD, hfzwD, hszwD⟩ := gcell hgwD; (try simp [Nat.add_one_le_iff] at hszwD); have hlwD_w : w.heap.size < wD.heap.size := (by omega); have hlwD_wB : wB.heap.size < wD.heap.size := (by omega)); have l10 : wB.heap.size + 1 < wD.heap.size := (by omega)))
    go_ret
    exact ⟨rfl, (by repeat (first | exact Gr.refl _ | refine Gr.setCell ?_ _ _ (by first | exact Nat.le_refl _ | (simp; omega) | (simp; done)) | refine Gr.grown ?_ _ _ | refine Gr.drewN ?_ _ | refine Gr.drew ?_ | refine Gr.alloc ?_ _ | refine Gr.grow ?_ _ | (refine Gr.trans ?_ (by assumption))))⟩
  · have C1 := Lib.hid c1
    have qg : (gE == 0) = false := beq_eq_false_iff_ne.2 hg
    clear c1 hg
    go_enter Tryd.func9, Tryd.ntmps9
    go_wp2_with (first | (go_at_call 37; (with_reducible refine (C1.out _).mono ?_); rintro e wA ⟨rfl, hgwA⟩; obtain ⟨hclwA, hfzwA, hszwA⟩ := gcell hgwA; (try simp [Nat.add_one_le_iff] at hszwA); have hlwA_w : w.heap.size < wA.heap.size := (by omega)) | ((go_at_call 35; (with_reducible refine (C2.out _ ((by repeat (first | exact Gr.refl _ | refine Gr.setCell ?_ _ _ (by first | exact Nat.le_refl _ | (simp; omega) | (simp; done)) | refine Gr.grown ?_ _ _ | refine Gr.drewN ?_ _ | refine Gr.drew ?_ | refine Gr.alloc ?_ _ | refine Gr.grow ?_ _ | (refine Gr.trans ?_ (by assumption)))))).mono ?_); rintro e wB ⟨rfl, hgwB⟩; obtain ⟨hclwB, hfzwB, hszwB⟩ := gcell hgwB; (try simp [Nat.add_one_le_iff] at hszwB); have hlwB_w : w.heap.size < wB.heap.size := (by omega)); have z2 : w.heap.size < wB.heap.size + 1 + 1 := (by omega); have z3 : wB.heap.size < wB.heap.size + 1 + 1 := (by omega)) | ((go_at_call 37; (with_reducible refine (C3.out _).mono ?_); rintro e wC ⟨rfl, hgwC⟩; obtain ⟨hclwC, hfzwC, hszwC⟩ := gcell hgwC; (try simp [Nat.add_one_le_iff] at hszwC); have hlwC_w : w.heap.size < wC.heap.size := (by omega); have hlwC_wB : wB.heap.size < wC.heap.size := (by omega)); have l9 : wB.heap.size + 1 < wC.heap.size := hszwC) | ((go_at_call 36; (with_reducible refine (C9.out _ ((by repeat (first | exact Gr.refl _ | refine Gr.setCell ?_ _ _ (by first | exact Nat.le_refl _ | (simp; omega) | (simp; done)) | refine Gr.grown ?_ _ _ | refine Gr.drewN ?_ _ | refine Gr.drew ?_ | refine Gr.alloc ?_ _ | refine Gr.grow ?_ _ | (refine Gr.trans ?_ (by assumption)))))).mono ?_); rintro e wD ⟨rfl, hgwD⟩; obtain ⟨hclwD, hfzwD, hszwD⟩ := gcell hgwD; (try simp [Nat.add_one_le_iff] at hszwD); have hlwD_w : w.heap.size < wD.heap.size := (by omega); have hlwD_wB : wB.heap.size < wD.heap.size := (by omega)); have l10 : wB.heap.size + 1 < wD.heap.size := (by omega)))
    go_ret
    exact ⟨rfl, (by repeat (first | exact Gr.refl _ | refine Gr.setCell ?_ _ _ (by first | exact Nat.le_refl _ | (simp; omega) | (simp; done)) | refine Gr.grown ?_ _ _ | refine Gr.drewN ?_ _ | refine Gr.drew ?_ | refine Gr.alloc ?_ _ | refine Gr.grow ?_ _ | (refine Gr.trans ?_ (by assumption))))⟩
set_option maxHeartbeats 2000000 in
theorem sone_e (y n E : Int) (c : Bool) (w : World) (G : GT w) (hE : E ≠ 0)
    (c1 : ∀ w, Calls Tryd.prog 37 #[.int .i64 y, .agg #[.int .i64 n, .bool c]] w fun e w' => e = .returned (.tuple #[.int .i64 0, .int .i64 E]) ∧ Gr w w')
    (c2 : ∀ W, Gr w W → Calls Tryd.prog 35 #[.int .i64 y, .agg #[.int .i64 n, .bool c], .int .i64 1] W fun e w' => e = .returned (.tuple #[.int .i64 0, .agg #[.int .i64 0, .bool false], .int .i64 E]) ∧ Gr W w') :
    Calls Tryd.prog 9 #[.int .i64 y, .agg #[.int .i64 n, .bool c]] w fun e w' => e = .returned (.bool true) ∧ Gr w w' := by
  have C1 := Lib.hid c1
  have C2 := Lib.hid c2
  have C9 := Lib.hid fun W (hW : Gr w W) => awake15_c W (G.gr hW)
  have q : (E == 0) = false := beq_eq_false_iff_ne.2 hE
  clear c1 c2 G hE
  go_enter Tryd.func9, Tryd.ntmps9
  go_wp2_with (first | (go_at_call 37; (with_reducible refine (C1.out _).mono ?_); rintro e wA ⟨rfl, hgwA⟩; obtain ⟨hclwA, hfzwA, hszwA⟩ := gcell hgwA; (try simp [Nat.add_one_le_iff] at hszwA); have hlwA_w : w.heap.size < wA.heap.size := (by omega)) | ((go_at_call 35; (with_reducible refine (C2.out _ ((by repeat (first | exact Gr.refl _ | refine Gr.setCell ?_ _ _ (by first | exact Nat.le_refl _ | (simp; omega) | (simp; done)) | refine Gr.grown ?_ _ _ | refine Gr.drewN ?_ _ | refine Gr.drew ?_ | refine Gr.alloc ?_ _ | refine Gr.grow ?_ _ | (refine Gr.trans ?_ (by assumption)))))).mono ?_); rintro e wB ⟨rfl, hgwB⟩; obtain ⟨hclwB, hfzwB, hszwB⟩ := gcell hgwB; (try simp [Nat.add_one_le_iff] at hszwB); have hlwB_w : w.heap.size < wB.heap.size := (by omega)); have z2 : w.heap.size < wB.heap.size + 1 + 1 := (by omega); have z3 : wB.heap.size < wB.heap.size + 1 + 1 := (by omega)) | (go_at_call 36; (with_reducible refine (C9.out _ ((by repeat (first | exact Gr.refl _ | refine Gr.setCell ?_ _ _ (by first | exact Nat.le_refl _ | (simp; omega) | (simp; done)) | refine Gr.grown ?_ _ _ | refine Gr.drewN ?_ _ | refine Gr.drew ?_ | refine Gr.alloc ?_ _ | refine Gr.grow ?_ _ | (refine Gr.trans ?_ (by assumption)))))).mono ?_); rintro e wD ⟨rfl, hgwD⟩; obtain ⟨hclwD, hfzwD, hszwD⟩ := gcell hgwD; (try simp [Nat.add_one_le_iff] at hszwD); have hlwD_w : w.heap.size < wD.heap.size := (by omega); have hlwD_wB : wB.heap.size < wD.heap.size := (by omega)))
  go_ret
  exact ⟨rfl, (by repeat (first | exact Gr.refl _ | refine Gr.setCell ?_ _ _ (by first | exact Nat.le_refl _ | (simp; omega) | (simp; done)) | refine Gr.grown ?_ _ _ | refine Gr.drewN ?_ _ | refine Gr.drew ?_ | refine Gr.alloc ?_ _ | refine Gr.grow ?_ _ | (refine Gr.trans ?_ (by assumption))))⟩
theorem code_step : ∀ l : Bool, ∀ j : Nat, j < 13 → j + 1 < mct l → (cN l j ≠ 12 ∧ cN l j ≠ 5 ∧ cN l (j + 1) = cN l j + 1 ∧ cL l (j + 1) = false) ∨ (cN l j = 5 ∧ cL l j = true ∧ cN l (j + 1) = 6 ∧ cL l (j + 1) = false) ∨
    (cN l j = 5 ∧ cL l j = false ∧ l = true ∧ cN l (j + 1) = 5 ∧ cL l (j + 1) = true) ∨ (cN l j = 5 ∧ cL l j = false ∧ l = false ∧ cN l (j + 1) = 6 ∧ cL l (j + 1) = false) := by
  intro l j hj h
  have : j = 0 ∨ j = 1 ∨ j = 2 ∨ j = 3 ∨ j = 4 ∨ j = 5 ∨ j = 6 ∨ j = 7 ∨ j = 8 ∨ j = 9 ∨ j = 10 ∨ j = 11 ∨ j = 12 := by omega
  rcases this with rfl | rfl | rfl | rfl | rfl | rfl | rfl | rfl | rfl | rfl | rfl | rfl | rfl <;> cases l <;> first | decide | exact absurd h (by decide)
theorem shiftOne_t (y n : Int) (c : Bool) (w : World) (G : GT w) :
    Calls Tryd.prog 9 #[.int .i64 y, .agg #[.int .i64 n, .bool c]] w fun e w' => e = .returned (.bool true) ∧ Gr w w' := by
  by_cases h : y < 1 ∨ 9999 < y
  · exact sone_e y n 2 c w G (by decide) (fun w => r10last_y y n c w h) fun W hW => smonths_e _ _ _ _ _ W (by decide) fun V hV => hlast_e _ _ _ _ V (by decide) fun w => find_y y n c w h
  · cases hc : cHas (lp y) n c
    · exact sone_e y n 3 c w G (by decide) (fun w => r10last_m y n c w (by omega) (by omega) hc) fun W hW => smonths_e _ _ _ _ _ W (by decide) fun V hV => hlast_e _ _ _ _ V (by decide) fun w => find_m y n c w (by omega) (by omega) hc
    · obtain ⟨j, hj, rfl, rfl⟩ := code_in hc
      have y0 : 1 ≤ y := by omega
      have y1 : y ≤ 9999 := by omega
      have m13 := mct_le (lp y)
      have nr := cN_range (lp y) hj
      obtain ⟨g0, gE, hg, c3⟩ : ∃ g0 gE : Int, ((lp y = true → gE = 0) ∧ (lp y = false → gE ≠ 0)) ∧ ∀ w, Calls Tryd.prog 37 #[.int .i64 y, .agg #[.int .i64 5, .bool true]] w fun e w' => e = .returned (.tuple #[.int .i64 g0, .int .i64 gE]) ∧ Gr w w' := by
        cases hl : lp y
        · exact ⟨0, 3, ⟨fun z => (by cases z), fun _ => (by decide)⟩, fun w => r10last_m y 5 true w y0 y1 (by rw [hl]; decide)⟩
        · refine ⟨mlen (kk y) (lp y) 5, 0, ⟨fun _ => rfl, fun z => (by cases z)⟩, fun w => ?_⟩
          have := r10last_in y 5 w y0 y1 (by rw [hl]; decide)
          rw [hl] at this ⊢
          exact this
      by_cases g : j + 1 < mct (lp y)
      · have c2 : ∀ W, Gr w W → _ := fun W hW => smonths_in y j 1 y (j + 1) W (G.gr hW) y0 y1 hj (by decide) (by decide) y0 y1 g (by omega)
        refine sone_core y _ _ y _ 0 g0 gE _ _ w G y0 y1 nr.1 nr.2 (fun w => r10last_in y j w y0 y1 hj) c2 c3 ?_
        rcases code_step (lp y) j (by omega) g with ⟨a, b, d, e⟩ | ⟨a, b, d, e⟩ | ⟨a, b, d, e, f⟩ | ⟨a, b, d, e, f⟩
        · exact .inr (.inr (.inl ⟨a, b, rfl, rfl, d, e⟩))
        · exact .inr (.inr (.inr (.inl ⟨a, b, rfl, rfl, d, e⟩)))
        · exact .inr (.inr (.inr (.inr (.inl ⟨a, b, hg.1 d, rfl, rfl, e, f⟩))))
        · exact .inr (.inr (.inr (.inr (.inr ⟨a, b, hg.2 d, rfl, rfl, e, f⟩))))
      · have ej : j = mct (lp y) - 1 := by omega
        have cn := cN_last (lp y)
        rw [← ej] at cn
        have nx := bf_next y
        by_cases g9 : y = 9999
        · have c2 : ∀ W, Gr w W → _ := fun W hW => smonths_rng y j 1 W (G.gr hW) y0 y1 hj (by decide) (by decide) (.inr (by have := bf_all; rw [g9] at nx ⊢; rw [show (9999 : Int) + 1 = 10000 from rfl] at nx; rw [g9] at ej m13; omega))
          exact sone_core y _ _ 0 0 2 g0 gE _ _ w G y0 y1 nr.1 nr.2 (fun w => r10last_in y j w y0 y1 hj) c2 c3 (.inl ⟨cn.1, g9, rfl⟩)
        · have cf := cN_first (lp (y + 1))
          have c2 : ∀ W, Gr w W → _ := fun W hW => smonths_in y j 1 (y + 1) 0 W (G.gr hW) y0 y1 hj (by decide) (by decide) (by omega) (by omega) (by have := mct_le (lp (y + 1)); omega) (by omega)
          exact sone_core y _ _ (y + 1) _ 0 g0 gE _ _ w G y0 y1 nr.1 nr.2 (fun w => r10last_in y j w y0 y1 hj) c2 c3 (.inr (.inl ⟨cn.1, g9, rfl, rfl, cf.1, cf.2⟩))

end Go.Proofs.YtgjgkldkdmohjaaDoor.Walks
