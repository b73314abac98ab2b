/- The next day is the next date's; dates that stand in order have days that do: the walk of the law; every input. -/
import Derived.Test.YtgjgkldkdmohjaaDoorHebTells
set_option linter.unusedVariables false
set_option linter.unusedSimpArgs false
namespace Go.Proofs.YtgjgkldkdmohjaaDoor.Walks
open Go Go.RowKit Go.Sort Go.Proofs.YtgjgkldkdmohjaaDoor.Base Go.Proofs.YtgjgkldkdmohjaaDoor.Plain Go.Proofs.YtgjgkldkdmohjaaDoor.Math

/-- Two dates: alike, or they part first at the year, the number, the leap mark or the day. -/
theorem date_part (y n : Int) (c : Bool) (d y' n' : Int) (c' : Bool) (d' : Int) :
    (y = y' ∧ n = n' ∧ c = c' ∧ d = d') ∨ ((y == y') = false ∧ y ≠ y') ∨ (y = y' ∧ (n == n') = false ∧ n ≠ n') ∨ (y = y' ∧ n = n' ∧ (c == c') = false ∧ c ≠ c') ∨ (y = y' ∧ n = n' ∧ c = c' ∧ (d == d') = false ∧ d ≠ d') := by
  by_cases h1 : y = y'
  · by_cases h2 : n = n'
    · by_cases h3 : c = c'
      · by_cases h4 : d = d'
        · exact .inl ⟨h1, h2, h3, h4⟩
        · exact .inr (.inr (.inr (.inr ⟨h1, h2, h3, beq_eq_false_iff_ne.2 h4, h4⟩)))
      · exact .inr (.inr (.inr (.inl ⟨h1, h2, beq_eq_false_iff_ne.2 h3, h3⟩)))
    · exact .inr (.inr (.inl ⟨h1, beq_eq_false_iff_ne.2 h2, h2⟩))
  · exact .inr (.inl ⟨beq_eq_false_iff_ne.2 h1, h1⟩)

set_option maxRecDepth 20000 in
set_option maxHeartbeats 16000000 in
theorem hnext_core (y n : Int) (c : Bool) (d y' n' : Int) (c' : Bool) (d' N M x1 x2 x4 H : Int) (x3 B : Bool) (w : World) (G : GT w) (r0 : -1373427 ≤ N) (r1 : N ≤ 2278650)
    (c1 : ∀ W, Gr w W → Calls Tryd.prog 43 #[.agg #[.int .i64 y, .int .i64 n, .bool c, .int .i64 d]] W fun e w' => e = .returned (.tuple #[.int .i64 N, .int .i64 0]) ∧ Gr W w')
    (c2 : ∀ W, Gr w W → Calls Tryd.prog 43 #[.agg #[.int .i64 y', .int .i64 n', .bool c', .int .i64 d']] W fun e w' => e = .returned (.tuple #[.int .i64 M, .int .i64 0]) ∧ Gr W w')
    (c3 : ∀ W, Gr w W → Calls Tryd.prog 45 #[.int .i64 (N + 1)] W fun e w' => e = .returned (.tuple #[.agg #[.int .i64 x1, .int .i64 x2, .bool x3, .int .i64 x4], .int .i64 H]) ∧ Gr W w')
    (c4 : ∀ W, Calls Tryd.prog 48 #[.agg #[.int .i64 y, .int .i64 n, .bool c, .int .i64 d], .agg #[.int .i64 y', .int .i64 n', .bool c', .int .i64 d']] W fun e w' => e = .returned (.bool B) ∧ Gr W w')
    (hB : (B == decide (N < M)) = true) (hH : H = 2 ∨ (H = 0 ∧ ∀ W, Calls Tryd.prog 48 #[.agg #[.int .i64 y, .int .i64 n, .bool c, .int .i64 d], .agg #[.int .i64 x1, .int .i64 x2, .bool x3, .int .i64 x4]] W fun e w' => e = .returned (.bool true) ∧ Gr W w'))
    (hq : (y = y' ∧ n = n' ∧ c = c' ∧ d = d') → N = M) (hq2 : N = M → (y = y' ∧ n = n' ∧ c = c' ∧ d = d')) :
    Calls Tryd.prog 13 #[.agg #[.int .i64 y, .int .i64 n, .bool c, .int .i64 d], .agg #[.int .i64 y', .int .i64 n', .bool c', .int .i64 d']] w fun e w' => e = .returned (.bool true) ∧ Gr w w' := by
  have C1 := Lib.hid c1
  have C2 := Lib.hid c2
  have C3 := Lib.hid c3
  have C4 := Lib.hid c4
  have C9 := Lib.hid fun W (hW : Gr w W) => awake10_c W (G.gr hW)
  clear c1 c2 c3 c4 G
  rcases date_part y n c d y' n' c' d' with p | ⟨q, p⟩ | ⟨rfl, q, p⟩ | ⟨rfl, rfl, q, p⟩ | ⟨rfl, rfl, rfl, q, p⟩
  · obtain rfl := hq p
    obtain ⟨rfl, rfl, rfl, rfl⟩ := p
    have hb : B = false := by simpa using hB
    subst hb
    clear hq hq2 hB
    rcases hH with rfl | ⟨rfl, c5⟩
    · go_enter Tryd.func13, Tryd.ntmps13
      go_wp2_with (first | ((go_at_call 43; (with_reducible refine (C1.out _ ((by repeat (first | exact Gr.refl _ | refine Gr.setCell ?_ _ _ (by first | exact Nat.le_refl _ | (simp; omega) | (simp; done)) | refine Gr.grown ?_ _ _ | refine Gr.drewN ?_ _ | refine Gr.drew ?_ | refine Gr.alloc ?_ _ | refine Gr.grow ?_ _ | (refine Gr.trans ?_ (by assumption)))))).mono ?_); rintro e wA ⟨rfl, hgwA⟩; obtain ⟨hclwA, hfzwA, hszwA⟩ := gcell hgwA; (try simp [Nat.add_one_le_iff] at hszwA); have hlwA_w : w.heap.size < wA.heap.size := (by omega)); have l1 : w.heap.size + 1 < wA.heap.size := hszwA) | ((go_at_call 43; (with_reducible refine (C2.out _ ((by repeat (first | exact Gr.refl _ | refine Gr.setCell ?_ _ _ (by first | exact Nat.le_refl _ | (simp; omega) | (simp; done)) | refine Gr.grown ?_ _ _ | refine Gr.drewN ?_ _ | refine Gr.drew ?_ | refine Gr.alloc ?_ _ | refine Gr.grow ?_ _ | (refine Gr.trans ?_ (by assumption)))))).mono ?_); rintro e wB ⟨rfl, hgwB⟩; obtain ⟨hclwB, hfzwB, hszwB⟩ := gcell hgwB; (try simp [Nat.add_one_le_iff] at hszwB); have hlwB_w : w.heap.size < wB.heap.size := (by omega)); have l2 : w.heap.size + 1 < wB.heap.size := (by omega)) | ((go_at_call 45; (with_reducible refine (C3.out _ ((by repeat (first | exact Gr.refl _ | refine Gr.setCell ?_ _ _ (by first | exact Nat.le_refl _ | (simp; omega) | (simp; done)) | refine Gr.grown ?_ _ _ | refine Gr.drewN ?_ _ | refine Gr.drew ?_ | refine Gr.alloc ?_ _ | refine Gr.grow ?_ _ | (refine Gr.trans ?_ (by assumption)))))).mono ?_); rintro e wC ⟨rfl, hgwC⟩; obtain ⟨hclwC, hfzwC, hszwC⟩ := gcell hgwC; (try simp [Nat.add_one_le_iff] at hszwC); have hlwC_w : w.heap.size < wC.heap.size := (by omega)); have l3 : w.heap.size + 1 < wC.heap.size := (by omega)) | ((go_at_call 46; (with_reducible refine (C9.out _ ((by repeat (first | exact Gr.refl _ | refine Gr.setCell ?_ _ _ (by first | exact Nat.le_refl _ | (simp; omega) | (simp; done)) | refine Gr.grown ?_ _ _ | refine Gr.drewN ?_ _ | refine Gr.drew ?_ | refine Gr.alloc ?_ _ | refine Gr.grow ?_ _ | (refine Gr.trans ?_ (by assumption)))))).mono ?_); rintro e wD ⟨rfl, hgwD⟩; obtain ⟨hclwD, hfzwD, hszwD⟩ := gcell hgwD; (try simp [Nat.add_one_le_iff] at hszwD); have hlwD_w : w.heap.size < wD.heap.size := (by omega); have hlwD_wC : wC.heap.size < wD.heap.size := (by omega)); have l4 : w.heap.size + 1 < wD.heap.size := (by omega)) | ((go_at_call 48; (with_reducible refine (C4.out _).mono ?_); rintro e wE ⟨rfl, hgwE⟩; obtain ⟨hclwE, hfzwE, hszwE⟩ := gcell hgwE; (try simp [Nat.add_one_le_iff] at hszwE); have hlwE_w : w.heap.size < wE.heap.size := (by omega); have hlwE_wC : wC.heap.size < wE.heap.size := (by omega)); have l5 : w.heap.size + 1 < wE.heap.size := (by omega)))
      go_ret
      exact ⟨rfl, (by repeat (first | exact Gr.refl _ | refine Gr.setCell ?_ _ _ (by first | exact Nat.le_refl _ | (simp; omega) | (simp; done)) | refine Gr.grown ?_ _ _ | refine Gr.drewN ?_ _ | refine Gr.drew ?_ | refine Gr.alloc ?_ _ | refine Gr.grow ?_ _ | (refine Gr.trans ?_ (by assumption))))⟩
    · have C5 := Lib.hid c5
      clear c5
      go_enter Tryd.func13, Tryd.ntmps13
      go_wp2_with (first | ((go_at_call 43; (with_reducible refine (C1.out _ ((by repeat (first | exact Gr.refl _ | refine Gr.setCell ?_ _ _ (by first | exact Nat.le_refl _ | (simp; omega) | (simp; done)) | refine Gr.grown ?_ _ _ | refine Gr.drewN ?_ _ | refine Gr.drew ?_ | refine Gr.alloc ?_ _ | refine Gr.grow ?_ _ | (refine Gr.trans ?_ (by assumption)))))).mono ?_); rintro e wA ⟨rfl, hgwA⟩; obtain ⟨hclwA, hfzwA, hszwA⟩ := gcell hgwA; (try simp [Nat.add_one_le_iff] at hszwA); have hlwA_w : w.heap.size < wA.heap.size := (by omega)); have l1 : w.heap.size + 1 < wA.heap.size := hszwA) | ((go_at_call 43; (with_reducible refine (C2.out _ ((by repeat (first | exact Gr.refl _ | refine Gr.setCell ?_ _ _ (by first | exact Nat.le_refl _ | (simp; omega) | (simp; done)) | refine Gr.grown ?_ _ _ | refine Gr.drewN ?_ _ | refine Gr.drew ?_ | refine Gr.alloc ?_ _ | refine Gr.grow ?_ _ | (refine Gr.trans ?_ (by assumption)))))).mono ?_); rintro e wB ⟨rfl, hgwB⟩; obtain ⟨hclwB, hfzwB, hszwB⟩ := gcell hgwB; (try simp [Nat.add_one_le_iff] at hszwB); have hlwB_w : w.heap.size < wB.heap.size := (by omega)); have l2 : w.heap.size + 1 < wB.heap.size := (by omega)) | ((go_at_call 45; (with_reducible refine (C3.out _ ((by repeat (first | exact Gr.refl _ | refine Gr.setCell ?_ _ _ (by first | exact Nat.le_refl _ | (simp; omega) | (simp; done)) | refine Gr.grown ?_ _ _ | refine Gr.drewN ?_ _ | refine Gr.drew ?_ | refine Gr.alloc ?_ _ | refine Gr.grow ?_ _ | (refine Gr.trans ?_ (by assumption)))))).mono ?_); rintro e wC ⟨rfl, hgwC⟩; obtain ⟨hclwC, hfzwC, hszwC⟩ := gcell hgwC; (try simp [Nat.add_one_le_iff] at hszwC); have hlwC_w : w.heap.size < wC.heap.size := (by omega)); have l3 : w.heap.size + 1 < wC.heap.size := (by omega)) | ((go_at_call 48; (with_reducible refine (C5.out _).mono ?_); rintro e wF ⟨rfl, hgwF⟩; obtain ⟨hclwF, hfzwF, hszwF⟩ := gcell hgwF; (try simp [Nat.add_one_le_iff] at hszwF); have hlwF_w : w.heap.size < wF.heap.size := (by omega); have hlwF_wC : wC.heap.size < wF.heap.size := (by omega)); have l6 : w.heap.size + 1 < wF.heap.size := (by omega)) | ((go_at_call 46; (with_reducible refine (C9.out _ ((by repeat (first | exact Gr.refl _ | refine Gr.setCell ?_ _ _ (by first | exact Nat.le_refl _ | (simp; omega) | (simp; done)) | refine Gr.grown ?_ _ _ | refine Gr.drewN ?_ _ | refine Gr.drew ?_ | refine Gr.alloc ?_ _ | refine Gr.grow ?_ _ | (refine Gr.trans ?_ (by assumption)))))).mono ?_); rintro e wD ⟨rfl, hgwD⟩; obtain ⟨hclwD, hfzwD, hszwD⟩ := gcell hgwD; (try simp [Nat.add_one_le_iff] at hszwD); have hlwD_w : w.heap.size < wD.heap.size := (by omega); have hlwD_wC : wC.heap.size < wD.heap.size := (by omega)); have l4 : w.heap.size + 1 < wD.heap.size := (by omega)) | ((go_at_call 48; (with_reducible refine (C4.out _).mono ?_); rintro e wE ⟨rfl, hgwE⟩; obtain ⟨hclwE, hfzwE, hszwE⟩ := gcell hgwE; (try simp [Nat.add_one_le_iff] at hszwE); have hlwE_w : w.heap.size < wE.heap.size := (by omega); have hlwE_wC : wC.heap.size < wE.heap.size := (by omega)); have l5 : w.heap.size + 1 < wE.heap.size := (by omega)))
      go_ret
      exact ⟨rfl, (by repeat (first | exact Gr.refl _ | refine Gr.setCell ?_ _ _ (by first | exact Nat.le_refl _ | (simp; omega) | (simp; done)) | refine Gr.grown ?_ _ _ | refine Gr.drewN ?_ _ | refine Gr.drew ?_ | refine Gr.alloc ?_ _ | refine Gr.grow ?_ _ | (refine Gr.trans ?_ (by assumption))))⟩
  all_goals (
    have nm : (N == M) = false := beq_eq_false_iff_ne.2 fun z => p (by first | exact (hq2 z).1 | exact (hq2 z).2.1 | exact (hq2 z).2.2.1 | exact (hq2 z).2.2.2)
    clear hq hq2 p
    rcases hH with rfl | ⟨rfl, c5⟩
    · go_enter Tryd.func13, Tryd.ntmps13
      go_wp2_with (first | ((go_at_call 43; (with_reducible refine (C1.out _ ((by repeat (first | exact Gr.refl _ | refine Gr.setCell ?_ _ _ (by first | exact Nat.le_refl _ | (simp; omega) | (simp; done)) | refine Gr.grown ?_ _ _ | refine Gr.drewN ?_ _ | refine Gr.drew ?_ | refine Gr.alloc ?_ _ | refine Gr.grow ?_ _ | (refine Gr.trans ?_ (by assumption)))))).mono ?_); rintro e wA ⟨rfl, hgwA⟩; obtain ⟨hclwA, hfzwA, hszwA⟩ := gcell hgwA; (try simp [Nat.add_one_le_iff] at hszwA); have hlwA_w : w.heap.size < wA.heap.size := (by omega)); have l1 : w.heap.size + 1 < wA.heap.size := hszwA) | ((go_at_call 43; (with_reducible refine (C2.out _ ((by repeat (first | exact Gr.refl _ | refine Gr.setCell ?_ _ _ (by first | exact Nat.le_refl _ | (simp; omega) | (simp; done)) | refine Gr.grown ?_ _ _ | refine Gr.drewN ?_ _ | refine Gr.drew ?_ | refine Gr.alloc ?_ _ | refine Gr.grow ?_ _ | (refine Gr.trans ?_ (by assumption)))))).mono ?_); rintro e wB ⟨rfl, hgwB⟩; obtain ⟨hclwB, hfzwB, hszwB⟩ := gcell hgwB; (try simp [Nat.add_one_le_iff] at hszwB); have hlwB_w : w.heap.size < wB.heap.size := (by omega)); have l2 : w.heap.size + 1 < wB.heap.size := (by omega)) | ((go_at_call 45; (with_reducible refine (C3.out _ ((by repeat (first | exact Gr.refl _ | refine Gr.setCell ?_ _ _ (by first | exact Nat.le_refl _ | (simp; omega) | (simp; done)) | refine Gr.grown ?_ _ _ | refine Gr.drewN ?_ _ | refine Gr.drew ?_ | refine Gr.alloc ?_ _ | refine Gr.grow ?_ _ | (refine Gr.trans ?_ (by assumption)))))).mono ?_); rintro e wC ⟨rfl, hgwC⟩; obtain ⟨hclwC, hfzwC, hszwC⟩ := gcell hgwC; (try simp [Nat.add_one_le_iff] at hszwC); have hlwC_w : w.heap.size < wC.heap.size := (by omega)); have l3 : w.heap.size + 1 < wC.heap.size := (by omega)) | ((go_at_call 46; (with_reducible refine (C9.out _ ((by repeat (first | exact Gr.refl _ | refine Gr.setCell ?_ _ _ (by first | exact Nat.le_refl _ | (simp; omega) | (simp; done)) | refine Gr.grown ?_ _ _ | refine Gr.drewN ?_ _ | refine Gr.drew ?_ | refine Gr.alloc ?_ _ | refine Gr.grow ?_ _ | (refine Gr.trans ?_ (by assumption)))))).mono ?_); rintro e wD ⟨rfl, hgwD⟩; obtain ⟨hclwD, hfzwD, hszwD⟩ := gcell hgwD; (try simp [Nat.add_one_le_iff] at hszwD); have hlwD_w : w.heap.size < wD.heap.size := (by omega); have hlwD_wC : wC.heap.size < wD.heap.size := (by omega)); have l4 : w.heap.size + 1 < wD.heap.size := (by omega)) | ((go_at_call 48; (with_reducible refine (C4.out _).mono ?_); rintro e wE ⟨rfl, hgwE⟩; obtain ⟨hclwE, hfzwE, hszwE⟩ := gcell hgwE; (try simp [Nat.add_one_le_iff] at hszwE); have hlwE_w : w.heap.size < wE.heap.size := (by omega); have hlwE_wC : wC.heap.size < wE.heap.size := (by omega)); have l5 : w.heap.size + 1 < wE.heap.size := (by omega)))
      go_ret
      exact ⟨rfl, (by repeat (first | exact Gr.refl _ | refine Gr.setCell ?_ _ _ (by first | exact Nat.le_refl _ | (simp; omega) | (simp; done)) | refine Gr.grown ?_ _ _ | refine Gr.drewN ?_ _ | refine Gr.drew ?_ | refine Gr.alloc ?_ _ | refine Gr.grow ?_ _ | (refine Gr.trans ?_ (by assumption))))⟩
    · have C5 := Lib.hid c5
      clear c5
      go_enter Tryd.func13, Tryd.ntmps13
      go_wp2_with (first | ((go_at_call 43; (with_reducible refine (C1.out _ ((by repeat (first | exact Gr.refl _ | refine Gr.setCell ?_ _ _ (by first | exact Nat.le_refl _ | (simp; omega) | (simp; done)) | refine Gr.grown ?_ _ _ | refine Gr.drewN ?_ _ | refine Gr.drew ?_ | refine Gr.alloc ?_ _ | refine Gr.grow ?_ _ | (refine Gr.trans ?_ (by assumption)))))).mono ?_); rintro e wA ⟨rfl, hgwA⟩; obtain ⟨hclwA, hfzwA, hszwA⟩ := gcell hgwA; (try simp [Nat.add_one_le_iff] at hszwA); have hlwA_w : w.heap.size < wA.heap.size := (by omega)); have l1 : w.heap.size + 1 < wA.heap.size := hszwA) | ((go_at_call 43; (with_reducible refine (C2.out _ ((by repeat (first | exact Gr.refl _ | refine Gr.setCell ?_ _ _ (by first | exact Nat.le_refl _ | (simp; omega) | (simp; done)) | refine Gr.grown ?_ _ _ | refine Gr.drewN ?_ _ | refine Gr.drew ?_ | refine Gr.alloc ?_ _ | refine Gr.grow ?_ _ | (refine Gr.trans ?_ (by assumption)))))).mono ?_); rintro e wB ⟨rfl, hgwB⟩; obtain ⟨hclwB, hfzwB, hszwB⟩ := gcell hgwB; (try simp [Nat.add_one_le_iff] at hszwB); have hlwB_w : w.heap.size < wB.heap.size := (by omega)); have l2 : w.heap.size + 1 < wB.heap.size := (by omega)) | ((go_at_call 45; (with_reducible refine (C3.out _ ((by repeat (first | exact Gr.refl _ | refine Gr.setCell ?_ _ _ (by first | exact Nat.le_refl _ | (simp; omega) | (simp; done)) | refine Gr.grown ?_ _ _ | refine Gr.drewN ?_ _ | refine Gr.drew ?_ | refine Gr.alloc ?_ _ | refine Gr.grow ?_ _ | (refine Gr.trans ?_ (by assumption)))))).mono ?_); rintro e wC ⟨rfl, hgwC⟩; obtain ⟨hclwC, hfzwC, hszwC⟩ := gcell hgwC; (try simp [Nat.add_one_le_iff] at hszwC); have hlwC_w : w.heap.size < wC.heap.size := (by omega)); have l3 : w.heap.size + 1 < wC.heap.size := (by omega)) | ((go_at_call 48; (with_reducible refine (C5.out _).mono ?_); rintro e wF ⟨rfl, hgwF⟩; obtain ⟨hclwF, hfzwF, hszwF⟩ := gcell hgwF; (try simp [Nat.add_one_le_iff] at hszwF); have hlwF_w : w.heap.size < wF.heap.size := (by omega); have hlwF_wC : wC.heap.size < wF.heap.size := (by omega)); have l6 : w.heap.size + 1 < wF.heap.size := (by omega)) | ((go_at_call 46; (with_reducible refine (C9.out _ ((by repeat (first | exact Gr.refl _ | refine Gr.setCell ?_ _ _ (by first | exact Nat.le_refl _ | (simp; omega) | (simp; done)) | refine Gr.grown ?_ _ _ | refine Gr.drewN ?_ _ | refine Gr.drew ?_ | refine Gr.alloc ?_ _ | refine Gr.grow ?_ _ | (refine Gr.trans ?_ (by assumption)))))).mono ?_); rintro e wD ⟨rfl, hgwD⟩; obtain ⟨hclwD, hfzwD, hszwD⟩ := gcell hgwD; (try simp [Nat.add_one_le_iff] at hszwD); have hlwD_w : w.heap.size < wD.heap.size := (by omega); have hlwD_wC : wC.heap.size < wD.heap.size := (by omega)); have l4 : w.heap.size + 1 < wD.heap.size := (by omega)) | ((go_at_call 48; (with_reducible refine (C4.out _).mono ?_); rintro e wE ⟨rfl, hgwE⟩; obtain ⟨hclwE, hfzwE, hszwE⟩ := gcell hgwE; (try simp [Nat.add_one_le_iff] at hszwE); have hlwE_w : w.heap.size < wE.heap.size := (by omega); have hlwE_wC : wC.heap.size < wE.heap.size := (by omega)); have l5 : w.heap.size + 1 < wE.heap.size := (by omega)))
      go_ret
      exact ⟨rfl, (by repeat (first | exact Gr.refl _ | refine Gr.setCell ?_ _ _ (by first | exact Nat.le_refl _ | (simp; omega) | (simp; done)) | refine Gr.grown ?_ _ _ | refine Gr.drewN ?_ _ | refine Gr.drew ?_ | refine Gr.alloc ?_ _ | refine Gr.grow ?_ _ | (refine Gr.trans ?_ (by assumption))))⟩)

set_option maxHeartbeats 4000000 in
theorem hnext_e (y n : Int) (c : Bool) (d y' n' : Int) (c' : Bool) (d' N M E F : Int) (w : World) (G : GT w)
    (c1 : ∀ W, Gr w W → Calls Tryd.prog 43 #[.agg #[.int .i64 y, .int .i64 n, .bool c, .int .i64 d]] W fun e w' => e = .returned (.tuple #[.int .i64 N, .int .i64 E]) ∧ Gr W w')
    (c2 : ∀ W, Gr w W → Calls Tryd.prog 43 #[.agg #[.int .i64 y', .int .i64 n', .bool c', .int .i64 d']] W fun e w' => e = .returned (.tuple #[.int .i64 M, .int .i64 F]) ∧ Gr W w') (h : E ≠ 0 ∨ (E = 0 ∧ F ≠ 0)) :
    Calls Tryd.prog 13 #[.agg #[.int .i64 y, .int .i64 n, .bool c, .int .i64 d], .agg #[.int .i64 y', .int .i64 n', .bool c', .int .i64 d']] w fun e w' => e = .returned (.bool true) ∧ Gr w w' := by
  have C1 := Lib.hid c1
  have C2 := Lib.hid c2
  have C9 := Lib.hid fun W (hW : Gr w W) => awake10_c W (G.gr hW)
  clear c1 c2 G
  rcases h with h | ⟨rfl, h⟩
  all_goals (
    have q := beq_eq_false_iff_ne.2 h
    clear h
    go_enter Tryd.func13, Tryd.ntmps13
    go_wp2_with (first | ((go_at_call 43; (with_reducible refine (C1.out _ ((by repeat (first | exact Gr.refl _ | refine Gr.setCell ?_ _ _ (by first | exact Nat.le_refl _ | (simp; omega) | (simp; done)) | refine Gr.grown ?_ _ _ | refine Gr.drewN ?_ _ | refine Gr.drew ?_ | refine Gr.alloc ?_ _ | refine Gr.grow ?_ _ | (refine Gr.trans ?_ (by assumption)))))).mono ?_); rintro e wA ⟨rfl, hgwA⟩; obtain ⟨hclwA, hfzwA, hszwA⟩ := gcell hgwA; (try simp [Nat.add_one_le_iff] at hszwA); have hlwA_w : w.heap.size < wA.heap.size := (by omega)); have l1 : w.heap.size + 1 < wA.heap.size := hszwA) | (go_at_call 43; (with_reducible refine (C2.out _ ((by repeat (first | exact Gr.refl _ | refine Gr.setCell ?_ _ _ (by first | exact Nat.le_refl _ | (simp; omega) | (simp; done)) | refine Gr.grown ?_ _ _ | refine Gr.drewN ?_ _ | refine Gr.drew ?_ | refine Gr.alloc ?_ _ | refine Gr.grow ?_ _ | (refine Gr.trans ?_ (by assumption)))))).mono ?_); rintro e wB ⟨rfl, hgwB⟩; obtain ⟨hclwB, hfzwB, hszwB⟩ := gcell hgwB; (try simp [Nat.add_one_le_iff] at hszwB); have hlwB_w : w.heap.size < wB.heap.size := (by omega)) | (go_at_call 46; (with_reducible refine (C9.out _ ((by repeat (first | exact Gr.refl _ | refine Gr.setCell ?_ _ _ (by first | exact Nat.le_refl _ | (simp; omega) | (simp; done)) | refine Gr.grown ?_ _ _ | refine Gr.drewN ?_ _ | refine Gr.drew ?_ | refine Gr.alloc ?_ _ | refine Gr.grow ?_ _ | (refine Gr.trans ?_ (by assumption)))))).mono ?_); rintro e wD ⟨rfl, hgwD⟩; obtain ⟨hclwD, hfzwD, hszwD⟩ := gcell hgwD; (try simp [Nat.add_one_le_iff] at hszwD); have hlwD_w : w.heap.size < wD.heap.size := (by omega)))
    go_ret
    exact ⟨rfl, (by repeat (first | exact Gr.refl _ | refine Gr.setCell ?_ _ _ (by first | exact Nat.le_refl _ | (simp; omega) | (simp; done)) | refine Gr.grown ?_ _ _ | refine Gr.drewN ?_ _ | refine Gr.drew ?_ | refine Gr.alloc ?_ _ | refine Gr.grow ?_ _ | (refine Gr.trans ?_ (by assumption))))⟩)

theorem hebNext_t (y n : Int) (c : Bool) (d y' n' : Int) (c' : Bool) (d' : Int) (w : World) (G : GT w) :
    Calls Tryd.prog 13 #[.agg #[.int .i64 y, .int .i64 n, .bool c, .int .i64 d], .agg #[.int .i64 y', .int .i64 n', .bool c', .int .i64 d']] w fun e w' => e = .returned (.bool true) ∧ Gr w w' := by
  by_cases h : ∃ j, n = cN (lp y) j ∧ c = cL (lp y) j ∧ HV y j d
  · obtain ⟨j, rfl, rfl, hv⟩ := h
    by_cases h' : ∃ j, n' = cN (lp y') j ∧ c' = cL (lp y') j ∧ HV y' j d'
    · obtain ⟨j', rfl, rfl, hv'⟩ := h'
      have rN := hd_range hv
      have c4 := fun W => hless_c y (cN (lp y) j) d y' (cN (lp y') j') d' (cL (lp y) j) (cL (lp y') j') W
      rw [dLess_at hv hv'] at c4
      have hB : (decide (y < y' ∨ (y = y' ∧ (j < j' ∨ (j = j' ∧ d < d')))) == decide (hd y j d < hd y' j' d')) = true := by
        rw [beq_iff_eq]
        exact decide_eq_decide.2 (hd_lt_iff hv hv').symm
      have hq : (y = y' ∧ cN (lp y) j = cN (lp y') j' ∧ cL (lp y) j = cL (lp y') j' ∧ d = d') → hd y j d = hd y' j' d' := by
        rintro ⟨rfl, a, b, rfl⟩
        rw [code_inj hv.j1 hv'.j1 a b]
      have hq2 : hd y j d = hd y' j' d' → (y = y' ∧ cN (lp y) j = cN (lp y') j' ∧ cL (lp y) j = cL (lp y') j' ∧ d = d') := by
        intro z
        obtain ⟨rfl, rfl, rfl⟩ := hd_inj hv hv' z
        exact ⟨rfl, rfl, rfl, rfl⟩
      by_cases g : hd y j d + 1 ≤ 2278650
      · obtain ⟨Y, i, D, hu, eu⟩ := hd_of (n := hd y j d + 1) (by omega) g
        refine hnext_core y _ _ d y' _ _ d' _ _ Y _ D 0 _ _ w G rN.1 rN.2 (fun W hW => htoday_in y j d W (G.gr hW) hv) (fun W hW => htoday_in y' j' d' W (G.gr hW) hv') (fun W hW => hfrom_in Y i D _ W (G.gr hW) hu eu) c4 hB (.inr ⟨rfl, fun W => ?_⟩) hq hq2
        have := hless_c y (cN (lp y) j) d Y (cN (lp Y) i) D (cL (lp y) j) (cL (lp Y) i) W
        have z : y < Y ∨ (y = Y ∧ (j < i ∨ (j = i ∧ d < D))) := (hd_lt_iff hv hu).1 (by omega)
        rw [dLess_at hv hu, decide_eq_true z] at this
        exact this
      · exact hnext_core y _ _ d y' _ _ d' _ _ 0 0 0 2 _ _ w G rN.1 rN.2 (fun W hW => htoday_in y j d W (G.gr hW) hv) (fun W hW => htoday_in y' j' d' W (G.gr hW) hv') (fun W hW => hfrom_out _ W (.inr (by omega))) c4 hB (.inl rfl) hq hq2
    · obtain ⟨F, e0, e1, c1, -⟩ := date_bad y' n' c' d' h'
      exact hnext_e y _ _ d y' n' c' d' _ 0 0 F w G (fun W hW => htoday_in y j d W (G.gr hW) hv) (fun W hW => htoday_e _ _ _ _ _ W (by omega) fun V hV => c1 V ((G.gr hW).gr hV)) (.inr ⟨rfl, by omega⟩)
  · obtain ⟨E, e0, e1, c1, -⟩ := date_bad y n c d h
    obtain ⟨M, F, c2, -⟩ := hdate_both y' n' c' d'
    exact hnext_e y n c d y' n' c' d' 0 M E F w G (fun W hW => htoday_e _ _ _ _ _ W (by omega) fun V hV => c1 V ((G.gr hW).gr hV)) (fun W hW => c2 W (G.gr hW)) (.inl (by omega))

end Go.Proofs.YtgjgkldkdmohjaaDoor.Walks
