/- Walks of package keviah and of its reference: the reference's years; types and their numbers. -/
import Derived.Test.YtkiopgegdkeojaaGreatDoorKeviah
set_option linter.unusedVariables false
set_option linter.unusedSimpArgs false
namespace Go.Proofs.YtkiopgegdkeojaaGreatDoor.Walks
open Go Go.RowKit Go.Sort Go.Proofs.YtkiopgegdkeojaaGreatDoor.Base Go.Proofs.YtkiopgegdkeojaaGreatDoor.Plain Go.Proofs.YtkiopgegdkeojaaGreatDoor.Math

theorem rright7_c (y : Int) (w : World) : Calls Tryz.prog 47 #[.int .i64 y] w fun e w' => e = .returned (.bool (kyR y)) ∧ Gr w w' := by
  by_cases h : 1 ≤ y
  · by_cases g : y ≤ 9999
    · have E : RowKit.Hid (true = kyR y) := Lib.hid (by unfold kyR; rw [decide_eq_true (⟨h, g⟩ : 1 ≤ y ∧ y ≤ 9999)])
      go_enter Tryz.func47, Tryz.ntmps47
      go_wp2
      go_ret
      exact ⟨retb E.out, (by repeat (first | exact Gr.refl _ | refine Gr.setCell ?_ _ _ (by first | exact Nat.le_refl _ | (simp; omega) | (simp; done)) | refine Gr.grown ?_ _ _ | refine Gr.drewN ?_ _ | refine Gr.drew ?_ | refine Gr.alloc ?_ _ | refine Gr.grow ?_ _ | (refine Gr.trans ?_ (by assumption))))⟩
    · have E : RowKit.Hid (decide (y ≤ 9999) = kyR y) := Lib.hid (by unfold kyR; rw [decide_eq_false g, decide_eq_false (fun c => g c.2)])
      clear g
      go_enter Tryz.func47, Tryz.ntmps47
      go_wp2
      go_ret
      exact ⟨retb E.out, (by repeat (first | exact Gr.refl _ | refine Gr.setCell ?_ _ _ (by first | exact Nat.le_refl _ | (simp; omega) | (simp; done)) | refine Gr.grown ?_ _ _ | refine Gr.drewN ?_ _ | refine Gr.drew ?_ | refine Gr.alloc ?_ _ | refine Gr.grow ?_ _ | (refine Gr.trans ?_ (by assumption))))⟩
  · have E : RowKit.Hid (false = kyR y) := Lib.hid (by unfold kyR; rw [decide_eq_false (by omega)])
    have g2 : y < 1 := by omega
    clear h
    go_enter Tryz.func47, Tryz.ntmps47
    go_wp2
    go_ret
    exact ⟨retb E.out, (by repeat (first | exact Gr.refl _ | refine Gr.setCell ?_ _ _ (by first | exact Nat.le_refl _ | (simp; omega) | (simp; done)) | refine Gr.grown ?_ _ _ | refine Gr.drewN ?_ _ | refine Gr.drew ?_ | refine Gr.alloc ?_ _ | refine Gr.grow ?_ _ | (refine Gr.trans ?_ (by assumption))))⟩

set_option maxHeartbeats 1000000 in
theorem rlong7_in (y : Int) (w : World) (h0 : 1 ≤ y) (h1 : y ≤ 9999) : Calls Tryz.prog 62 #[.int .i64 y] w fun e w' => e = .returned (.tuple #[.int .i64 (kln y), .int .i64 0]) ∧ Gr w w' := by
  obtain ⟨A, hA⟩ : ∃ A, fy y = A := ⟨_, rfl⟩
  obtain ⟨B, hB⟩ : ∃ B, fy (y + 1) = B := ⟨_, rfl⟩
  have HK : RowKit.Hid (B - A = kln y) := Lib.hid (by unfold kln; rw [hA, hB])
  have rA := fy_range (y := y) (by omega) (by omega)
  have rB := fy_range (y := y + 1) (by omega) (by omega)
  rw [hA] at rA
  rw [hB] at rB
  obtain ⟨a0, a1⟩ := rA
  obtain ⟨b0, b1⟩ := rB
  have C0 : RowKit.Hid (∀ w, Calls Tryz.prog 47 #[.int .i64 y] w fun e w' => e = .returned (.bool true) ∧ Gr w w') := Lib.hid fun w => by
    have := rright7_c y w; rwa [show kyR y = true from decide_eq_true ⟨h0, h1⟩] at this
  have C1 : RowKit.Hid (∀ w, Calls Tryz.prog 38 #[.int .i64 y] w fun e w' => e = .returned (.tuple #[.int .i64 A, .int .i64 0]) ∧ Gr w w') := Lib.hid fun w => by
    have := rfirst_in y w (by omega) (by omega); rwa [hA] at this
  have C2 : RowKit.Hid (∀ w, Calls Tryz.prog 38 #[.int .i64 (y + 1)] w fun e w' => e = .returned (.tuple #[.int .i64 B, .int .i64 0]) ∧ Gr w w') := Lib.hid fun w => by
    have := rfirst_in (y + 1) w (by omega) (by omega); rwa [hB] at this
  clear hA hB
  go_enter Tryz.func62, Tryz.ntmps62
  go_wp2_with (first | (go_at_call 47; (with_reducible refine (C0.out _).mono ?_); rintro e wR ⟨rfl, hgwR⟩) | (go_at_call 38; (with_reducible refine (C1.out _).mono ?_); rintro e wA ⟨rfl, hgwA⟩) | (go_at_call 38; (with_reducible refine (C2.out _).mono ?_); rintro e wB ⟨rfl, hgwB⟩))
  go_ret2
  exact ⟨ret2 HK.out rfl, (by repeat (first | exact Gr.refl _ | refine Gr.setCell ?_ _ _ (by first | exact Nat.le_refl _ | (simp; omega) | (simp; done)) | refine Gr.grown ?_ _ _ | refine Gr.drewN ?_ _ | refine Gr.drew ?_ | refine Gr.alloc ?_ _ | refine Gr.grow ?_ _ | (refine Gr.trans ?_ (by assumption))))⟩
theorem rlong7_out (y : Int) (w : World) (h : y < 1 ∨ 9999 < y) : Calls Tryz.prog 62 #[.int .i64 y] w fun e w' => e = .returned (.tuple #[.int .i64 0, .int .i64 2]) ∧ Gr w w' := by
  have C0 : RowKit.Hid (∀ w, Calls Tryz.prog 47 #[.int .i64 y] w fun e w' => e = .returned (.bool false) ∧ Gr w w') := Lib.hid fun w => by
    have := rright7_c y w; rwa [show kyR y = false from decide_eq_false (by omega)] at this
  clear h
  go_enter Tryz.func62, Tryz.ntmps62
  go_wp2_with (first | (go_at_call 47; (with_reducible refine (C0.out _).mono ?_); rintro e wR ⟨rfl, hgwR⟩))
  go_ret2
  exact ⟨rfl, (by repeat (first | exact Gr.refl _ | refine Gr.setCell ?_ _ _ (by first | exact Nat.le_refl _ | (simp; omega) | (simp; done)) | refine Gr.grown ?_ _ _ | refine Gr.drewN ?_ _ | refine Gr.drew ?_ | refine Gr.alloc ?_ _ | refine Gr.grow ?_ _ | (refine Gr.trans ?_ (by assumption))))⟩

theorem kk_leap {y : Int} (h0 : 1 ≤ y) (h1 : y ≤ 9999) : kk y = (if lp y = true then kln y - 383 else kln y - 353) ∧ 0 ≤ kk y ∧ kk y ≤ 2 := by
  have h := year_facts y.toNat (by omega)
  rw [show ((y.toNat : Nat) : Int) = y from by omega] at h
  obtain ⟨a, b, -⟩ := h
  unfold kk kln
  cases hl : lp y
  · simp only [hl, Bool.false_eq_true, if_false] at a b ⊢; omega
  · simp only [hl, if_true] at a b ⊢; omega

set_option maxHeartbeats 1000000 in
theorem rkof_in (y : Int) (w : World) (h0 : 1 ≤ y) (h1 : y ≤ 9999) : Calls Tryz.prog 36 #[.int .i64 y] w fun e w' => e = .returned (.tuple #[.agg #[.int .i64 (kb y), .int .i64 (kk y), .bool (lp y)], .int .i64 0]) ∧ Gr w w' := by
  have hk := (kk_leap h0 h1).1
  obtain ⟨L, hL⟩ : ∃ L, kln y = L := ⟨_, rfl⟩
  obtain ⟨A, hA⟩ : ∃ A, fy y = A := ⟨_, rfl⟩
  have rL := kln_range h0 h1
  rw [hL] at rL hk
  obtain ⟨l0, l1⟩ := rL
  have rA := fy_range (y := y) (by omega) (by omega)
  rw [hA] at rA
  obtain ⟨a0, a1⟩ := rA
  have K1 : RowKit.Hid (A % 7 = kb y) := Lib.hid (by unfold kb; rw [hA])
  have C0 : RowKit.Hid (∀ w, Calls Tryz.prog 62 #[.int .i64 y] w fun e w' => e = .returned (.tuple #[.int .i64 L, .int .i64 0]) ∧ Gr w w') := Lib.hid fun w => by
    have := rlong7_in y w h0 h1; rwa [hL] at this
  have C1 : RowKit.Hid (∀ w, Calls Tryz.prog 38 #[.int .i64 y] w fun e w' => e = .returned (.tuple #[.int .i64 A, .int .i64 0]) ∧ Gr w w') := Lib.hid fun w => by
    have := rfirst_in y w (by omega) (by omega); rwa [hA] at this
  obtain ⟨l, hl⟩ : ∃ l, lp y = l := ⟨_, rfl⟩
  have C2 : RowKit.Hid (∀ w, Calls Tryz.prog 49 #[.int .i64 y] w fun e w' => e = .returned (.bool l) ∧ Gr w w') := Lib.hid fun w => by
    have := ris_c y w (by omega) (by omega); rwa [hl] at this
  rw [hl]
  rw [hl] at hk
  clear hL hA hl
  cases l
  · simp only [Bool.false_eq_true, if_false] at hk
    have K2 : RowKit.Hid (L - 353 = kk y) := Lib.hid hk.symm
    clear hk
    go_enter Tryz.func36, Tryz.ntmps36
    go_wp2_with (first | (go_at_call 62; (with_reducible refine (C0.out _).mono ?_); rintro e wA ⟨rfl, hgwA⟩; obtain ⟨hclwA, hfzwA, hszwA⟩ := gcell hgwA; (try simp [Nat.add_one_le_iff] at hszwA); have hlwA_w : w.heap.size < wA.heap.size := (by omega)) | (go_at_call 38; (with_reducible refine (C1.out _).mono ?_); rintro e wB ⟨rfl, hgwB⟩; obtain ⟨hclwB, hfzwB, hszwB⟩ := gcell hgwB; (try simp [Nat.add_one_le_iff] at hszwB); have hlwB_w : w.heap.size < wB.heap.size := (by omega)) | (go_at_call 49; (with_reducible refine (C2.out _).mono ?_); rintro e wC ⟨rfl, hgwC⟩; obtain ⟨hclwC, hfzwC, hszwC⟩ := gcell hgwC; (try simp [Nat.add_one_le_iff] at hszwC); have hlwC_w : w.heap.size < wC.heap.size := (by omega)) | (go_at_call 63; (with_reducible refine (rwd_c A _ (by omega) (by omega)).mono ?_); rintro e wD ⟨rfl, hgwD⟩; obtain ⟨hclwD, hfzwD, hszwD⟩ := gcell hgwD; (try simp [Nat.add_one_le_iff] at hszwD); have hlwD_w : w.heap.size < wD.heap.size := (by omega)))
    exact bodyPost_ret (v := .tuple #[.agg #[.int .i64 (A % 7), .int .i64 (L - 353), .bool false], .int .i64 0]) (by simp [results, Tryz.results36, go_sem, *]) rfl ⟨by rw [K1.out, K2.out], (by repeat (first | exact Gr.refl _ | refine Gr.setCell ?_ _ _ (by first | exact Nat.le_refl _ | (simp; omega) | (simp; done)) | refine Gr.grown ?_ _ _ | refine Gr.drewN ?_ _ | refine Gr.drew ?_ | refine Gr.alloc ?_ _ | refine Gr.grow ?_ _ | (refine Gr.trans ?_ (by assumption))))⟩
  · simp only [if_true] at hk
    have K2 : RowKit.Hid (L - 383 = kk y) := Lib.hid hk.symm
    clear hk
    go_enter Tryz.func36, Tryz.ntmps36
    go_wp2_with (first | (go_at_call 62; (with_reducible refine (C0.out _).mono ?_); rintro e wA ⟨rfl, hgwA⟩; obtain ⟨hclwA, hfzwA, hszwA⟩ := gcell hgwA; (try simp [Nat.add_one_le_iff] at hszwA); have hlwA_w : w.heap.size < wA.heap.size := (by omega)) | (go_at_call 38; (with_reducible refine (C1.out _).mono ?_); rintro e wB ⟨rfl, hgwB⟩; obtain ⟨hclwB, hfzwB, hszwB⟩ := gcell hgwB; (try simp [Nat.add_one_le_iff] at hszwB); have hlwB_w : w.heap.size < wB.heap.size := (by omega)) | (go_at_call 49; (with_reducible refine (C2.out _).mono ?_); rintro e wC ⟨rfl, hgwC⟩; obtain ⟨hclwC, hfzwC, hszwC⟩ := gcell hgwC; (try simp [Nat.add_one_le_iff] at hszwC); have hlwC_w : w.heap.size < wC.heap.size := (by omega)) | (go_at_call 63; (with_reducible refine (rwd_c A _ (by omega) (by omega)).mono ?_); rintro e wD ⟨rfl, hgwD⟩; obtain ⟨hclwD, hfzwD, hszwD⟩ := gcell hgwD; (try simp [Nat.add_one_le_iff] at hszwD); have hlwD_w : w.heap.size < wD.heap.size := (by omega)))
    exact bodyPost_ret (v := .tuple #[.agg #[.int .i64 (A % 7), .int .i64 (L - 383), .bool true], .int .i64 0]) (by simp [results, Tryz.results36, go_sem, *]) rfl ⟨by rw [K1.out, K2.out], (by repeat (first | exact Gr.refl _ | refine Gr.setCell ?_ _ _ (by first | exact Nat.le_refl _ | (simp; omega) | (simp; done)) | refine Gr.grown ?_ _ _ | refine Gr.drewN ?_ _ | refine Gr.drew ?_ | refine Gr.alloc ?_ _ | refine Gr.grow ?_ _ | (refine Gr.trans ?_ (by assumption))))⟩
theorem rkof_out (y : Int) (w : World) (h : y < 1 ∨ 9999 < y) : Calls Tryz.prog 36 #[.int .i64 y] w fun e w' => e = .returned (.tuple #[.agg #[.int .i64 0, .int .i64 0, .bool false], .int .i64 2]) ∧ Gr w w' := by
  have C0 := Lib.hid fun w => rlong7_out y w h
  clear h
  go_enter Tryz.func36, Tryz.ntmps36
  go_wp2_with (first | (go_at_call 62; (with_reducible refine (C0.out _).mono ?_); rintro e wA ⟨rfl, hgwA⟩; obtain ⟨hclwA, hfzwA, hszwA⟩ := gcell hgwA; (try simp [Nat.add_one_le_iff] at hszwA); have hlwA_w : w.heap.size < wA.heap.size := (by omega)))
  exact bodyPost_ret (v := .tuple #[.agg #[.int .i64 0, .int .i64 0, .bool false], .int .i64 2]) (by simp [results, Tryz.results36, go_sem, *]) rfl ⟨rfl, (by repeat (first | exact Gr.refl _ | refine Gr.setCell ?_ _ _ (by first | exact Nat.le_refl _ | (simp; omega) | (simp; done)) | refine Gr.grown ?_ _ _ | refine Gr.drewN ?_ _ | refine Gr.drew ?_ | refine Gr.alloc ?_ _ | refine Gr.grow ?_ _ | (refine Gr.trans ?_ (by assumption))))⟩

end Go.Proofs.YtkiopgegdkeojaaGreatDoor.Walks
