/- Walks of package keviah and of its reference: how long a year is, and its type. -/
import Derived.Test.YtkiopgegdkeojaaGreatDoorRef06
import Derived.Test.YtkiopgegdkeojaaGreatDoorMolad
set_option linter.unusedVariables false
set_option linter.unusedSimpArgs false
namespace Go.Proofs.YtkiopgegdkeojaaGreatDoor.Walks
open Go Go.RowKit Go.Sort Go.Proofs.YtkiopgegdkeojaaGreatDoor.Base Go.Proofs.YtkiopgegdkeojaaGreatDoor.Plain Go.Proofs.YtkiopgegdkeojaaGreatDoor.Math

/-- Is it one of the years 1 to 9999? -/
def kyR (y : Int) : Bool := decide (1 ≤ y ∧ y ≤ 9999)
/-- How long a year is. -/
def kln (y : Int) : Int := fy (y + 1) - fy y
theorem kln_range {y : Int} (h0 : 1 ≤ y) (h1 : y ≤ 9999) : 353 ≤ kln y ∧ kln y ≤ 385 := by
  have := fy_step (y := y) (by omega) (by omega)
  unfold kln
  omega

set_option maxHeartbeats 1000000 in
theorem klong_in (y : Int) (w : World) (h0 : 1 ≤ y) (h1 : y ≤ 9999) : Calls Tryz.prog 98 #[.int .i64 y] w fun e w' => e = .returned (.tuple #[.int .i64 (kln y), .int .i64 0]) ∧ Gr w w' := by
  obtain ⟨A, hA⟩ : ∃ A, fy y = A := ⟨_, rfl⟩
  obtain ⟨B, hB⟩ : ∃ B, fy (y + 1) = B := ⟨_, rfl⟩
  have HK : RowKit.Hid (B - A = kln y) := Lib.hid (by unfold kln; rw [hA, hB])
  have rA := fy_range (y := y) (by omega) (by omega)
  have rB := fy_range (y := y + 1) (by omega) (by omega)
  rw [hA] at rA
  rw [hB] at rB
  obtain ⟨a0, a1⟩ := rA
  obtain ⟨b0, b1⟩ := rB
  have C1 : RowKit.Hid (∀ w, Calls Tryz.prog 55 #[.int .i64 y] w fun e w' => e = .returned (.tuple #[.int .i64 A, .int .i64 0]) ∧ Gr w w') := Lib.hid fun w => by
    have := first_in y w (by omega) (by omega); rwa [hA] at this
  have C2 : RowKit.Hid (∀ w, Calls Tryz.prog 55 #[.int .i64 (y + 1)] w fun e w' => e = .returned (.tuple #[.int .i64 B, .int .i64 0]) ∧ Gr w w') := Lib.hid fun w => by
    have := first_in (y + 1) w (by omega) (by omega); rwa [hB] at this
  clear hA hB
  go_enter Tryz.func98, Tryz.ntmps98
  go_wp2_with (first | (go_at_call 55; (with_reducible refine (C1.out _).mono ?_); rintro e wA ⟨rfl, hgwA⟩) | (go_at_call 55; (with_reducible refine (C2.out _).mono ?_); rintro e wB ⟨rfl, hgwB⟩))
  go_ret2
  exact ⟨ret2 HK.out rfl, (by repeat (first | exact Gr.refl _ | refine Gr.setCell ?_ _ _ (by first | exact Nat.le_refl _ | (simp; omega) | (simp; done)) | refine Gr.grown ?_ _ _ | refine Gr.drewN ?_ _ | refine Gr.drew ?_ | refine Gr.alloc ?_ _ | refine Gr.grow ?_ _ | (refine Gr.trans ?_ (by assumption))))⟩
theorem klong_out (y : Int) (w : World) (h : y < 1 ∨ 9999 < y) : Calls Tryz.prog 98 #[.int .i64 y] w fun e w' => e = .returned (.tuple #[.int .i64 0, .int .i64 2]) ∧ Gr w w' := by
  by_cases g : y < 1
  · clear h
    go_enter Tryz.func98, Tryz.ntmps98
    go_wp2
    go_ret2
    exact ⟨rfl, (by repeat (first | exact Gr.refl _ | refine Gr.setCell ?_ _ _ (by first | exact Nat.le_refl _ | (simp; omega) | (simp; done)) | refine Gr.grown ?_ _ _ | refine Gr.drewN ?_ _ | refine Gr.drew ?_ | refine Gr.alloc ?_ _ | refine Gr.grow ?_ _ | (refine Gr.trans ?_ (by assumption))))⟩
  · have g2 : 9999 < y := by omega
    clear h
    go_enter Tryz.func98, Tryz.ntmps98
    go_wp2
    go_ret2
    exact ⟨rfl, (by repeat (first | exact Gr.refl _ | refine Gr.setCell ?_ _ _ (by first | exact Nat.le_refl _ | (simp; omega) | (simp; done)) | refine Gr.grown ?_ _ _ | refine Gr.drewN ?_ _ | refine Gr.drew ?_ | refine Gr.alloc ?_ _ | refine Gr.grow ?_ _ | (refine Gr.trans ?_ (by assumption))))⟩

/-- A year's type: its weekday, its kind, and whether it is a leap year. -/
def kb (y : Int) : Int := fy y % 7
def kk (y : Int) : Int := (kln y - 353) % 30

set_option maxHeartbeats 1000000 in
theorem kof_in (y : Int) (w : World) (h0 : 1 ≤ y) (h1 : y ≤ 9999) : Calls Tryz.prog 79 #[.int .i64 y] w fun e w' => e = .returned (.tuple #[.agg #[.int .i64 (kb y), .int .i64 (kk y), .bool (lp y)], .int .i64 0]) ∧ Gr w w' := by
  obtain ⟨L, hL⟩ : ∃ L, kln y = L := ⟨_, rfl⟩
  obtain ⟨A, hA⟩ : ∃ A, fy y = A := ⟨_, rfl⟩
  have rL := kln_range h0 h1
  rw [hL] at rL
  obtain ⟨l0, l1⟩ := rL
  have rA := fy_range (y := y) (by omega) (by omega)
  rw [hA] at rA
  obtain ⟨a0, a1⟩ := rA
  have K1 : RowKit.Hid (A % 7 = kb y) := Lib.hid (by unfold kb; rw [hA])
  have K2 : RowKit.Hid ((L - 353) % 30 = kk y) := Lib.hid (by unfold kk; rw [hL])
  have C0 : RowKit.Hid (∀ w, Calls Tryz.prog 98 #[.int .i64 y] w fun e w' => e = .returned (.tuple #[.int .i64 L, .int .i64 0]) ∧ Gr w w') := Lib.hid fun w => by
    have := klong_in y w h0 h1; rwa [hL] at this
  have C1 : RowKit.Hid (∀ w, Calls Tryz.prog 55 #[.int .i64 y] w fun e w' => e = .returned (.tuple #[.int .i64 A, .int .i64 0]) ∧ Gr w w') := Lib.hid fun w => by
    have := first_in y w (by omega) (by omega); rwa [hA] at this
  have C2 : RowKit.Hid (∀ w, Calls Tryz.prog 87 #[.int .i64 y] w fun e w' => e = .returned (.tuple #[.bool (lp y), .int .i64 0]) ∧ Gr w w') := Lib.hid fun w => leap_in y w (by omega) (by omega)
  clear hL hA
  go_enter Tryz.func79, Tryz.ntmps79
  go_wp2_with (first | (go_at_call 98; (with_reducible refine (C0.out _).mono ?_); rintro e wA ⟨rfl, hgwA⟩; obtain ⟨hclwA, hfzwA, hszwA⟩ := gcell hgwA; (try simp [Nat.add_one_le_iff] at hszwA); have hlwA_w : w.heap.size < wA.heap.size := (by omega)) | (go_at_call 55; (with_reducible refine (C1.out _).mono ?_); rintro e wB ⟨rfl, hgwB⟩; obtain ⟨hclwB, hfzwB, hszwB⟩ := gcell hgwB; (try simp [Nat.add_one_le_iff] at hszwB); have hlwB_w : w.heap.size < wB.heap.size := (by omega)) | (go_at_call 87; (with_reducible refine (C2.out _).mono ?_); rintro e wC ⟨rfl, hgwC⟩; obtain ⟨hclwC, hfzwC, hszwC⟩ := gcell hgwC; (try simp [Nat.add_one_le_iff] at hszwC); have hlwC_w : w.heap.size < wC.heap.size := (by omega)) | (go_at_call 99; (with_reducible refine (wd_c A _ (by omega) (by omega)).mono ?_); rintro e wD ⟨rfl, hgwD⟩; obtain ⟨hclwD, hfzwD, hszwD⟩ := gcell hgwD; (try simp [Nat.add_one_le_iff] at hszwD); have hlwD_w : w.heap.size < wD.heap.size := (by omega)))
  exact bodyPost_ret (v := .tuple #[.agg #[.int .i64 (A % 7), .int .i64 ((L - 353) % 30), .bool (lp y)], .int .i64 0]) (by simp [results, Tryz.results79, go_sem, *]) rfl ⟨by rw [K1.out, K2.out], (by repeat (first | exact Gr.refl _ | refine Gr.setCell ?_ _ _ (by first | exact Nat.le_refl _ | (simp; omega) | (simp; done)) | refine Gr.grown ?_ _ _ | refine Gr.drewN ?_ _ | refine Gr.drew ?_ | refine Gr.alloc ?_ _ | refine Gr.grow ?_ _ | (refine Gr.trans ?_ (by assumption))))⟩
theorem kof_out (y : Int) (w : World) (h : y < 1 ∨ 9999 < y) : Calls Tryz.prog 79 #[.int .i64 y] w fun e w' => e = .returned (.tuple #[.agg #[.int .i64 0, .int .i64 0, .bool false], .int .i64 2]) ∧ Gr w w' := by
  have C0 := Lib.hid fun w => klong_out y w h
  clear h
  go_enter Tryz.func79, Tryz.ntmps79
  go_wp2_with (first | (go_at_call 98; (with_reducible refine (C0.out _).mono ?_); rintro e wA ⟨rfl, hgwA⟩; obtain ⟨hclwA, hfzwA, hszwA⟩ := gcell hgwA; (try simp [Nat.add_one_le_iff] at hszwA); have hlwA_w : w.heap.size < wA.heap.size := (by omega)))
  exact bodyPost_ret (v := .tuple #[.agg #[.int .i64 0, .int .i64 0, .bool false], .int .i64 2]) (by simp [results, Tryz.results79, go_sem, *]) rfl ⟨rfl, (by repeat (first | exact Gr.refl _ | refine Gr.setCell ?_ _ _ (by first | exact Nat.le_refl _ | (simp; omega) | (simp; done)) | refine Gr.grown ?_ _ _ | refine Gr.drewN ?_ _ | refine Gr.drew ?_ | refine Gr.alloc ?_ _ | refine Gr.grow ?_ _ | (refine Gr.trans ?_ (by assumption))))⟩

end Go.Proofs.YtkiopgegdkeojaaGreatDoor.Walks
