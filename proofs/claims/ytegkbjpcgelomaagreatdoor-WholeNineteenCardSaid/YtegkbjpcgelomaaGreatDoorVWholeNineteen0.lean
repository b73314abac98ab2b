/- WholeNineteen, walked. -/
import Derived.Test.YtegkbjpcgelomaaGreatDoorZ21
import Derived.Test.YtegkbjpcgelomaaGreatDoorZ14
set_option linter.unusedVariables false
set_option linter.unusedSimpArgs false
section
namespace Go.Proofs.YtegkbjpcgelomaaGreatDoor.Walks
open Go Go.RowKit Go.Sort Go.Proofs.YtegkbjpcgelomaaGreatDoor.Base Go.Proofs.YtegkbjpcgelomaaGreatDoor.Plain Go.Proofs.YtegkbjpcgelomaaGreatDoor.Math

theorem mo_far (n : Int) : 25920 * (moD (n + 235) - moD n) + moP (n + 235) - moP n = 179876755 := by unfold moD moP; omega
theorem bf_far (k : Int) : bf (k + 19) + 1 - 1 = (bf k + 1 - 1) + 235 := by unfold bf; omega
theorem mo_range {k : Int} (h0 : 0 ≤ k) (h1 : k ≤ 10001) : -10000000 ≤ moD (bf k + 1 - 1) ∧ moD (bf k + 1 - 1) ≤ 10000000 ∧ 0 ≤ moP (bf k + 1 - 1) ∧ moP (bf k + 1 - 1) ≤ 25920 := by
  have := bf_range h0 h1
  unfold moD moP
  omega
set_option maxHeartbeats 4000000 in
theorem nineteen_c (y : Int) (w : World) (G : GT w) (p : PT w) (y0 : 0 ≤ y) (y1 : y ≤ 65535) : Calls Tryq.prog 3 #[.int .u16 y] w fun e w' => e = .returned (.bool true) ∧ Gr w w' := by
  obtain ⟨k, hk⟩ : ∃ k, 1 + y % 9980 = k := ⟨_, rfl⟩
  have k0 : 1 ≤ k := by omega
  have k1 : k ≤ 9980 := by omega
  have m1 := ml_range k
  have m2 := ml_range (k + 19)
  have C1 := Lib.hid fun W => of_in k 1 W (by omega) (by omega) (by omega) (by omega)
  have C2 := Lib.hid fun W => of_in (k + 19) 1 W (by omega) (by omega) (by omega) (by omega)
  have C3 := Lib.hid fun W (hW : Gr w W) => awake_c W (G.gr hW) (p.gr hW)
  have hf := mo_far (bf k + 1 - 1)
  rw [← bf_far] at hf
  have r1 := mo_range (k := k) (by omega) (by omega)
  have r2 := mo_range (k := k + 19) (by omega) (by omega)
  obtain ⟨D, hD⟩ : ∃ D, moD (bf k + 1 - 1) = D := ⟨_, rfl⟩
  obtain ⟨P, hP⟩ : ∃ D, moP (bf k + 1 - 1) = D := ⟨_, rfl⟩
  obtain ⟨A, hA⟩ : ∃ D, moD (bf (k + 19) + 1 - 1) = D := ⟨_, rfl⟩
  obtain ⟨B, hB⟩ : ∃ D, moP (bf (k + 19) + 1 - 1) = D := ⟨_, rfl⟩
  rw [hD, hP] at C1 r1
  rw [hA, hB] at C2 r2
  rw [hA, hB, hD, hP] at hf
  clear hD hP hA hB m1 m2 G p
  obtain ⟨a0, a1, a2, a3⟩ := r1
  obtain ⟨b0, b1, b2, b3⟩ := r2
  have hb : (25920 * (A - D) + B - P == 179876755) = true := beq_iff_eq.2 hf
  go_enter Tryq.func3, Tryq.ntmps3
  go_wp2_with (first | (go_at_call 10; (with_reducible refine (C1.out _).mono ?_); rintro e wA ⟨rfl, hgA⟩; have lA : 0 < wA.heap.size + 1 := Nat.succ_pos _) | (go_at_call 10; (with_reducible refine (C2.out _).mono ?_); rintro e wB ⟨rfl, hgB⟩; have lB : wA.heap.size < wB.heap.size := (by have h := hgB.size; simp at h; omega); have k0 := hgB.keep (b := wA.heap.size) (o := 0) (v := .int .i64 D) (by first | (simp; done) | (simp; omega)) (by simp [go_sem]); have k1 := hgB.keep (b := wA.heap.size) (o := 1) (v := .int .i64 P) (by first | (simp; done) | (simp; omega)) (by simp [go_sem])) | (go_at_call 11; (with_reducible refine (C3.out _ ((by repeat (first | exact Gr.refl _ | refine Gr.setCell ?_ _ _ (by first | exact Nat.le_refl _ | (simp; omega) | (simp; done)) | refine Gr.grown ?_ _ _ | refine Gr.drewN ?_ _ | refine Gr.drew ?_ | refine Gr.alloc ?_ _ | refine Gr.grow ?_ _ | (refine Gr.trans ?_ (by assumption)))))).mono ?_); rintro e wC ⟨rfl, hgC⟩))

  go_ret
  exact ⟨rfl, (by repeat (first | exact Gr.refl _ | refine Gr.setCell ?_ _ _ (by first | exact Nat.le_refl _ | (simp; omega) | (simp; done)) | refine Gr.grown ?_ _ _ | refine Gr.drewN ?_ _ | refine Gr.drew ?_ | refine Gr.alloc ?_ _ | refine Gr.grow ?_ _ | (refine Gr.trans ?_ (by assumption))))⟩
theorem u16_of {a : Int} (h : (Lit.int .u16 a).wf = true) : 0 ≤ a ∧ a ≤ 65535 := by
  have e0 : IntKind.u16.min = 0 := rfl
  have e1 : IntKind.u16.max = 65535 := rfl
  simpa only [Lit.wf, e0, e1, Bool.and_eq_true, decide_eq_true_eq] using h
theorem wholeNineteen_t (y : Int) (w : World) (G : GT w) (p : PT w) (h : (Lit.int .u16 y).wf = true) : Calls Tryq.prog 3 #[.int .u16 y] w fun e w' => e = .returned (.bool true) ∧ Gr w w' :=
  nineteen_c y w G p (u16_of h).1 (u16_of h).2
end Go.Proofs.YtegkbjpcgelomaaGreatDoor.Walks
end
