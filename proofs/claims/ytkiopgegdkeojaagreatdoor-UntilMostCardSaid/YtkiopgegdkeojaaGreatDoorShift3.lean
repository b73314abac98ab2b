/- Walks of package shift: the month so many months away, by years and months; a day fitted into a month. -/
import Derived.Test.YtkiopgegdkeojaaGreatDoorShift2
set_option linter.unusedVariables false
set_option linter.unusedSimpArgs false
namespace Go.Proofs.YtkiopgegdkeojaaGreatDoor.Walks
open Go Go.RowKit Go.Sort Go.Proofs.YtkiopgegdkeojaaGreatDoor.Base Go.Proofs.YtkiopgegdkeojaaGreatDoor.Plain Go.Proofs.YtkiopgegdkeojaaGreatDoor.Math

theorem smonths_in (y : Int) (j : Nat) (q Y : Int) (J : Nat) (w : World) (G : GT w) (y0 : 1 ≤ y) (y1 : y ≤ 9999) (hj : j < mct (lp y)) (q0 : -4000000 ≤ q) (q1 : q ≤ 4000000)
    (Y0 : 1 ≤ Y) (Y1 : Y ≤ 9999) (hJ : J < mct (lp Y)) (e : bf Y + J = bf y + j + q) :
    Calls Tryz.prog 42 #[.int .i64 y, .agg #[.int .i64 (cN (lp y) j), .bool (cL (lp y) j)], .int .i64 q] w fun e w' => e = .returned (.tuple #[.int .i64 Y, .agg #[.int .i64 (cN (lp Y) J), .bool (cL (lp Y) J)], .int .i64 0]) ∧ Gr w w' := by
  have a := month_in y0 y1 hj
  have b := month_in Y0 Y1 hJ
  have rA := bf_mono y0
  have rB := bf_mono (show y ≤ 10000 by omega)
  have rD := bf_mono Y0
  have rE := bf_mono (show Y ≤ 10000 by omega)
  have o := bf_1
  have p := bf_all
  have nx := bf_next Y
  have m13 := mct_le (lp y)
  exact smonths_at y _ q _ (bf y) ((j : Int) + 1) (bf Y + J) Y ((J : Int) + 1) (bf Y) _ _ (lp y) (lp Y) _ w y0 y1 q0 q1 (by omega) (by omega) (by omega) (by omega) b.1 b.2 (by omega) Y0 Y1 rfl (by omega) (by omega) (by omega) (by omega) (by omega)
    (fun W hW => hlast_in y j W (G.gr hW) y0 y1 hj) (fun w => sleap_in y w (by omega) (by omega)) (fun w => cplace_in (lp y) j w hj) (fun w => sahead_in y w (by omega) (by omega)) (fun w => sleap_in Y w (by omega) (by omega)) (fun w => sahead_in Y w (by omega) (by omega)) (fun w => cof_in (lp Y) J w hJ)
theorem smonths_rng (y : Int) (j : Nat) (q : Int) (w : World) (G : GT w) (y0 : 1 ≤ y) (y1 : y ≤ 9999) (hj : j < mct (lp y)) (q0 : -4000000 ≤ q) (q1 : q ≤ 4000000) (h : bf y + j + q < 0 ∨ 123671 ≤ bf y + j + q) :
    Calls Tryz.prog 42 #[.int .i64 y, .agg #[.int .i64 (cN (lp y) j), .bool (cL (lp y) j)], .int .i64 q] w fun e w' => e = .returned (.tuple #[.int .i64 0, .agg #[.int .i64 0, .bool false], .int .i64 2]) ∧ Gr w w' := by
  have rA := bf_mono y0
  have rB := bf_mono (show y ≤ 10000 by omega)
  have o := bf_1
  have p := bf_all
  have m13 := mct_le (lp y)
  exact smonths_out y _ q _ (bf y) ((j : Int) + 1) _ (lp y) w y0 y1 q0 q1 (by omega) (by omega) (by omega) (by omega)
    (fun W hW => hlast_in y j W (G.gr hW) y0 y1 hj) (fun w => sleap_in y w (by omega) (by omega)) (fun w => cplace_in (lp y) j w hj) (fun w => sahead_in y w (by omega) (by omega)) (by omega)

/-- The error, and the day, of a day fitted into a month (L: its last one; E: its error). -/
def fitE (L E d m : Int) : Int := if m = 0 ∨ m = 1 then (if E = 0 then (if 1 ≤ d ∧ d ≤ 30 then (if d ≤ L then 0 else if m = 1 then 7 else 0) else 4) else E) else 1
def fitN (L E d m : Int) : Int := if fitE L E d m = 0 then (if d ≤ L then d else L) else 0
set_option maxHeartbeats 4000000 in
theorem sfit_c (y n d m L E : Int) (c : Bool) (w : World) (h : ∀ W, Gr w W → Calls Tryz.prog 74 #[.int .i64 y, .agg #[.int .i64 n, .bool c]] W fun e w' => e = .returned (.tuple #[.int .i64 L, .int .i64 E]) ∧ Gr W w') :
    Calls Tryz.prog 43 #[.int .i64 y, .agg #[.int .i64 n, .bool c], .int .i64 d, .int .i64 m] w fun e w' => e = .returned (.tuple #[.int .i64 (fitN L E d m), .int .i64 (fitE L E d m)]) ∧ Gr w w' := by
  have C1 := Lib.hid h
  clear h
  unfold fitN
  by_cases hm : m = 0 ∨ m = 1
  · by_cases hE : E = 0
    · subst hE
      by_cases hd : 1 ≤ d ∧ d ≤ 30
      · obtain ⟨d0, d1⟩ := hd
        by_cases hl : d ≤ L
        · have e : fitE L 0 d m = 0 := by unfold fitE; rw [if_pos hm, if_pos rfl, if_pos ⟨d0, d1⟩, if_pos hl]
          rw [e, if_pos rfl, if_pos hl]
          have hmin : min d L = d := by omega
          rcases hm with rfl | rfl
          all_goals (
            clear e
            go_enter Tryz.func43, Tryz.ntmps43
            go_wp2_with (first | (go_at_call 74; (with_reducible refine (C1.out _ ((by repeat (first | exact Gr.refl _ | refine Gr.setCell ?_ _ _ (by first | exact Nat.le_refl _ | (simp; omega) | (simp; done)) | refine Gr.grown ?_ _ _ | refine Gr.drewN ?_ _ | refine Gr.drew ?_ | refine Gr.alloc ?_ _ | refine Gr.grow ?_ _ | (refine Gr.trans ?_ (by assumption)))))).mono ?_); rintro e wA ⟨rfl, hgwA⟩; obtain ⟨hclwA, hfzwA, hszwA⟩ := gcell hgwA; (try simp [Nat.add_one_le_iff] at hszwA); have hlwA_w : w.heap.size < wA.heap.size := (by omega)))
            go_ret2
            exact ⟨ret2 (by first | rfl | exact hmin) rfl, (by repeat (first | exact Gr.refl _ | refine Gr.setCell ?_ _ _ (by first | exact Nat.le_refl _ | (simp; omega) | (simp; done)) | refine Gr.grown ?_ _ _ | refine Gr.drewN ?_ _ | refine Gr.drew ?_ | refine Gr.alloc ?_ _ | refine Gr.grow ?_ _ | (refine Gr.trans ?_ (by assumption))))⟩)
        · have hl2 : L < d := by omega
          rcases hm with rfl | rfl
          · have e : fitE L 0 d 0 = 0 := by unfold fitE; rw [if_pos (.inl rfl), if_pos rfl, if_pos ⟨d0, d1⟩, if_neg hl, if_neg (by decide)]
            rw [e, if_pos rfl, if_neg hl]
            have hmin : min d L = L := by omega
            clear e hl
            go_enter Tryz.func43, Tryz.ntmps43
            go_wp2_with (first | (go_at_call 74; (with_reducible refine (C1.out _ ((by repeat (first | exact Gr.refl _ | refine Gr.setCell ?_ _ _ (by first | exact Nat.le_refl _ | (simp; omega) | (simp; done)) | refine Gr.grown ?_ _ _ | refine Gr.drewN ?_ _ | refine Gr.drew ?_ | refine Gr.alloc ?_ _ | refine Gr.grow ?_ _ | (refine Gr.trans ?_ (by assumption)))))).mono ?_); rintro e wA ⟨rfl, hgwA⟩; obtain ⟨hclwA, hfzwA, hszwA⟩ := gcell hgwA; (try simp [Nat.add_one_le_iff] at hszwA); have hlwA_w : w.heap.size < wA.heap.size := (by omega)))
            go_ret2
            exact ⟨ret2 (by first | rfl | exact hmin) rfl, (by repeat (first | exact Gr.refl _ | refine Gr.setCell ?_ _ _ (by first | exact Nat.le_refl _ | (simp; omega) | (simp; done)) | refine Gr.grown ?_ _ _ | refine Gr.drewN ?_ _ | refine Gr.drew ?_ | refine Gr.alloc ?_ _ | refine Gr.grow ?_ _ | (refine Gr.trans ?_ (by assumption))))⟩
          · have e : fitE L 0 d 1 = 7 := by unfold fitE; rw [if_pos (.inr rfl), if_pos rfl, if_pos ⟨d0, d1⟩, if_neg hl, if_pos rfl]
            rw [e, if_neg (by decide)]
            clear e hl
            go_enter Tryz.func43, Tryz.ntmps43
            go_wp2_with (first | (go_at_call 74; (with_reducible refine (C1.out _ ((by repeat (first | exact Gr.refl _ | refine Gr.setCell ?_ _ _ (by first | exact Nat.le_refl _ | (simp; omega) | (simp; done)) | refine Gr.grown ?_ _ _ | refine Gr.drewN ?_ _ | refine Gr.drew ?_ | refine Gr.alloc ?_ _ | refine Gr.grow ?_ _ | (refine Gr.trans ?_ (by assumption)))))).mono ?_); rintro e wA ⟨rfl, hgwA⟩; obtain ⟨hclwA, hfzwA, hszwA⟩ := gcell hgwA; (try simp [Nat.add_one_le_iff] at hszwA); have hlwA_w : w.heap.size < wA.heap.size := (by omega)))
            go_ret2
            exact ⟨rfl, (by repeat (first | exact Gr.refl _ | refine Gr.setCell ?_ _ _ (by first | exact Nat.le_refl _ | (simp; omega) | (simp; done)) | refine Gr.grown ?_ _ _ | refine Gr.drewN ?_ _ | refine Gr.drew ?_ | refine Gr.alloc ?_ _ | refine Gr.grow ?_ _ | (refine Gr.trans ?_ (by assumption))))⟩
      · have e : fitE L 0 d m = 4 := by unfold fitE; rw [if_pos hm, if_pos rfl, if_neg hd]
        rw [e, if_neg (by decide)]
        by_cases g : d < 1
        all_goals (
          try (have g2 : 30 < d := by omega)
          clear e hd
          rcases hm with rfl | rfl
          all_goals (
            go_enter Tryz.func43, Tryz.ntmps43
            go_wp2_with (first | (go_at_call 74; (with_reducible refine (C1.out _ ((by repeat (first | exact Gr.refl _ | refine Gr.setCell ?_ _ _ (by first | exact Nat.le_refl _ | (simp; omega) | (simp; done)) | refine Gr.grown ?_ _ _ | refine Gr.drewN ?_ _ | refine Gr.drew ?_ | refine Gr.alloc ?_ _ | refine Gr.grow ?_ _ | (refine Gr.trans ?_ (by assumption)))))).mono ?_); rintro e wA ⟨rfl, hgwA⟩; obtain ⟨hclwA, hfzwA, hszwA⟩ := gcell hgwA; (try simp [Nat.add_one_le_iff] at hszwA); have hlwA_w : w.heap.size < wA.heap.size := (by omega)))
            go_ret2
            exact ⟨rfl, (by repeat (first | exact Gr.refl _ | refine Gr.setCell ?_ _ _ (by first | exact Nat.le_refl _ | (simp; omega) | (simp; done)) | refine Gr.grown ?_ _ _ | refine Gr.drewN ?_ _ | refine Gr.drew ?_ | refine Gr.alloc ?_ _ | refine Gr.grow ?_ _ | (refine Gr.trans ?_ (by assumption))))⟩))
    · have e : fitE L E d m = E := by unfold fitE; rw [if_pos hm, if_neg hE]
      rw [e, if_neg hE]
      have q : (E == 0) = false := beq_eq_false_iff_ne.2 hE
      clear e hE
      rcases hm with rfl | rfl
      all_goals (
        go_enter Tryz.func43, Tryz.ntmps43
        go_wp2_with (first | (go_at_call 74; (with_reducible refine (C1.out _ ((by repeat (first | exact Gr.refl _ | refine Gr.setCell ?_ _ _ (by first | exact Nat.le_refl _ | (simp; omega) | (simp; done)) | refine Gr.grown ?_ _ _ | refine Gr.drewN ?_ _ | refine Gr.drew ?_ | refine Gr.alloc ?_ _ | refine Gr.grow ?_ _ | (refine Gr.trans ?_ (by assumption)))))).mono ?_); rintro e wA ⟨rfl, hgwA⟩; obtain ⟨hclwA, hfzwA, hszwA⟩ := gcell hgwA; (try simp [Nat.add_one_le_iff] at hszwA); have hlwA_w : w.heap.size < wA.heap.size := (by omega)))
        go_ret2
        exact ⟨rfl, (by repeat (first | exact Gr.refl _ | refine Gr.setCell ?_ _ _ (by first | exact Nat.le_refl _ | (simp; omega) | (simp; done)) | refine Gr.grown ?_ _ _ | refine Gr.drewN ?_ _ | refine Gr.drew ?_ | refine Gr.alloc ?_ _ | refine Gr.grow ?_ _ | (refine Gr.trans ?_ (by assumption))))⟩)
  · have e : fitE L E d m = 1 := by unfold fitE; rw [if_neg hm]
    rw [e, if_neg (by decide)]
    have p0 : (m != 0) = true := bne_iff_ne.2 (by omega)
    have p1 : (m != 1) = true := bne_iff_ne.2 (by omega)
    clear e hm
    go_enter Tryz.func43, Tryz.ntmps43
    go_wp2
    go_ret2
    exact ⟨rfl, (by repeat (first | exact Gr.refl _ | refine Gr.setCell ?_ _ _ (by first | exact Nat.le_refl _ | (simp; omega) | (simp; done)) | refine Gr.grown ?_ _ _ | refine Gr.drewN ?_ _ | refine Gr.drew ?_ | refine Gr.alloc ?_ _ | refine Gr.grow ?_ _ | (refine Gr.trans ?_ (by assumption))))⟩

end Go.Proofs.YtkiopgegdkeojaaGreatDoor.Walks
