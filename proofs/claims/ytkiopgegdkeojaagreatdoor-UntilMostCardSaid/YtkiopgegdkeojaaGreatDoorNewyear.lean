/- Walks of package newyear and of its reference. -/
import Derived.Test.YtkiopgegdkeojaaGreatDoorMolad
set_option linter.unusedVariables false
set_option linter.unusedSimpArgs false
namespace Go.Proofs.YtkiopgegdkeojaaGreatDoor.Walks
open Go Go.RowKit Go.Sort Go.Proofs.YtkiopgegdkeojaaGreatDoor.Base Go.Proofs.YtkiopgegdkeojaaGreatDoor.Plain Go.Proofs.YtkiopgegdkeojaaGreatDoor.Math

theorem dly_late {d p : Int} {leap after : Bool} (h : late d p leap after = true) : dly d p leap after = if bad ((d + 1) % 7) = true then 2 else 1 := by unfold dly; rw [if_pos h]
theorem dly_not {d p : Int} {leap after : Bool} (h : late d p leap after = false) : dly d p leap after = if bad (d % 7) = true then 1 else 0 := by unfold dly; rw [if_neg (by rw [h]; decide)]

theorem bad_c (v : Int) (w : World) : Calls Tryz.prog 103 #[.int .i64 v] w fun e w' => e = .returned (.bool (bad v)) ∧ Gr w w' := by
  by_cases h0 : v = 0
  · subst h0
    go_enter Tryz.func103, Tryz.ntmps103
    go_wp2
    go_ret
    exact ⟨rfl, (by repeat (first | exact Gr.refl _ | refine Gr.setCell ?_ _ _ (by first | exact Nat.le_refl _ | (simp; omega) | (simp; done)) | refine Gr.grown ?_ _ _ | refine Gr.drewN ?_ _ | refine Gr.drew ?_ | refine Gr.alloc ?_ _ | refine Gr.grow ?_ _ | (refine Gr.trans ?_ (by assumption))))⟩
  by_cases h3 : v = 3
  · subst h3
    go_enter Tryz.func103, Tryz.ntmps103
    go_wp2
    go_ret
    exact ⟨rfl, (by repeat (first | exact Gr.refl _ | refine Gr.setCell ?_ _ _ (by first | exact Nat.le_refl _ | (simp; omega) | (simp; done)) | refine Gr.grown ?_ _ _ | refine Gr.drewN ?_ _ | refine Gr.drew ?_ | refine Gr.alloc ?_ _ | refine Gr.grow ?_ _ | (refine Gr.trans ?_ (by assumption))))⟩
  by_cases h5 : v = 5
  · subst h5
    go_enter Tryz.func103, Tryz.ntmps103
    go_wp2
    go_ret
    exact ⟨rfl, (by repeat (first | exact Gr.refl _ | refine Gr.setCell ?_ _ _ (by first | exact Nat.le_refl _ | (simp; omega) | (simp; done)) | refine Gr.grown ?_ _ _ | refine Gr.drewN ?_ _ | refine Gr.drew ?_ | refine Gr.alloc ?_ _ | refine Gr.grow ?_ _ | (refine Gr.trans ?_ (by assumption))))⟩
  have e0 : (v == 0) = false := beq_eq_false_iff_ne.2 h0
  have e3 : (v == 3) = false := beq_eq_false_iff_ne.2 h3
  have e5 : (v == 5) = false := beq_eq_false_iff_ne.2 h5
  have E : RowKit.Hid (false = bad v) := Lib.hid (by unfold bad; rw [e0, e3, e5]; rfl)
  clear h0 h3 h5
  go_enter Tryz.func103, Tryz.ntmps103
  go_wp2
  go_ret
  exact ⟨retb E.out, (by repeat (first | exact Gr.refl _ | refine Gr.setCell ?_ _ _ (by first | exact Nat.le_refl _ | (simp; omega) | (simp; done)) | refine Gr.grown ?_ _ _ | refine Gr.drewN ?_ _ | refine Gr.drew ?_ | refine Gr.alloc ?_ _ | refine Gr.grow ?_ _ | (refine Gr.trans ?_ (by assumption))))⟩

set_option maxHeartbeats 4000000 in
theorem delay_c (d p : Int) (leap after : Bool) (w : World) (d0 : -9223372036854775808 ≤ d) (d1 : d ≤ 9223372036854775807) :
    Calls Tryz.prog 88 #[.agg #[.int .i64 d, .int .i64 p], .bool leap, .bool after] w fun e w' => e = .returned (.int .i64 (dly d p leap after)) ∧ Gr w w' := by
  by_cases p1 : 19440 ≤ p
  · have E := Lib.hid (dly_late (d := d) (p := p) (leap := leap) (after := after) (by unfold late; rw [decide_eq_true p1]; rfl))
    cases hb : bad ((d + 1) % 7)
    · have HB := Lib.hid hb
      go_enter Tryz.func88, Tryz.ntmps88
      go_wp2_with (first | (go_at_call 99; (with_reducible refine (wd_c d _ (by omega) (by omega)).mono ?_); rintro e w1 ⟨rfl, hg⟩; obtain ⟨hcl, hfz, hsz⟩ := gcell hg; clear hsz; have hz0 : w.heap.size < w1.heap.size := (by have hq := hg.size; (try simp at hq); omega)) | (go_at_call 103; (with_reducible refine (bad_c _ _).mono ?_); rintro e w1 ⟨rfl, hg⟩; obtain ⟨hcl, hfz, hsz⟩ := gcell hg; clear hsz; have hz0 : w.heap.size < w1.heap.size := (by have hq := hg.size; (try simp at hq); omega)))
      go_ret
      exact ⟨ret1 (by rw [E.out, HB.out]; rfl), (by repeat (first | exact Gr.refl _ | refine Gr.setCell ?_ _ _ (by first | exact Nat.le_refl _ | (simp; omega) | (simp; done)) | refine Gr.grown ?_ _ _ | refine Gr.drewN ?_ _ | refine Gr.drew ?_ | refine Gr.alloc ?_ _ | refine Gr.grow ?_ _ | (refine Gr.trans ?_ (by assumption))))⟩
    · have HB := Lib.hid hb
      go_enter Tryz.func88, Tryz.ntmps88
      go_wp2_with (first | (go_at_call 99; (with_reducible refine (wd_c d _ (by omega) (by omega)).mono ?_); rintro e w1 ⟨rfl, hg⟩; obtain ⟨hcl, hfz, hsz⟩ := gcell hg; clear hsz; have hz0 : w.heap.size < w1.heap.size := (by have hq := hg.size; (try simp at hq); omega)) | (go_at_call 103; (with_reducible refine (bad_c _ _).mono ?_); rintro e w1 ⟨rfl, hg⟩; obtain ⟨hcl, hfz, hsz⟩ := gcell hg; clear hsz; have hz0 : w.heap.size < w1.heap.size := (by have hq := hg.size; (try simp at hq); omega)))
      go_ret
      exact ⟨ret1 (by rw [E.out, HB.out]; rfl), (by repeat (first | exact Gr.refl _ | refine Gr.setCell ?_ _ _ (by first | exact Nat.le_refl _ | (simp; omega) | (simp; done)) | refine Gr.grown ?_ _ _ | refine Gr.drewN ?_ _ | refine Gr.drew ?_ | refine Gr.alloc ?_ _ | refine Gr.grow ?_ _ | (refine Gr.trans ?_ (by assumption))))⟩
  by_cases v2 : d % 7 = 2
  · have b2 : (d % 7 == 2) = true := beq_iff_eq.2 v2
    have b1 : (d % 7 == 1) = false := beq_eq_false_iff_ne.2 (by omega)
    have V : RowKit.Hid (d % 7 = 2) := Lib.hid v2
    clear v2
    by_cases p2 : 9924 ≤ p
    · cases leap
      · have E := Lib.hid (dly_late (d := d) (p := p) (leap := false) (after := after) (by unfold late; rw [decide_eq_false p1, decide_eq_true p2, b2]; rfl))
        have g0 : ((d + 1) % 7 == 0) = false := beq_eq_false_iff_ne.2 (by have := V.out; omega)
        have g3 : ((d + 1) % 7 == 3) = true := beq_iff_eq.2 (by have := V.out; omega)
        have HB : RowKit.Hid (bad ((d + 1) % 7) = true) := Lib.hid (by unfold bad; rw [g0, g3]; rfl)
        have gb := HB.out
        clear g0 g3
        clear V
        go_enter Tryz.func88, Tryz.ntmps88
        go_wp2_with (first | (go_at_call 99; (with_reducible refine (wd_c d _ (by omega) (by omega)).mono ?_); rintro e w1 ⟨rfl, hg⟩; obtain ⟨hcl, hfz, hsz⟩ := gcell hg; clear hsz; have hz0 : w.heap.size < w1.heap.size := (by have hq := hg.size; (try simp at hq); omega)) | (go_at_call 103; (with_reducible refine (bad_c _ _).mono ?_); rintro e w1 ⟨rfl, hg⟩; obtain ⟨hcl, hfz, hsz⟩ := gcell hg; clear hsz; have hz0 : w.heap.size < w1.heap.size := (by have hq := hg.size; (try simp at hq); omega)))
        all_goals go_ret
        all_goals exact ⟨ret1 (by rw [E.out, HB.out]; rfl), (by repeat (first | exact Gr.refl _ | refine Gr.setCell ?_ _ _ (by first | exact Nat.le_refl _ | (simp; omega) | (simp; done)) | refine Gr.grown ?_ _ _ | refine Gr.drewN ?_ _ | refine Gr.drew ?_ | refine Gr.alloc ?_ _ | refine Gr.grow ?_ _ | (refine Gr.trans ?_ (by assumption))))⟩
      · have E := Lib.hid (dly_not (d := d) (p := p) (leap := true) (after := after) (by unfold late; rw [decide_eq_false p1, decide_eq_true p2, b2, b1]; rfl))
        have g0 : (d % 7 == 0) = false := beq_eq_false_iff_ne.2 (by have := V.out; omega)
        have g3 : (d % 7 == 3) = false := beq_eq_false_iff_ne.2 (by have := V.out; omega)
        have g5 : (d % 7 == 5) = false := beq_eq_false_iff_ne.2 (by have := V.out; omega)
        have HB : RowKit.Hid (bad (d % 7) = false) := Lib.hid (by unfold bad; rw [g0, g3, g5]; rfl)
        have gb := HB.out
        clear g0 g3 g5
        clear V
        go_enter Tryz.func88, Tryz.ntmps88
        go_wp2_with (first | (go_at_call 99; (with_reducible refine (wd_c d _ (by omega) (by omega)).mono ?_); rintro e w1 ⟨rfl, hg⟩; obtain ⟨hcl, hfz, hsz⟩ := gcell hg; clear hsz; have hz0 : w.heap.size < w1.heap.size := (by have hq := hg.size; (try simp at hq); omega)) | (go_at_call 103; (with_reducible refine (bad_c _ _).mono ?_); rintro e w1 ⟨rfl, hg⟩; obtain ⟨hcl, hfz, hsz⟩ := gcell hg; clear hsz; have hz0 : w.heap.size < w1.heap.size := (by have hq := hg.size; (try simp at hq); omega)))
        all_goals go_ret
        all_goals exact ⟨ret1 (by rw [E.out, HB.out]; rfl), (by repeat (first | exact Gr.refl _ | refine Gr.setCell ?_ _ _ (by first | exact Nat.le_refl _ | (simp; omega) | (simp; done)) | refine Gr.grown ?_ _ _ | refine Gr.drewN ?_ _ | refine Gr.drew ?_ | refine Gr.alloc ?_ _ | refine Gr.grow ?_ _ | (refine Gr.trans ?_ (by assumption))))⟩
    · have E := Lib.hid (dly_not (d := d) (p := p) (leap := leap) (after := after) (by unfold late; rw [decide_eq_false p1, decide_eq_false p2, b2, b1]; rfl))
      have g0 : (d % 7 == 0) = false := beq_eq_false_iff_ne.2 (by have := V.out; omega)
      have g3 : (d % 7 == 3) = false := beq_eq_false_iff_ne.2 (by have := V.out; omega)
      have g5 : (d % 7 == 5) = false := beq_eq_false_iff_ne.2 (by have := V.out; omega)
      have HB : RowKit.Hid (bad (d % 7) = false) := Lib.hid (by unfold bad; rw [g0, g3, g5]; rfl)
      have gb := HB.out
      clear g0 g3 g5
      clear V
      go_enter Tryz.func88, Tryz.ntmps88
      go_wp2_with (first | (go_at_call 99; (with_reducible refine (wd_c d _ (by omega) (by omega)).mono ?_); rintro e w1 ⟨rfl, hg⟩; obtain ⟨hcl, hfz, hsz⟩ := gcell hg; clear hsz; have hz0 : w.heap.size < w1.heap.size := (by have hq := hg.size; (try simp at hq); omega)) | (go_at_call 103; (with_reducible refine (bad_c _ _).mono ?_); rintro e w1 ⟨rfl, hg⟩; obtain ⟨hcl, hfz, hsz⟩ := gcell hg; clear hsz; have hz0 : w.heap.size < w1.heap.size := (by have hq := hg.size; (try simp at hq); omega)))
      all_goals go_ret
      all_goals exact ⟨ret1 (by rw [E.out, HB.out]; rfl), (by repeat (first | exact Gr.refl _ | refine Gr.setCell ?_ _ _ (by first | exact Nat.le_refl _ | (simp; omega) | (simp; done)) | refine Gr.grown ?_ _ _ | refine Gr.drewN ?_ _ | refine Gr.drew ?_ | refine Gr.alloc ?_ _ | refine Gr.grow ?_ _ | (refine Gr.trans ?_ (by assumption))))⟩
  by_cases v1 : d % 7 = 1
  · have b1 : (d % 7 == 1) = true := beq_iff_eq.2 v1
    have b2 : (d % 7 == 2) = false := beq_eq_false_iff_ne.2 v2
    have V : RowKit.Hid (d % 7 = 1) := Lib.hid v1
    clear v1 v2
    by_cases p3 : 16789 ≤ p
    · cases after
      · have E := Lib.hid (dly_not (d := d) (p := p) (leap := leap) (after := false) (by unfold late; rw [decide_eq_false p1, b2, decide_eq_true p3, b1]; simp))
        have g0 : (d % 7 == 0) = false := beq_eq_false_iff_ne.2 (by have := V.out; omega)
        have g3 : (d % 7 == 3) = false := beq_eq_false_iff_ne.2 (by have := V.out; omega)
        have g5 : (d % 7 == 5) = false := beq_eq_false_iff_ne.2 (by have := V.out; omega)
        have HB : RowKit.Hid (bad (d % 7) = false) := Lib.hid (by unfold bad; rw [g0, g3, g5]; rfl)
        have gb := HB.out
        clear g0 g3 g5
        clear V
        go_enter Tryz.func88, Tryz.ntmps88
        go_wp2_with (first | (go_at_call 99; (with_reducible refine (wd_c d _ (by omega) (by omega)).mono ?_); rintro e w1 ⟨rfl, hg⟩; obtain ⟨hcl, hfz, hsz⟩ := gcell hg; clear hsz; have hz0 : w.heap.size < w1.heap.size := (by have hq := hg.size; (try simp at hq); omega)) | (go_at_call 103; (with_reducible refine (bad_c _ _).mono ?_); rintro e w1 ⟨rfl, hg⟩; obtain ⟨hcl, hfz, hsz⟩ := gcell hg; clear hsz; have hz0 : w.heap.size < w1.heap.size := (by have hq := hg.size; (try simp at hq); omega)))
        all_goals go_ret
        all_goals exact ⟨ret1 (by rw [E.out, HB.out]; rfl), (by repeat (first | exact Gr.refl _ | refine Gr.setCell ?_ _ _ (by first | exact Nat.le_refl _ | (simp; omega) | (simp; done)) | refine Gr.grown ?_ _ _ | refine Gr.drewN ?_ _ | refine Gr.drew ?_ | refine Gr.alloc ?_ _ | refine Gr.grow ?_ _ | (refine Gr.trans ?_ (by assumption))))⟩
      · have E := Lib.hid (dly_late (d := d) (p := p) (leap := leap) (after := true) (by unfold late; rw [decide_eq_false p1, b2, decide_eq_true p3, b1]; rfl))
        have g0 : ((d + 1) % 7 == 0) = false := beq_eq_false_iff_ne.2 (by have := V.out; omega)
        have g3 : ((d + 1) % 7 == 3) = false := beq_eq_false_iff_ne.2 (by have := V.out; omega)
        have g5 : ((d + 1) % 7 == 5) = false := beq_eq_false_iff_ne.2 (by have := V.out; omega)
        have HB : RowKit.Hid (bad ((d + 1) % 7) = false) := Lib.hid (by unfold bad; rw [g0, g3, g5]; rfl)
        have gb := HB.out
        clear g0 g3 g5
        clear V
        go_enter Tryz.func88, Tryz.ntmps88
        go_wp2_with (first | (go_at_call 99; (with_reducible refine (wd_c d _ (by omega) (by omega)).mono ?_); rintro e w1 ⟨rfl, hg⟩; obtain ⟨hcl, hfz, hsz⟩ := gcell hg; clear hsz; have hz0 : w.heap.size < w1.heap.size := (by have hq := hg.size; (try simp at hq); omega)) | (go_at_call 103; (with_reducible refine (bad_c _ _).mono ?_); rintro e w1 ⟨rfl, hg⟩; obtain ⟨hcl, hfz, hsz⟩ := gcell hg; clear hsz; have hz0 : w.heap.size < w1.heap.size := (by have hq := hg.size; (try simp at hq); omega)))
        all_goals go_ret
        all_goals exact ⟨ret1 (by rw [E.out, HB.out]; rfl), (by repeat (first | exact Gr.refl _ | refine Gr.setCell ?_ _ _ (by first | exact Nat.le_refl _ | (simp; omega) | (simp; done)) | refine Gr.grown ?_ _ _ | refine Gr.drewN ?_ _ | refine Gr.drew ?_ | refine Gr.alloc ?_ _ | refine Gr.grow ?_ _ | (refine Gr.trans ?_ (by assumption))))⟩
    · have E := Lib.hid (dly_not (d := d) (p := p) (leap := leap) (after := after) (by unfold late; rw [decide_eq_false p1, b2, decide_eq_false p3, b1]; rfl))
      have g0 : (d % 7 == 0) = false := beq_eq_false_iff_ne.2 (by have := V.out; omega)
      have g3 : (d % 7 == 3) = false := beq_eq_false_iff_ne.2 (by have := V.out; omega)
      have g5 : (d % 7 == 5) = false := beq_eq_false_iff_ne.2 (by have := V.out; omega)
      have HB : RowKit.Hid (bad (d % 7) = false) := Lib.hid (by unfold bad; rw [g0, g3, g5]; rfl)
      have gb := HB.out
      clear g0 g3 g5
      clear V
      go_enter Tryz.func88, Tryz.ntmps88
      go_wp2_with (first | (go_at_call 99; (with_reducible refine (wd_c d _ (by omega) (by omega)).mono ?_); rintro e w1 ⟨rfl, hg⟩; obtain ⟨hcl, hfz, hsz⟩ := gcell hg; clear hsz; have hz0 : w.heap.size < w1.heap.size := (by have hq := hg.size; (try simp at hq); omega)) | (go_at_call 103; (with_reducible refine (bad_c _ _).mono ?_); rintro e w1 ⟨rfl, hg⟩; obtain ⟨hcl, hfz, hsz⟩ := gcell hg; clear hsz; have hz0 : w.heap.size < w1.heap.size := (by have hq := hg.size; (try simp at hq); omega)))
      all_goals go_ret
      all_goals exact ⟨ret1 (by rw [E.out, HB.out]; rfl), (by repeat (first | exact Gr.refl _ | refine Gr.setCell ?_ _ _ (by first | exact Nat.le_refl _ | (simp; omega) | (simp; done)) | refine Gr.grown ?_ _ _ | refine Gr.drewN ?_ _ | refine Gr.drew ?_ | refine Gr.alloc ?_ _ | refine Gr.grow ?_ _ | (refine Gr.trans ?_ (by assumption))))⟩
  have b1 : (d % 7 == 1) = false := beq_eq_false_iff_ne.2 v1
  have b2 : (d % 7 == 2) = false := beq_eq_false_iff_ne.2 v2
  clear v1 v2
  have E := Lib.hid (dly_not (d := d) (p := p) (leap := leap) (after := after) (by unfold late; rw [decide_eq_false p1, b2, b1]; rfl))
  cases hb : bad (d % 7)
  · have HB := Lib.hid hb
    go_enter Tryz.func88, Tryz.ntmps88
    go_wp2_with (first | (go_at_call 99; (with_reducible refine (wd_c d _ (by omega) (by omega)).mono ?_); rintro e w1 ⟨rfl, hg⟩; obtain ⟨hcl, hfz, hsz⟩ := gcell hg; clear hsz; have hz0 : w.heap.size < w1.heap.size := (by have hq := hg.size; (try simp at hq); omega)) | (go_at_call 103; (with_reducible refine (bad_c _ _).mono ?_); rintro e w1 ⟨rfl, hg⟩; obtain ⟨hcl, hfz, hsz⟩ := gcell hg; clear hsz; have hz0 : w.heap.size < w1.heap.size := (by have hq := hg.size; (try simp at hq); omega)))
    go_ret
    exact ⟨ret1 (by rw [E.out, HB.out]; rfl), (by repeat (first | exact Gr.refl _ | refine Gr.setCell ?_ _ _ (by first | exact Nat.le_refl _ | (simp; omega) | (simp; done)) | refine Gr.grown ?_ _ _ | refine Gr.drewN ?_ _ | refine Gr.drew ?_ | refine Gr.alloc ?_ _ | refine Gr.grow ?_ _ | (refine Gr.trans ?_ (by assumption))))⟩
  · have HB := Lib.hid hb
    go_enter Tryz.func88, Tryz.ntmps88
    go_wp2_with (first | (go_at_call 99; (with_reducible refine (wd_c d _ (by omega) (by omega)).mono ?_); rintro e w1 ⟨rfl, hg⟩; obtain ⟨hcl, hfz, hsz⟩ := gcell hg; clear hsz; have hz0 : w.heap.size < w1.heap.size := (by have hq := hg.size; (try simp at hq); omega)) | (go_at_call 103; (with_reducible refine (bad_c _ _).mono ?_); rintro e w1 ⟨rfl, hg⟩; obtain ⟨hcl, hfz, hsz⟩ := gcell hg; clear hsz; have hz0 : w.heap.size < w1.heap.size := (by have hq := hg.size; (try simp at hq); omega)))
    go_ret
    exact ⟨ret1 (by rw [E.out, HB.out]; rfl), (by repeat (first | exact Gr.refl _ | refine Gr.setCell ?_ _ _ (by first | exact Nat.le_refl _ | (simp; omega) | (simp; done)) | refine Gr.grown ?_ _ _ | refine Gr.drewN ?_ _ | refine Gr.drew ?_ | refine Gr.alloc ?_ _ | refine Gr.grow ?_ _ | (refine Gr.trans ?_ (by assumption))))⟩

set_option maxHeartbeats 4000000 in
theorem rdelay_c (d p : Int) (leap after : Bool) (w : World) (d0 : -9223372036854775808 ≤ d) (d1 : d ≤ 9223372036854775807) :
    Calls Tryz.prog 66 #[.agg #[.int .i64 d, .int .i64 p], .bool leap, .bool after] w fun e w' => e = .returned (.int .i64 (dly d p leap after)) ∧ Gr w w' := by
  by_cases p1 : 19440 ≤ p
  · have E := Lib.hid (dly_late (d := d) (p := p) (leap := leap) (after := after) (by unfold late; rw [decide_eq_true p1]; rfl))
    by_cases u0 : (d + 1) % 7 = 0
    · have g0 : ((d + 1) % 7 == 0) = true := beq_iff_eq.2 u0
      have HB : RowKit.Hid (bad ((d + 1) % 7) = true) := Lib.hid (by unfold bad; rw [g0]; rfl)
      clear u0
      go_enter Tryz.func66, Tryz.ntmps66
      go_wp2_with (first | (go_at_call 63; (with_reducible refine (rwd_c d _ (by omega) (by omega)).mono ?_); rintro e w1 ⟨rfl, hg⟩; obtain ⟨hcl, hfz, hsz⟩ := gcell hg; clear hsz; have hz0 : w.heap.size < w1.heap.size := (by have hq := hg.size; (try simp at hq); omega)))
      all_goals go_ret
      all_goals exact ⟨ret1 (by rw [E.out, HB.out]; rfl), (by repeat (first | exact Gr.refl _ | refine Gr.setCell ?_ _ _ (by first | exact Nat.le_refl _ | (simp; omega) | (simp; done)) | refine Gr.grown ?_ _ _ | refine Gr.drewN ?_ _ | refine Gr.drew ?_ | refine Gr.alloc ?_ _ | refine Gr.grow ?_ _ | (refine Gr.trans ?_ (by assumption))))⟩
    have g0 : ((d + 1) % 7 == 0) = false := beq_eq_false_iff_ne.2 u0
    clear u0
    by_cases u3 : (d + 1) % 7 = 3
    · have g3 : ((d + 1) % 7 == 3) = true := beq_iff_eq.2 u3
      have HB : RowKit.Hid (bad ((d + 1) % 7) = true) := Lib.hid (by unfold bad; rw [g0, g3]; rfl)
      clear u3
      go_enter Tryz.func66, Tryz.ntmps66
      go_wp2_with (first | (go_at_call 63; (with_reducible refine (rwd_c d _ (by omega) (by omega)).mono ?_); rintro e w1 ⟨rfl, hg⟩; obtain ⟨hcl, hfz, hsz⟩ := gcell hg; clear hsz; have hz0 : w.heap.size < w1.heap.size := (by have hq := hg.size; (try simp at hq); omega)))
      all_goals go_ret
      all_goals exact ⟨ret1 (by rw [E.out, HB.out]; rfl), (by repeat (first | exact Gr.refl _ | refine Gr.setCell ?_ _ _ (by first | exact Nat.le_refl _ | (simp; omega) | (simp; done)) | refine Gr.grown ?_ _ _ | refine Gr.drewN ?_ _ | refine Gr.drew ?_ | refine Gr.alloc ?_ _ | refine Gr.grow ?_ _ | (refine Gr.trans ?_ (by assumption))))⟩
    have g3 : ((d + 1) % 7 == 3) = false := beq_eq_false_iff_ne.2 u3
    clear u3
    by_cases u5 : (d + 1) % 7 = 5
    · have g5 : ((d + 1) % 7 == 5) = true := beq_iff_eq.2 u5
      have HB : RowKit.Hid (bad ((d + 1) % 7) = true) := Lib.hid (by unfold bad; rw [g0, g3, g5]; rfl)
      clear u5
      go_enter Tryz.func66, Tryz.ntmps66
      go_wp2_with (first | (go_at_call 63; (with_reducible refine (rwd_c d _ (by omega) (by omega)).mono ?_); rintro e w1 ⟨rfl, hg⟩; obtain ⟨hcl, hfz, hsz⟩ := gcell hg; clear hsz; have hz0 : w.heap.size < w1.heap.size := (by have hq := hg.size; (try simp at hq); omega)))
      all_goals go_ret
      all_goals exact ⟨ret1 (by rw [E.out, HB.out]; rfl), (by repeat (first | exact Gr.refl _ | refine Gr.setCell ?_ _ _ (by first | exact Nat.le_refl _ | (simp; omega) | (simp; done)) | refine Gr.grown ?_ _ _ | refine Gr.drewN ?_ _ | refine Gr.drew ?_ | refine Gr.alloc ?_ _ | refine Gr.grow ?_ _ | (refine Gr.trans ?_ (by assumption))))⟩
    have g5 : ((d + 1) % 7 == 5) = false := beq_eq_false_iff_ne.2 u5
    clear u5
    have HB : RowKit.Hid (bad ((d + 1) % 7) = false) := Lib.hid (by unfold bad; rw [g0, g3, g5]; rfl)
    go_enter Tryz.func66, Tryz.ntmps66
    go_wp2_with (first | (go_at_call 63; (with_reducible refine (rwd_c d _ (by omega) (by omega)).mono ?_); rintro e w1 ⟨rfl, hg⟩; obtain ⟨hcl, hfz, hsz⟩ := gcell hg; clear hsz; have hz0 : w.heap.size < w1.heap.size := (by have hq := hg.size; (try simp at hq); omega)))
    all_goals go_ret
    all_goals exact ⟨ret1 (by rw [E.out, HB.out]; rfl), (by repeat (first | exact Gr.refl _ | refine Gr.setCell ?_ _ _ (by first | exact Nat.le_refl _ | (simp; omega) | (simp; done)) | refine Gr.grown ?_ _ _ | refine Gr.drewN ?_ _ | refine Gr.drew ?_ | refine Gr.alloc ?_ _ | refine Gr.grow ?_ _ | (refine Gr.trans ?_ (by assumption))))⟩
  by_cases v2 : d % 7 = 2
  · have b2 : (d % 7 == 2) = true := beq_iff_eq.2 v2
    have b1 : (d % 7 == 1) = false := beq_eq_false_iff_ne.2 (by omega)
    have V : RowKit.Hid (d % 7 = 2) := Lib.hid v2
    clear v2
    by_cases p2 : 9924 ≤ p
    · cases leap
      · have E := Lib.hid (dly_late (d := d) (p := p) (leap := false) (after := after) (by unfold late; rw [decide_eq_false p1, decide_eq_true p2, b2]; rfl))
        have g0 : ((d + 1) % 7 == 0) = false := beq_eq_false_iff_ne.2 (by have := V.out; omega)
        have g3 : ((d + 1) % 7 == 3) = true := beq_iff_eq.2 (by have := V.out; omega)
        have HB : RowKit.Hid (bad ((d + 1) % 7) = true) := Lib.hid (by unfold bad; rw [g0, g3]; rfl)
        clear V
        go_enter Tryz.func66, Tryz.ntmps66
        go_wp2_with (first | (go_at_call 63; (with_reducible refine (rwd_c d _ (by omega) (by omega)).mono ?_); rintro e w1 ⟨rfl, hg⟩; obtain ⟨hcl, hfz, hsz⟩ := gcell hg; clear hsz; have hz0 : w.heap.size < w1.heap.size := (by have hq := hg.size; (try simp at hq); omega)))
        all_goals go_ret
        all_goals exact ⟨ret1 (by rw [E.out, HB.out]; rfl), (by repeat (first | exact Gr.refl _ | refine Gr.setCell ?_ _ _ (by first | exact Nat.le_refl _ | (simp; omega) | (simp; done)) | refine Gr.grown ?_ _ _ | refine Gr.drewN ?_ _ | refine Gr.drew ?_ | refine Gr.alloc ?_ _ | refine Gr.grow ?_ _ | (refine Gr.trans ?_ (by assumption))))⟩
      · have E := Lib.hid (dly_not (d := d) (p := p) (leap := true) (after := after) (by unfold late; rw [decide_eq_false p1, decide_eq_true p2, b2, b1]; rfl))
        have g0 : (d % 7 == 0) = false := beq_eq_false_iff_ne.2 (by have := V.out; omega)
        have g3 : (d % 7 == 3) = false := beq_eq_false_iff_ne.2 (by have := V.out; omega)
        have g5 : (d % 7 == 5) = false := beq_eq_false_iff_ne.2 (by have := V.out; omega)
        have HB : RowKit.Hid (bad (d % 7) = false) := Lib.hid (by unfold bad; rw [g0, g3, g5]; rfl)
        clear V
        go_enter Tryz.func66, Tryz.ntmps66
        go_wp2_with (first | (go_at_call 63; (with_reducible refine (rwd_c d _ (by omega) (by omega)).mono ?_); rintro e w1 ⟨rfl, hg⟩; obtain ⟨hcl, hfz, hsz⟩ := gcell hg; clear hsz; have hz0 : w.heap.size < w1.heap.size := (by have hq := hg.size; (try simp at hq); omega)))
        all_goals go_ret
        all_goals exact ⟨ret1 (by rw [E.out, HB.out]; rfl), (by repeat (first | exact Gr.refl _ | refine Gr.setCell ?_ _ _ (by first | exact Nat.le_refl _ | (simp; omega) | (simp; done)) | refine Gr.grown ?_ _ _ | refine Gr.drewN ?_ _ | refine Gr.drew ?_ | refine Gr.alloc ?_ _ | refine Gr.grow ?_ _ | (refine Gr.trans ?_ (by assumption))))⟩
    · have E := Lib.hid (dly_not (d := d) (p := p) (leap := leap) (after := after) (by unfold late; rw [decide_eq_false p1, decide_eq_false p2, b2, b1]; rfl))
      have g0 : (d % 7 == 0) = false := beq_eq_false_iff_ne.2 (by have := V.out; omega)
      have g3 : (d % 7 == 3) = false := beq_eq_false_iff_ne.2 (by have := V.out; omega)
      have g5 : (d % 7 == 5) = false := beq_eq_false_iff_ne.2 (by have := V.out; omega)
      have HB : RowKit.Hid (bad (d % 7) = false) := Lib.hid (by unfold bad; rw [g0, g3, g5]; rfl)
      clear V
      go_enter Tryz.func66, Tryz.ntmps66
      go_wp2_with (first | (go_at_call 63; (with_reducible refine (rwd_c d _ (by omega) (by omega)).mono ?_); rintro e w1 ⟨rfl, hg⟩; obtain ⟨hcl, hfz, hsz⟩ := gcell hg; clear hsz; have hz0 : w.heap.size < w1.heap.size := (by have hq := hg.size; (try simp at hq); omega)))
      all_goals go_ret
      all_goals exact ⟨ret1 (by rw [E.out, HB.out]; rfl), (by repeat (first | exact Gr.refl _ | refine Gr.setCell ?_ _ _ (by first | exact Nat.le_refl _ | (simp; omega) | (simp; done)) | refine Gr.grown ?_ _ _ | refine Gr.drewN ?_ _ | refine Gr.drew ?_ | refine Gr.alloc ?_ _ | refine Gr.grow ?_ _ | (refine Gr.trans ?_ (by assumption))))⟩
  by_cases v1 : d % 7 = 1
  · have b1 : (d % 7 == 1) = true := beq_iff_eq.2 v1
    have b2 : (d % 7 == 2) = false := beq_eq_false_iff_ne.2 v2
    have V : RowKit.Hid (d % 7 = 1) := Lib.hid v1
    clear v1 v2
    by_cases p3 : 16789 ≤ p
    · cases after
      · have E := Lib.hid (dly_not (d := d) (p := p) (leap := leap) (after := false) (by unfold late; rw [decide_eq_false p1, b2, decide_eq_true p3, b1]; simp))
        have g0 : (d % 7 == 0) = false := beq_eq_false_iff_ne.2 (by have := V.out; omega)
        have g3 : (d % 7 == 3) = false := beq_eq_false_iff_ne.2 (by have := V.out; omega)
        have g5 : (d % 7 == 5) = false := beq_eq_false_iff_ne.2 (by have := V.out; omega)
        have HB : RowKit.Hid (bad (d % 7) = false) := Lib.hid (by unfold bad; rw [g0, g3, g5]; rfl)
        clear V
        go_enter Tryz.func66, Tryz.ntmps66
        go_wp2_with (first | (go_at_call 63; (with_reducible refine (rwd_c d _ (by omega) (by omega)).mono ?_); rintro e w1 ⟨rfl, hg⟩; obtain ⟨hcl, hfz, hsz⟩ := gcell hg; clear hsz; have hz0 : w.heap.size < w1.heap.size := (by have hq := hg.size; (try simp at hq); omega)))
        all_goals go_ret
        all_goals exact ⟨ret1 (by rw [E.out, HB.out]; rfl), (by repeat (first | exact Gr.refl _ | refine Gr.setCell ?_ _ _ (by first | exact Nat.le_refl _ | (simp; omega) | (simp; done)) | refine Gr.grown ?_ _ _ | refine Gr.drewN ?_ _ | refine Gr.drew ?_ | refine Gr.alloc ?_ _ | refine Gr.grow ?_ _ | (refine Gr.trans ?_ (by assumption))))⟩
      · have E := Lib.hid (dly_late (d := d) (p := p) (leap := leap) (after := true) (by unfold late; rw [decide_eq_false p1, b2, decide_eq_true p3, b1]; rfl))
        have g0 : ((d + 1) % 7 == 0) = false := beq_eq_false_iff_ne.2 (by have := V.out; omega)
        have g3 : ((d + 1) % 7 == 3) = false := beq_eq_false_iff_ne.2 (by have := V.out; omega)
        have g5 : ((d + 1) % 7 == 5) = false := beq_eq_false_iff_ne.2 (by have := V.out; omega)
        have HB : RowKit.Hid (bad ((d + 1) % 7) = false) := Lib.hid (by unfold bad; rw [g0, g3, g5]; rfl)
        clear V
        go_enter Tryz.func66, Tryz.ntmps66
        go_wp2_with (first | (go_at_call 63; (with_reducible refine (rwd_c d _ (by omega) (by omega)).mono ?_); rintro e w1 ⟨rfl, hg⟩; obtain ⟨hcl, hfz, hsz⟩ := gcell hg; clear hsz; have hz0 : w.heap.size < w1.heap.size := (by have hq := hg.size; (try simp at hq); omega)))
        all_goals go_ret
        all_goals exact ⟨ret1 (by rw [E.out, HB.out]; rfl), (by repeat (first | exact Gr.refl _ | refine Gr.setCell ?_ _ _ (by first | exact Nat.le_refl _ | (simp; omega) | (simp; done)) | refine Gr.grown ?_ _ _ | refine Gr.drewN ?_ _ | refine Gr.drew ?_ | refine Gr.alloc ?_ _ | refine Gr.grow ?_ _ | (refine Gr.trans ?_ (by assumption))))⟩
    · have E := Lib.hid (dly_not (d := d) (p := p) (leap := leap) (after := after) (by unfold late; rw [decide_eq_false p1, b2, decide_eq_false p3, b1]; rfl))
      have g0 : (d % 7 == 0) = false := beq_eq_false_iff_ne.2 (by have := V.out; omega)
      have g3 : (d % 7 == 3) = false := beq_eq_false_iff_ne.2 (by have := V.out; omega)
      have g5 : (d % 7 == 5) = false := beq_eq_false_iff_ne.2 (by have := V.out; omega)
      have HB : RowKit.Hid (bad (d % 7) = false) := Lib.hid (by unfold bad; rw [g0, g3, g5]; rfl)
      clear V
      go_enter Tryz.func66, Tryz.ntmps66
      go_wp2_with (first | (go_at_call 63; (with_reducible refine (rwd_c d _ (by omega) (by omega)).mono ?_); rintro e w1 ⟨rfl, hg⟩; obtain ⟨hcl, hfz, hsz⟩ := gcell hg; clear hsz; have hz0 : w.heap.size < w1.heap.size := (by have hq := hg.size; (try simp at hq); omega)))
      all_goals go_ret
      all_goals exact ⟨ret1 (by rw [E.out, HB.out]; rfl), (by repeat (first | exact Gr.refl _ | refine Gr.setCell ?_ _ _ (by first | exact Nat.le_refl _ | (simp; omega) | (simp; done)) | refine Gr.grown ?_ _ _ | refine Gr.drewN ?_ _ | refine Gr.drew ?_ | refine Gr.alloc ?_ _ | refine Gr.grow ?_ _ | (refine Gr.trans ?_ (by assumption))))⟩
  have b1 : (d % 7 == 1) = false := beq_eq_false_iff_ne.2 v1
  have b2 : (d % 7 == 2) = false := beq_eq_false_iff_ne.2 v2
  clear v1 v2
  have E := Lib.hid (dly_not (d := d) (p := p) (leap := leap) (after := after) (by unfold late; rw [decide_eq_false p1, b2, b1]; rfl))
  by_cases u0 : d % 7 = 0
  · have g0 : (d % 7 == 0) = true := beq_iff_eq.2 u0
    have HB : RowKit.Hid (bad (d % 7) = true) := Lib.hid (by unfold bad; rw [g0]; rfl)
    clear u0
    go_enter Tryz.func66, Tryz.ntmps66
    go_wp2_with (first | (go_at_call 63; (with_reducible refine (rwd_c d _ (by omega) (by omega)).mono ?_); rintro e w1 ⟨rfl, hg⟩; obtain ⟨hcl, hfz, hsz⟩ := gcell hg; clear hsz; have hz0 : w.heap.size < w1.heap.size := (by have hq := hg.size; (try simp at hq); omega)))
    all_goals go_ret
    all_goals exact ⟨ret1 (by rw [E.out, HB.out]; rfl), (by repeat (first | exact Gr.refl _ | refine Gr.setCell ?_ _ _ (by first | exact Nat.le_refl _ | (simp; omega) | (simp; done)) | refine Gr.grown ?_ _ _ | refine Gr.drewN ?_ _ | refine Gr.drew ?_ | refine Gr.alloc ?_ _ | refine Gr.grow ?_ _ | (refine Gr.trans ?_ (by assumption))))⟩
  have g0 : (d % 7 == 0) = false := beq_eq_false_iff_ne.2 u0
  clear u0
  by_cases u3 : d % 7 = 3
  · have g3 : (d % 7 == 3) = true := beq_iff_eq.2 u3
    have HB : RowKit.Hid (bad (d % 7) = true) := Lib.hid (by unfold bad; rw [g0, g3]; rfl)
    clear u3
    go_enter Tryz.func66, Tryz.ntmps66
    go_wp2_with (first | (go_at_call 63; (with_reducible refine (rwd_c d _ (by omega) (by omega)).mono ?_); rintro e w1 ⟨rfl, hg⟩; obtain ⟨hcl, hfz, hsz⟩ := gcell hg; clear hsz; have hz0 : w.heap.size < w1.heap.size := (by have hq := hg.size; (try simp at hq); omega)))
    all_goals go_ret
    all_goals exact ⟨ret1 (by rw [E.out, HB.out]; rfl), (by repeat (first | exact Gr.refl _ | refine Gr.setCell ?_ _ _ (by first | exact Nat.le_refl _ | (simp; omega) | (simp; done)) | refine Gr.grown ?_ _ _ | refine Gr.drewN ?_ _ | refine Gr.drew ?_ | refine Gr.alloc ?_ _ | refine Gr.grow ?_ _ | (refine Gr.trans ?_ (by assumption))))⟩
  have g3 : (d % 7 == 3) = false := beq_eq_false_iff_ne.2 u3
  clear u3
  by_cases u5 : d % 7 = 5
  · have g5 : (d % 7 == 5) = true := beq_iff_eq.2 u5
    have HB : RowKit.Hid (bad (d % 7) = true) := Lib.hid (by unfold bad; rw [g0, g3, g5]; rfl)
    clear u5
    go_enter Tryz.func66, Tryz.ntmps66
    go_wp2_with (first | (go_at_call 63; (with_reducible refine (rwd_c d _ (by omega) (by omega)).mono ?_); rintro e w1 ⟨rfl, hg⟩; obtain ⟨hcl, hfz, hsz⟩ := gcell hg; clear hsz; have hz0 : w.heap.size < w1.heap.size := (by have hq := hg.size; (try simp at hq); omega)))
    all_goals go_ret
    all_goals exact ⟨ret1 (by rw [E.out, HB.out]; rfl), (by repeat (first | exact Gr.refl _ | refine Gr.setCell ?_ _ _ (by first | exact Nat.le_refl _ | (simp; omega) | (simp; done)) | refine Gr.grown ?_ _ _ | refine Gr.drewN ?_ _ | refine Gr.drew ?_ | refine Gr.alloc ?_ _ | refine Gr.grow ?_ _ | (refine Gr.trans ?_ (by assumption))))⟩
  have g5 : (d % 7 == 5) = false := beq_eq_false_iff_ne.2 u5
  clear u5
  have HB : RowKit.Hid (bad (d % 7) = false) := Lib.hid (by unfold bad; rw [g0, g3, g5]; rfl)
  go_enter Tryz.func66, Tryz.ntmps66
  go_wp2_with (first | (go_at_call 63; (with_reducible refine (rwd_c d _ (by omega) (by omega)).mono ?_); rintro e w1 ⟨rfl, hg⟩; obtain ⟨hcl, hfz, hsz⟩ := gcell hg; clear hsz; have hz0 : w.heap.size < w1.heap.size := (by have hq := hg.size; (try simp at hq); omega)))
  all_goals go_ret
  all_goals exact ⟨ret1 (by rw [E.out, HB.out]; rfl), (by repeat (first | exact Gr.refl _ | refine Gr.setCell ?_ _ _ (by first | exact Nat.le_refl _ | (simp; omega) | (simp; done)) | refine Gr.grown ?_ _ _ | refine Gr.drewN ?_ _ | refine Gr.drew ?_ | refine Gr.alloc ?_ _ | refine Gr.grow ?_ _ | (refine Gr.trans ?_ (by assumption))))⟩

end Go.Proofs.YtkiopgegdkeojaaGreatDoor.Walks
