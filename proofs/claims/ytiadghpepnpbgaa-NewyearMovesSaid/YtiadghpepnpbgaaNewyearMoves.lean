/- A year is put off by two days at most, by none only on a weekday on which one may begin, and never to one on which none may: the walk of the law; every input. -/
import Derived.Test.YtiadghpepnpbgaaAwake45
import Derived.RegionTactic
import Derived.ChangeAlike
import Derived.BigRegion
set_option linter.unusedVariables false
set_option linter.unusedSimpArgs false
namespace Go.Proofs.Ytiadghpepnpbgaa.Walks
open Go Go.RowKit Go.Sort Go.Proofs.Ytiadghpepnpbgaa.Base Go.Proofs.Ytiadghpepnpbgaa.Plain Go.Proofs.Ytiadghpepnpbgaa.Math

theorem dly_ends (d p : Int) (leap after : Bool) : ((d + dly d p leap after) % 7 == 0) = false ∧ ((d + dly d p leap after) % 7 == 3) = false ∧ ((d + dly d p leap after) % 7 == 5) = false := by
  unfold dly
  by_cases h : late d p leap after = true
  · rw [if_pos h]
    by_cases b : bad ((d + 1) % 7) = true
    · rw [if_pos b]
      unfold bad at b
      simp only [Bool.or_eq_true, beq_iff_eq] at b
      simp only [beq_eq_false_iff_ne, ne_eq]
      omega
    · rw [if_neg b]
      unfold bad at b
      simp only [Bool.or_eq_true, beq_iff_eq] at b
      simp only [beq_eq_false_iff_ne, ne_eq]
      omega
  · rw [if_neg h]
    by_cases b : bad (d % 7) = true
    · rw [if_pos b]
      unfold bad at b
      simp only [Bool.or_eq_true, beq_iff_eq] at b
      simp only [beq_eq_false_iff_ne, ne_eq]
      omega
    · rw [if_neg b]
      unfold bad at b
      simp only [Bool.or_eq_true, beq_iff_eq] at b
      simp only [beq_eq_false_iff_ne, ne_eq]
      omega
theorem dly_late1 (d p : Int) (leap after : Bool) (h : 19440 ≤ p) : 1 ≤ dly d p leap after := by
  unfold dly late
  rw [decide_eq_true h, Bool.true_or, Bool.true_or, if_pos rfl]
  split <;> omega
theorem dly_after (d p : Int) (leap after : Bool) : dly d p leap false ≤ dly d p leap after := by
  cases after
  · exact Int.le_refl _
  · by_cases h : late d p leap false = true
    · have h2 : late d p leap true = true := by
        revert h; unfold late; cases decide (19440 ≤ p) <;> cases (d % 7 == 2 && decide (9924 ≤ p) && !leap) <;> cases (d % 7 == 1 && decide (16789 ≤ p)) <;> simp
      unfold dly
      rw [if_pos h, if_pos h2]
      exact Int.le_refl _
    · have h1 : late d p leap false = false := by simpa using h
      unfold dly
      rw [if_neg h]
      by_cases h2 : late d p leap true = true
      · rw [if_pos h2]; split <;> split <;> omega
      · rw [if_neg h2]; exact Int.le_refl _
theorem delay_v (d p A : Int) (leap after : Bool) (d0 : -9223372036854775808 ≤ d) (d1 : d ≤ 9223372036854775807) (h : dly d p leap after = A) (w : World) :
    Calls Try.prog 37 #[.agg #[.int .i64 d, .int .i64 p], .bool leap, .bool after] w fun e w' => e = .returned (.int .i64 A) ∧ Gr w w' := by
  subst h; exact delay_c d p leap after w d0 d1

set_option maxHeartbeats 4000000 in
theorem moves_core (d q p : Int) (leap after : Bool) (A B : Int) (w : World) (d0 : -2147483648 ≤ d) (d1 : d ≤ 2147483647) (q0 : 0 ≤ q) (q1 : q ≤ 65535) (hp : q % 25920 = p)
    (hA : dly d p leap after = A) (hB : dly d p leap false = B) :
    Calls Try.prog 11 #[.agg #[.int .i32 d, .int .u16 q, .bool leap, .bool after]] w fun e w' => e = .returned (.bool true) ∧ Gr w w' := by
  have HP := Lib.hid hp
  have p0 : 0 ≤ p := by omega
  have p1 : p ≤ 25919 := by omega
  have C1 := Lib.hid (delay_v d p A leap after (by omega) (by omega) hA)
  have C2 := Lib.hid (delay_v d p B leap false (by omega) (by omega) hB)
  have r := dly_range d p leap after
  have e := dly_ends d p leap after
  have l := dly_late1 d p leap after
  have m := dly_after d p leap after
  rw [hA] at r e l m
  rw [hB] at m
  have r0 := r.1
  have r1 := r.2
  have E : RowKit.Hid (Int.tmod (d + A) 7 % 7 = (d + A) % 7) := Lib.hid (by
    by_cases n : 0 ≤ d + A
    · rw [Int.tmod_eq_emod_of_nonneg n]; omega
    · have := Int.tmod_add_mul_tdiv (d + A) 7; have := Int.lt_tmod_of_pos (d + A) (b := 7) (by omega); have := Int.tmod_lt_of_pos (d + A) (b := 7) (by omega); omega)
  have E2 : RowKit.Hid ((Int.tmod (d + A) 7 + 7) % 7 = (d + A) % 7) := Lib.hid (by rw [Int.add_emod_right]; exact E.out)
  have t0 := Int.lt_tmod_of_pos (d + A) (b := 7) (by omega)
  have t1 := Int.tmod_lt_of_pos (d + A) (b := 7) (by omega)
  obtain ⟨g0, g3, g5⟩ := e
  have n0 : ((d + A) % 7 != 0) = true := by rw [bne, g0]; rfl
  have n3 : ((d + A) % 7 != 3) = true := by rw [bne, g3]; rfl
  have n5 : ((d + A) % 7 != 5) = true := by rw [bne, g5]; rfl
  clear hp hA hB r g0 g3 g5
  by_cases c : p < 19440
  · clear l
    go_enter Try.func11, Try.ntmps11
    go_wp2
    go_quiet (fail)
    go_wp2_with fail
    rw [HP.out]
    go_wp2_with (first | (go_at_call 37; (with_reducible refine (C1.out _).mono ?_); rintro e wA ⟨rfl, hgwA⟩; obtain ⟨hclwA, hfzwA, hszwA⟩ := gcell hgwA; (try simp [Nat.add_one_le_iff] at hszwA)) | (go_at_call 36; (first | rw [E.out] | rw [E2.out]); (with_reducible refine (awake05_c _).mono ?_); rintro e wB ⟨rfl, hgwB⟩; obtain ⟨hclwB, hfzwB, hszwB⟩ := gcell hgwB; have hl : w.heap.size + 1 < wB.heap.size := (by omega)) | (go_at_call 37; (with_reducible refine (C2.out _).mono ?_); rintro e wC ⟨rfl, hgwC⟩; obtain ⟨hclwC, hfzwC, hszwC⟩ := gcell hgwC; (try simp [Nat.add_one_le_iff] at hszwC)))
    go_ret
    exact ⟨retb (by first | rfl | (simp; omega)), (by repeat (first | exact Gr.refl _ | refine Gr.setCell ?_ _ _ (by first | exact Nat.le_refl _ | (simp; omega) | (simp; done)) | refine Gr.grown ?_ _ _ | refine Gr.drewN ?_ _ | refine Gr.drew ?_ | refine Gr.alloc ?_ _ | refine Gr.grow ?_ _ | (refine Gr.trans ?_ (by assumption))))⟩
  · have l1 := l (by omega)
    clear l
    go_enter Try.func11, Try.ntmps11
    go_wp2
    go_quiet (fail)
    go_wp2_with fail
    rw [HP.out]
    go_wp2_with (first | (go_at_call 37; (with_reducible refine (C1.out _).mono ?_); rintro e wA ⟨rfl, hgwA⟩; obtain ⟨hclwA, hfzwA, hszwA⟩ := gcell hgwA; (try simp [Nat.add_one_le_iff] at hszwA)) | (go_at_call 36; (first | rw [E.out] | rw [E2.out]); (with_reducible refine (awake05_c _).mono ?_); rintro e wB ⟨rfl, hgwB⟩; obtain ⟨hclwB, hfzwB, hszwB⟩ := gcell hgwB; have hl : w.heap.size + 1 < wB.heap.size := (by omega)) | (go_at_call 37; (with_reducible refine (C2.out _).mono ?_); rintro e wC ⟨rfl, hgwC⟩; obtain ⟨hclwC, hfzwC, hszwC⟩ := gcell hgwC; (try simp [Nat.add_one_le_iff] at hszwC)))
    go_ret
    exact ⟨retb (by first | rfl | (simp; omega)), (by repeat (first | exact Gr.refl _ | refine Gr.setCell ?_ _ _ (by first | exact Nat.le_refl _ | (simp; omega) | (simp; done)) | refine Gr.grown ?_ _ _ | refine Gr.drewN ?_ _ | refine Gr.drew ?_ | refine Gr.alloc ?_ _ | refine Gr.grow ?_ _ | (refine Gr.trans ?_ (by assumption))))⟩

theorem newyearMoves_w (d q : Int) (leap after : Bool) (w : World) (w0 : (Lit.int .i32 d).wf = true) (w1 : (Lit.int .u16 q).wf = true) :
    Calls Try.prog 11 #[.agg #[.int .i32 d, .int .u16 q, .bool leap, .bool after]] w fun e w' => e = .returned (.bool true) ∧ Gr w w' :=
  moves_core d q _ leap after _ _ w (bounds_i32 w0).1 (bounds_i32 w0).2 (bounds_u16 w1).1 (bounds_u16 w1).2 rfl rfl rfl

end Go.Proofs.Ytiadghpepnpbgaa.Walks
