/- Walks of the reference of layer 1: what its functions answer, for whole numbers of 64 bits. -/
import Derived.Test.YtiadghpepnpbgaaBase
set_option linter.unusedVariables false
set_option linter.unusedSimpArgs false
namespace Go.Proofs.Ytiadghpepnpbgaa.Walks
open Go Go.RowKit Go.Sort Go.Proofs.Ytiadghpepnpbgaa.Base Go.Proofs.Ytiadghpepnpbgaa.Plain

/-- A quotient, rounded down. -/
theorem rdown_c (a b : Int) (w : World) (hb : 0 < b) (h0 : -9223372036854775808 ≤ a) (h1 : a ≤ 9223372036854775807) (hb1 : b ≤ 9223372036854775807) :
    Calls Try.prog 55 #[.int .i64 a, .int .i64 b] w fun e w' => e = .returned (.int .i64 (a / b)) ∧ Gr w w' := by
  have f := floor_both a b hb
  have m2 := ediv_range a b hb h0 h1
  have m3 := tdiv_range a b hb h0 h1
  have z : (b == 0) = false := beq_eq_false_iff_ne.2 (by omega)
  by_cases h : Int.tmod a b < 0
  · rw [if_pos h, if_pos h] at f
    have E1 : RowKit.Hid (wrap64 (Int.tdiv a b - 1) = a / b) := Lib.hid (by rw [f.1, w64 m2.1 m2.2])
    have hd : decide (Int.tmod a b < 0) = true := decide_eq_true h
    clear f m2 m3 h
    go_enter Try.func55, Try.ntmps55
    go_wp2
    go_ret
    exact ⟨ret1 E1.out, (by repeat (first | exact Gr.refl _ | refine Gr.setCell ?_ _ _ (by first | exact Nat.le_refl _ | (simp; omega) | (simp; done)) | refine Gr.grown ?_ _ _ | refine Gr.drewN ?_ _ | refine Gr.drew ?_ | refine Gr.alloc ?_ _ | refine Gr.grow ?_ _ | (refine Gr.trans ?_ (by assumption))))⟩
  · rw [if_neg h, if_neg h] at f
    have E1 : RowKit.Hid (Int.tdiv a b = a / b) := Lib.hid f.1
    have hd : decide (Int.tmod a b < 0) = false := decide_eq_false h
    clear f m2 m3 h
    go_enter Try.func55, Try.ntmps55
    go_wp2
    go_ret
    exact ⟨ret1 E1.out, (by repeat (first | exact Gr.refl _ | refine Gr.setCell ?_ _ _ (by first | exact Nat.le_refl _ | (simp; omega) | (simp; done)) | refine Gr.grown ?_ _ _ | refine Gr.drewN ?_ _ | refine Gr.drew ?_ | refine Gr.alloc ?_ _ | refine Gr.grow ?_ _ | (refine Gr.trans ?_ (by assumption))))⟩

theorem rleft_c (a b : Int) (w : World) (hb : 0 < b) (h0 : -9223372036854775808 ≤ a) (h1 : a ≤ 9223372036854775807) (hb1 : b ≤ 9223372036854775807) :
    Calls Try.prog 56 #[.int .i64 a, .int .i64 b] w fun e w' => e = .returned (.int .i64 (a % b)) ∧ Gr w w' := by
  have f := floor_both a b hb
  have m0 := Int.emod_nonneg a (b := b) (by omega)
  have m1 := Int.emod_lt_of_pos a hb
  have z : (b == 0) = false := beq_eq_false_iff_ne.2 (by omega)
  by_cases h : Int.tmod a b < 0
  · rw [if_pos h, if_pos h] at f
    have E1 : RowKit.Hid (wrap64 (Int.tmod a b + b) = a % b) := Lib.hid (by rw [f.2, w64 (by omega) (by omega)])
    have hd : decide (Int.tmod a b < 0) = true := decide_eq_true h
    clear f m0 m1 h
    go_enter Try.func56, Try.ntmps56
    go_wp2
    go_ret
    exact ⟨ret1 E1.out, (by repeat (first | exact Gr.refl _ | refine Gr.setCell ?_ _ _ (by first | exact Nat.le_refl _ | (simp; omega) | (simp; done)) | refine Gr.grown ?_ _ _ | refine Gr.drewN ?_ _ | refine Gr.drew ?_ | refine Gr.alloc ?_ _ | refine Gr.grow ?_ _ | (refine Gr.trans ?_ (by assumption))))⟩
  · rw [if_neg h, if_neg h] at f
    have E1 : RowKit.Hid (Int.tmod a b = a % b) := Lib.hid f.2
    have hd : decide (Int.tmod a b < 0) = false := decide_eq_false h
    clear f m0 m1 h
    go_enter Try.func56, Try.ntmps56
    go_wp2
    go_ret
    exact ⟨ret1 E1.out, (by repeat (first | exact Gr.refl _ | refine Gr.setCell ?_ _ _ (by first | exact Nat.le_refl _ | (simp; omega) | (simp; done)) | refine Gr.grown ?_ _ _ | refine Gr.drewN ?_ _ | refine Gr.drew ?_ | refine Gr.alloc ?_ _ | refine Gr.grow ?_ _ | (refine Gr.trans ?_ (by assumption))))⟩

theorem radd_c (a b : Int) (w : World) (a0 : -9223372036854775808 ≤ a) (a1 : a ≤ 9223372036854775807) (b0 : -9223372036854775808 ≤ b) (b1 : b ≤ 9223372036854775807)
    (p0 : -9223372036854775808 ≤ a + b) (p1 : a + b ≤ 9223372036854775807) :
    Calls Try.prog 53 #[.int .i64 a, .int .i64 b] w fun e w' => e = .returned (.tuple #[.int .i64 (a + b), .int .i64 0]) ∧ Gr w w' := by
  by_cases h : 0 < b
  · go_enter Try.func53, Try.ntmps53
    go_wp2
    go_ret2
    exact ⟨rfl, (by repeat (first | exact Gr.refl _ | refine Gr.setCell ?_ _ _ (by first | exact Nat.le_refl _ | (simp; omega) | (simp; done)) | refine Gr.grown ?_ _ _ | refine Gr.drewN ?_ _ | refine Gr.drew ?_ | refine Gr.alloc ?_ _ | refine Gr.grow ?_ _ | (refine Gr.trans ?_ (by assumption))))⟩
  · by_cases g : b < 0
    · go_enter Try.func53, Try.ntmps53
      go_wp2
      go_ret2
      exact ⟨rfl, (by repeat (first | exact Gr.refl _ | refine Gr.setCell ?_ _ _ (by first | exact Nat.le_refl _ | (simp; omega) | (simp; done)) | refine Gr.grown ?_ _ _ | refine Gr.drewN ?_ _ | refine Gr.drew ?_ | refine Gr.alloc ?_ _ | refine Gr.grow ?_ _ | (refine Gr.trans ?_ (by assumption))))⟩
    · go_enter Try.func53, Try.ntmps53
      go_wp2
      go_ret2
      exact ⟨rfl, (by repeat (first | exact Gr.refl _ | refine Gr.setCell ?_ _ _ (by first | exact Nat.le_refl _ | (simp; omega) | (simp; done)) | refine Gr.grown ?_ _ _ | refine Gr.drewN ?_ _ | refine Gr.drew ?_ | refine Gr.alloc ?_ _ | refine Gr.grow ?_ _ | (refine Gr.trans ?_ (by assumption))))⟩
theorem radd_no (a b : Int) (w : World) (a0 : -9223372036854775808 ≤ a) (a1 : a ≤ 9223372036854775807) (b0 : -9223372036854775808 ≤ b) (b1 : b ≤ 9223372036854775807)
    (p : a + b < -9223372036854775808 ∨ 9223372036854775807 < a + b) :
    Calls Try.prog 53 #[.int .i64 a, .int .i64 b] w fun e w' => e = .returned (.tuple #[.int .i64 0, .int .i64 6]) ∧ Gr w w' := by
  by_cases h : 0 < b
  · have q : 9223372036854775807 < a + b := by omega
    clear p
    go_enter Try.func53, Try.ntmps53
    go_wp2
    go_ret2
    exact ⟨rfl, (by repeat (first | exact Gr.refl _ | refine Gr.setCell ?_ _ _ (by first | exact Nat.le_refl _ | (simp; omega) | (simp; done)) | refine Gr.grown ?_ _ _ | refine Gr.drewN ?_ _ | refine Gr.drew ?_ | refine Gr.alloc ?_ _ | refine Gr.grow ?_ _ | (refine Gr.trans ?_ (by assumption))))⟩
  · have g : b < 0 := by omega
    have q : a + b < -9223372036854775808 := by omega
    clear p
    go_enter Try.func53, Try.ntmps53
    go_wp2
    go_ret2
    exact ⟨rfl, (by repeat (first | exact Gr.refl _ | refine Gr.setCell ?_ _ _ (by first | exact Nat.le_refl _ | (simp; omega) | (simp; done)) | refine Gr.grown ?_ _ _ | refine Gr.drewN ?_ _ | refine Gr.drew ?_ | refine Gr.alloc ?_ _ | refine Gr.grow ?_ _ | (refine Gr.trans ?_ (by assumption))))⟩
set_option maxHeartbeats 1000000 in
theorem rmul_c (a b : Int) (w : World) (a0 : -9223372036854775808 ≤ a) (a1 : a ≤ 9223372036854775807) (b0 : -9223372036854775808 ≤ b) (b1 : b ≤ 9223372036854775807)
    (p0 : -9223372036854775808 ≤ a * b) (p1 : a * b ≤ 9223372036854775807) :
    Calls Try.prog 52 #[.int .i64 a, .int .i64 b] w fun e w' => e = .returned (.tuple #[.int .i64 (a * b), .int .i64 0]) ∧ Gr w w' := by
  by_cases za : a = 0
  · subst za
    have e : (0 : Int) * b = 0 := Int.zero_mul b
    rw [e]
    go_enter Try.func52, Try.ntmps52
    go_wp2
    go_ret2
    exact ⟨rfl, (by repeat (first | exact Gr.refl _ | refine Gr.setCell ?_ _ _ (by first | exact Nat.le_refl _ | (simp; omega) | (simp; done)) | refine Gr.grown ?_ _ _ | refine Gr.drewN ?_ _ | refine Gr.drew ?_ | refine Gr.alloc ?_ _ | refine Gr.grow ?_ _ | (refine Gr.trans ?_ (by assumption))))⟩
  by_cases zb : b = 0
  · subst zb
    have e : a * (0 : Int) = 0 := Int.mul_zero a
    rw [e]
    have h0 : (a == 0) = false := beq_eq_false_iff_ne.2 za
    clear za
    go_enter Try.func52, Try.ntmps52
    go_wp2
    go_ret2
    exact ⟨rfl, (by repeat (first | exact Gr.refl _ | refine Gr.setCell ?_ _ _ (by first | exact Nat.le_refl _ | (simp; omega) | (simp; done)) | refine Gr.grown ?_ _ _ | refine Gr.drewN ?_ _ | refine Gr.drew ?_ | refine Gr.alloc ?_ _ | refine Gr.grow ?_ _ | (refine Gr.trans ?_ (by assumption))))⟩
  have h0 : (a == 0) = false := beq_eq_false_iff_ne.2 za
  have h1 : (b == 0) = false := beq_eq_false_iff_ne.2 zb
  have q : Int.tdiv (a * b) b = a := Int.mul_tdiv_cancel a zb
  have q2 : (wrap64 (Int.tdiv (a * b) b) != a) = false := by rw [q, w64 a0 a1]; simp
  by_cases mm : a = -1 ∧ b = -1
  · obtain ⟨rfl, rfl⟩ := mm
    go_enter Try.func52, Try.ntmps52
    go_wp2
    go_ret2
    exact ⟨rfl, (by repeat (first | exact Gr.refl _ | refine Gr.setCell ?_ _ _ (by first | exact Nat.le_refl _ | (simp; omega) | (simp; done)) | refine Gr.grown ?_ _ _ | refine Gr.drewN ?_ _ | refine Gr.drew ?_ | refine Gr.alloc ?_ _ | refine Gr.grow ?_ _ | (refine Gr.trans ?_ (by assumption))))⟩
  by_cases ma : a = -1
  · subst ma
    have h3 : (b == -1) = false := beq_eq_false_iff_ne.2 (by omega)
    clear mm
    have e : (-1 : Int) * b = -b := by omega
    rw [e] at p0 p1 q2 ⊢
    have bm : -9223372036854775808 < b := by omega
    clear e q za
    go_enter Try.func52, Try.ntmps52
    go_wp2
    all_goals go_ret2
    all_goals exact ⟨rfl, (by repeat (first | exact Gr.refl _ | refine Gr.setCell ?_ _ _ (by first | exact Nat.le_refl _ | (simp; omega) | (simp; done)) | refine Gr.grown ?_ _ _ | refine Gr.drewN ?_ _ | refine Gr.drew ?_ | refine Gr.alloc ?_ _ | refine Gr.grow ?_ _ | (refine Gr.trans ?_ (by assumption))))⟩
  · have h2 : (a == -1) = false := beq_eq_false_iff_ne.2 ma
    by_cases mb : b = -1
    · subst mb
      have e : a * (-1 : Int) = -a := by omega
      rw [e] at p0 p1 q2 ⊢
      have bm : -9223372036854775808 < a := by omega
      clear e q zb
      go_enter Try.func52, Try.ntmps52
      go_wp2
      all_goals go_ret2
      all_goals exact ⟨rfl, (by repeat (first | exact Gr.refl _ | refine Gr.setCell ?_ _ _ (by first | exact Nat.le_refl _ | (simp; omega) | (simp; done)) | refine Gr.grown ?_ _ _ | refine Gr.drewN ?_ _ | refine Gr.drew ?_ | refine Gr.alloc ?_ _ | refine Gr.grow ?_ _ | (refine Gr.trans ?_ (by assumption))))⟩
    · have h3 : (b == -1) = false := beq_eq_false_iff_ne.2 mb
      clear q za ma mb
      go_enter Try.func52, Try.ntmps52
      go_wp2
      all_goals go_ret2
      all_goals exact ⟨rfl, (by repeat (first | exact Gr.refl _ | refine Gr.setCell ?_ _ _ (by first | exact Nat.le_refl _ | (simp; omega) | (simp; done)) | refine Gr.grown ?_ _ _ | refine Gr.drewN ?_ _ | refine Gr.drew ?_ | refine Gr.alloc ?_ _ | refine Gr.grow ?_ _ | (refine Gr.trans ?_ (by assumption))))⟩

theorem mul_wrong (a b : Int) (a0 : -9223372036854775808 ≤ a) (a1 : a ≤ 9223372036854775807) (b0 : -9223372036854775808 ≤ b) (b1 : b ≤ 9223372036854775807)
    (p : a * b < -9223372036854775808 ∨ 9223372036854775807 < a * b) (hb : b ≠ 0) : Int.tdiv (wrap64 (a * b)) b ≠ a := by
  intro h
  have e := Int.tmod_add_mul_tdiv (wrap64 (a * b)) b
  rw [h, Int.mul_comm b a] at e
  have hlt : (Int.tmod (wrap64 (a * b)) b).natAbs < b.natAbs := by
    rw [Int.natAbs_tmod]
    exact Nat.mod_lt _ (by omega)
  have hw : wrap64 (a * b) = a * b ∨ wrap64 (a * b) - a * b ≤ -18446744073709551616 ∨ 18446744073709551616 ≤ wrap64 (a * b) - a * b := by unfold wrap64; omega
  have hr : -9223372036854775808 ≤ wrap64 (a * b) ∧ wrap64 (a * b) ≤ 9223372036854775807 := by unfold wrap64; omega
  omega

set_option maxHeartbeats 1000000 in
theorem rmul_no (a b : Int) (w : World) (a0 : -9223372036854775808 ≤ a) (a1 : a ≤ 9223372036854775807) (b0 : -9223372036854775808 ≤ b) (b1 : b ≤ 9223372036854775807)
    (p : a * b < -9223372036854775808 ∨ 9223372036854775807 < a * b) :
    Calls Try.prog 52 #[.int .i64 a, .int .i64 b] w fun e w' => e = .returned (.tuple #[.int .i64 0, .int .i64 6]) ∧ Gr w w' := by
  have za : a ≠ 0 := by rintro rfl; omega
  have zb : b ≠ 0 := by rintro rfl; omega
  have h0 : (a == 0) = false := beq_eq_false_iff_ne.2 za
  have h1 : (b == 0) = false := beq_eq_false_iff_ne.2 zb
  by_cases ma : a = -1
  · subst ma
    obtain rfl : b = -9223372036854775808 := by omega
    go_enter Try.func52, Try.ntmps52
    go_wp2
    go_ret2
    exact ⟨rfl, (by repeat (first | exact Gr.refl _ | refine Gr.setCell ?_ _ _ (by first | exact Nat.le_refl _ | (simp; omega) | (simp; done)) | refine Gr.grown ?_ _ _ | refine Gr.drewN ?_ _ | refine Gr.drew ?_ | refine Gr.alloc ?_ _ | refine Gr.grow ?_ _ | (refine Gr.trans ?_ (by assumption))))⟩
  · have h2 : (a == -1) = false := beq_eq_false_iff_ne.2 ma
    by_cases mb : b = -1
    · subst mb
      obtain rfl : a = -9223372036854775808 := by omega
      go_enter Try.func52, Try.ntmps52
      go_wp2
      go_ret2
      exact ⟨rfl, (by repeat (first | exact Gr.refl _ | refine Gr.setCell ?_ _ _ (by first | exact Nat.le_refl _ | (simp; omega) | (simp; done)) | refine Gr.grown ?_ _ _ | refine Gr.drewN ?_ _ | refine Gr.drew ?_ | refine Gr.alloc ?_ _ | refine Gr.grow ?_ _ | (refine Gr.trans ?_ (by assumption))))⟩
    · have h3 : (b == -1) = false := beq_eq_false_iff_ne.2 mb
      have mw := mul_wrong a b a0 a1 b0 b1 p zb
      have hn : -9223372036854775808 ≤ wrap64 (a * b) ∧ wrap64 (a * b) ≤ 9223372036854775807 := by unfold wrap64; omega
      have hr : wrap64 (Int.tdiv (wrap64 (a * b)) b) = Int.tdiv (wrap64 (a * b)) b := by
        by_cases bp : 0 < b
        · have := tdiv_range _ b bp hn.1 hn.2
          exact w64 this.1 this.2
        · have : (Int.tdiv (wrap64 (a * b)) b).natAbs = (wrap64 (a * b)).natAbs / b.natAbs := Int.natAbs_tdiv _ _
          have h5 : (wrap64 (a * b)).natAbs / b.natAbs ≤ (wrap64 (a * b)).natAbs / 2 := Nat.div_le_div_left (by omega) (by omega)
          exact w64 (by omega) (by omega)
      have q2 : (wrap64 (Int.tdiv (wrap64 (a * b)) b) != a) = true := by rw [hr, bne_iff_ne]; exact mw
      clear za ma mb mw hn hr p
      go_enter Try.func52, Try.ntmps52
      go_wp2
      all_goals go_ret2
      all_goals exact ⟨rfl, (by repeat (first | exact Gr.refl _ | refine Gr.setCell ?_ _ _ (by first | exact Nat.le_refl _ | (simp; omega) | (simp; done)) | refine Gr.grown ?_ _ _ | refine Gr.drewN ?_ _ | refine Gr.drew ?_ | refine Gr.alloc ?_ _ | refine Gr.grow ?_ _ | (refine Gr.trans ?_ (by assumption))))⟩


end Go.Proofs.Ytiadghpepnpbgaa.Walks
