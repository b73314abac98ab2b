/- Walks of package exact: what its functions answer, for whole numbers of 64 bits. -/
import Derived.Test.YtkiopgegdkeojaaGreatDoorBase
import Derived.OpenShut
import Derived.Lib.Mul64
import Derived.Laws.Bits64b
set_option linter.unusedVariables false
set_option linter.unusedSimpArgs false
namespace Go.Proofs.YtkiopgegdkeojaaGreatDoor.Walks
open Go Go.RowKit Go.Sort Go.Proofs.YtkiopgegdkeojaaGreatDoor.Base Go.Proofs.YtkiopgegdkeojaaGreatDoor.Plain

set_option maxHeartbeats 1000000 in
theorem both_c (a b : Int) (w : World) (hb : 0 < b) (h0 : -9223372036854775808 ≤ a) (h1 : a ≤ 9223372036854775807) (hb1 : b ≤ 9223372036854775807) :
    Calls Tryz.prog 114 #[.int .i64 a, .int .i64 b] w fun e w' => e = .returned (.tuple #[.int .i64 (a / b), .int .i64 (a % b)]) ∧ Gr w w' := by
  have f := floor_both a b hb
  have m0 := Int.emod_nonneg a (b := b) (by omega)
  have m1 := Int.emod_lt_of_pos a hb
  have m2 := ediv_range a b hb h0 h1
  have m3 := tdiv_range a b hb h0 h1
  have z : (b == 0) = false := beq_eq_false_iff_ne.2 (by omega)
  by_cases h : Int.tmod a b < 0
  · rw [if_pos h, if_pos h] at f
    have e1 : wrap64 (Int.tdiv a b - 1) = a / b := by rw [f.1, w64 m2.1 m2.2]
    have e2 : wrap64 (Int.tmod a b + b) = a % b := by rw [f.2, w64 (by omega) (by omega)]
    have E1 := Lib.hid e1
    have E2 := Lib.hid e2
    have hd : decide (Int.tmod a b < 0) = true := decide_eq_true h
    clear e1 e2 f m0 m1 m2 m3 h
    go_enter Tryz.func114, Tryz.ntmps114
    go_wp2
    go_quiet (fail)
    go_wp2
    go_ret2
    exact ⟨ret2 E1.out E2.out, (by repeat (first | exact Gr.refl _ | refine Gr.setCell ?_ _ _ (by first | exact Nat.le_refl _ | (simp; omega) | (simp; done)) | refine Gr.grown ?_ _ _ | refine Gr.drewN ?_ _ | refine Gr.drew ?_ | refine Gr.alloc ?_ _ | refine Gr.grow ?_ _ | (refine Gr.trans ?_ (by assumption))))⟩
  · rw [if_neg h, if_neg h] at f
    have e1 : Int.tdiv a b = a / b := f.1
    have e2 : Int.tmod a b = a % b := f.2
    have E1 := Lib.hid e1
    have E2 := Lib.hid e2
    have hd : decide (Int.tmod a b < 0) = false := decide_eq_false h
    clear e1 e2 f m0 m1 m2 m3 h
    go_enter Tryz.func114, Tryz.ntmps114
    go_wp2
    go_quiet (fail)
    go_wp2
    go_ret2
    exact ⟨ret2 E1.out E2.out, (by repeat (first | exact Gr.refl _ | refine Gr.setCell ?_ _ _ (by first | exact Nat.le_refl _ | (simp; omega) | (simp; done)) | refine Gr.grown ?_ _ _ | refine Gr.drewN ?_ _ | refine Gr.drew ?_ | refine Gr.alloc ?_ _ | refine Gr.grow ?_ _ | (refine Gr.trans ?_ (by assumption))))⟩

theorem div_c (a b : Int) (w : World) (hb : 0 < b) (h0 : -9223372036854775808 ≤ a) (h1 : a ≤ 9223372036854775807) (hb1 : b ≤ 9223372036854775807) :
    Calls Tryz.prog 109 #[.int .i64 a, .int .i64 b] w fun e w' => e = .returned (.tuple #[.int .i64 (a / b), .int .i64 0]) ∧ Gr w w' := by
  have hd : decide (b < 1) = false := decide_eq_false (by omega)
  go_enter Tryz.func109, Tryz.ntmps109
  go_wp2_with (go_at_call 114; (with_reducible refine (both_c a b _ hb h0 h1 hb1).mono ?_); rintro e w1 ⟨rfl, hg⟩)
  go_ret2
  exact ⟨rfl, (by repeat (first | exact Gr.refl _ | refine Gr.setCell ?_ _ _ (by first | exact Nat.le_refl _ | (simp; omega) | (simp; done)) | refine Gr.grown ?_ _ _ | refine Gr.drewN ?_ _ | refine Gr.drew ?_ | refine Gr.alloc ?_ _ | refine Gr.grow ?_ _ | (refine Gr.trans ?_ (by assumption))))⟩
theorem div_no (a b : Int) (w : World) (hb : b ≤ 0) :
    Calls Tryz.prog 109 #[.int .i64 a, .int .i64 b] w fun e w' => e = .returned (.tuple #[.int .i64 0, .int .i64 1]) ∧ Gr w w' := by
  have hd : decide (b < 1) = true := decide_eq_true (by omega)
  go_enter Tryz.func109, Tryz.ntmps109
  go_wp2
  go_ret2
  exact ⟨rfl, (by repeat (first | exact Gr.refl _ | refine Gr.setCell ?_ _ _ (by first | exact Nat.le_refl _ | (simp; omega) | (simp; done)) | refine Gr.grown ?_ _ _ | refine Gr.drewN ?_ _ | refine Gr.drew ?_ | refine Gr.alloc ?_ _ | refine Gr.grow ?_ _ | (refine Gr.trans ?_ (by assumption))))⟩
theorem mod_c (a b : Int) (w : World) (hb : 0 < b) (h0 : -9223372036854775808 ≤ a) (h1 : a ≤ 9223372036854775807) (hb1 : b ≤ 9223372036854775807) :
    Calls Tryz.prog 110 #[.int .i64 a, .int .i64 b] w fun e w' => e = .returned (.tuple #[.int .i64 (a % b), .int .i64 0]) ∧ Gr w w' := by
  have hd : decide (b < 1) = false := decide_eq_false (by omega)
  go_enter Tryz.func110, Tryz.ntmps110
  go_wp2_with (go_at_call 114; (with_reducible refine (both_c a b _ hb h0 h1 hb1).mono ?_); rintro e w1 ⟨rfl, hg⟩)
  go_ret2
  exact ⟨rfl, (by repeat (first | exact Gr.refl _ | refine Gr.setCell ?_ _ _ (by first | exact Nat.le_refl _ | (simp; omega) | (simp; done)) | refine Gr.grown ?_ _ _ | refine Gr.drewN ?_ _ | refine Gr.drew ?_ | refine Gr.alloc ?_ _ | refine Gr.grow ?_ _ | (refine Gr.trans ?_ (by assumption))))⟩
theorem mod_no (a b : Int) (w : World) (hb : b ≤ 0) :
    Calls Tryz.prog 110 #[.int .i64 a, .int .i64 b] w fun e w' => e = .returned (.tuple #[.int .i64 0, .int .i64 1]) ∧ Gr w w' := by
  have hd : decide (b < 1) = true := decide_eq_true (by omega)
  go_enter Tryz.func110, Tryz.ntmps110
  go_wp2
  go_ret2
  exact ⟨rfl, (by repeat (first | exact Gr.refl _ | refine Gr.setCell ?_ _ _ (by first | exact Nat.le_refl _ | (simp; omega) | (simp; done)) | refine Gr.grown ?_ _ _ | refine Gr.drewN ?_ _ | refine Gr.drew ?_ | refine Gr.alloc ?_ _ | refine Gr.grow ?_ _ | (refine Gr.trans ?_ (by assumption))))⟩

/-! ### products -/
theorem maskN (a : Nat) (ha : a < 18446744073709551616) : bits .and .u64 (a : Int) 4294967295 = ((a % 4294967296 : Nat) : Int) := by
  have h := bits_and_u64_nat a 4294967295 ha (by omega)
  have e : a &&& 4294967295 = a % 4294967296 := Nat.and_two_pow_sub_one_eq_mod a 32
  rw [e] at h
  exact h
theorem divN (a : Nat) : (a : Int) / 4294967296 = ((a / 4294967296 : Nat) : Int) := by omega
theorem mulN (a b : Nat) : (a : Int) * (b : Int) = ((a * b : Nat) : Int) := (Int.natCast_mul a b).symm
theorem addN (a b : Nat) : (a : Int) + (b : Int) = ((a + b : Nat) : Int) := (Int.natCast_add a b).symm
theorem wrapN (a : Nat) (ha : a < 18446744073709551616) : IntKind.u64.wrap (a : Int) = (a : Int) := by rw [IntKind.wrap_u64]; omega
theorem wrapM (a : Nat) : IntKind.u64.wrap (a : Int) = ((a % 18446744073709551616 : Nat) : Int) := by rw [IntKind.wrap_u64]; omega

set_option maxHeartbeats 1000000 in
theorem mul64_c (x y : Nat) (w : World) (hx : x < 18446744073709551616) (hy : y < 18446744073709551616) :
    Calls Tryz.prog 116 #[.int .u64 x, .int .u64 y] w fun e w' => e = .returned (.tuple #[.int .u64 ((x * y / 18446744073709551616 : Nat) : Int), .int .u64 ((x * y % 18446744073709551616 : Nat) : Int)]) ∧ Gr w w' := by
  obtain ⟨bd, bt, bw, hhi⟩ := Lib.mul64_hi x y hx hy
  have ba := Lib.half_mul_le (a := x / 4294967296) (b := y / 4294967296) (by omega) (by omega)
  have bb := Lib.half_mul_le (a := x / 4294967296) (b := y % 4294967296) (by omega) (by omega)
  have bc := Lib.half_mul_le (a := x % 4294967296) (b := y / 4294967296) (by omega) (by omega)
  have ba' : x / 4294967296 * (y / 4294967296) < 18446744073709551616 := by omega
  have bb' : x / 4294967296 * (y % 4294967296) < 18446744073709551616 := by omega
  have bc' : x % 4294967296 * (y / 4294967296) < 18446744073709551616 := by omega
  have bh1 : x / 4294967296 * (y / 4294967296) + (x / 4294967296 * (y % 4294967296) + x % 4294967296 * (y % 4294967296) / 4294967296) / 4294967296 < 18446744073709551616 := by omega
  have bh : x / 4294967296 * (y / 4294967296) + (x / 4294967296 * (y % 4294967296) + x % 4294967296 * (y % 4294967296) / 4294967296) / 4294967296 + ((x / 4294967296 * (y % 4294967296) + x % 4294967296 * (y % 4294967296) / 4294967296) % 4294967296 + x % 4294967296 * (y / 4294967296)) / 4294967296 < 18446744073709551616 := by omega
  go_enter Tryz.func116, Tryz.ntmps116
  go_wp2
  simp only [maskN x hx, maskN y hy, divN, mulN, addN, wrapN _ bd, wrapN _ bb', wrapN _ bt, maskN _ bt, wrapN _ bc', wrapN _ bw, wrapN _ ba', wrapN _ bh1, wrapN _ bh, wrapM (x * y)]
  rw [hhi]
  go_ret2
  exact ⟨rfl, (by repeat (first | exact Gr.refl _ | refine Gr.setCell ?_ _ _ (by first | exact Nat.le_refl _ | (simp; omega) | (simp; done)) | refine Gr.grown ?_ _ _ | refine Gr.drewN ?_ _ | refine Gr.drew ?_ | refine Gr.alloc ?_ _ | refine Gr.grow ?_ _ | (refine Gr.trans ?_ (by assumption))))⟩

theorem size_c (a : Int) (w : World) (h0 : -9223372036854775808 ≤ a) (h1 : a ≤ 9223372036854775807) :
    Calls Tryz.prog 117 #[.int .i64 a] w fun e w' => e = .returned (.int .u64 ((a.natAbs : Nat) : Int)) ∧ Gr w w' := by
  by_cases h : a < 0
  · have e : IntKind.u64.wrap (-(IntKind.u64.wrap a)) = ((a.natAbs : Nat) : Int) := by rw [IntKind.wrap_u64, IntKind.wrap_u64]; omega
    have E := Lib.hid e
    clear e
    go_enter Tryz.func117, Tryz.ntmps117
    go_wp2
    go_ret
    exact ⟨ret1 E.out, (by repeat (first | exact Gr.refl _ | refine Gr.setCell ?_ _ _ (by first | exact Nat.le_refl _ | (simp; omega) | (simp; done)) | refine Gr.grown ?_ _ _ | refine Gr.drewN ?_ _ | refine Gr.drew ?_ | refine Gr.alloc ?_ _ | refine Gr.grow ?_ _ | (refine Gr.trans ?_ (by assumption))))⟩
  · have e : a = ((a.natAbs : Nat) : Int) := by omega
    have E := Lib.hid e
    clear e
    go_enter Tryz.func117, Tryz.ntmps117
    go_wp2
    go_ret
    exact ⟨ret1 E.out, (by repeat (first | exact Gr.refl _ | refine Gr.setCell ?_ _ _ (by first | exact Nat.le_refl _ | (simp; omega) | (simp; done)) | refine Gr.grown ?_ _ _ | refine Gr.drewN ?_ _ | refine Gr.drew ?_ | refine Gr.alloc ?_ _ | refine Gr.grow ?_ _ | (refine Gr.trans ?_ (by assumption))))⟩

theorem mul64_small (x y p : Nat) (w : World) (hx : x < 18446744073709551616) (hy : y < 18446744073709551616) (hp : x * y = p) (h : p < 18446744073709551616) :
    Calls Tryz.prog 116 #[.int .u64 x, .int .u64 y] w fun e w' => e = .returned (.tuple #[.int .u64 0, .int .u64 (p : Int)]) ∧ Gr w w' := by
  refine (mul64_c x y w hx hy).mono ?_
  rintro e w1 ⟨rfl, hg⟩
  exact ⟨ret2 (by rw [hp]; omega) (by rw [hp]; omega), hg⟩
theorem mul64_big (x y : Nat) (w : World) (hx : x < 18446744073709551616) (hy : y < 18446744073709551616) (h : 18446744073709551616 ≤ x * y) :
    Calls Tryz.prog 116 #[.int .u64 x, .int .u64 y] w fun e w' => (∃ h l : Int, 0 < h ∧ e = .returned (.tuple #[.int .u64 h, .int .u64 l])) ∧ Gr w w' := by
  refine (mul64_c x y w hx hy).mono ?_
  rintro e w1 ⟨rfl, hg⟩
  exact ⟨⟨_, _, by omega, rfl⟩, hg⟩

theorem neg_low (p : Nat) (h : p ≤ 9223372036854775808) : wrap64 (IntKind.u64.wrap (-(p : Int))) = -(p : Int) := by
  rw [IntKind.wrap_u64]; unfold wrap64; omega

set_option maxHeartbeats 4000000 in
/-- A product that fits. -/
theorem mul_c (a b : Int) (w : World) (a0 : -9223372036854775808 ≤ a) (a1 : a ≤ 9223372036854775807) (b0 : -9223372036854775808 ≤ b) (b1 : b ≤ 9223372036854775807)
    (p0 : -9223372036854775808 ≤ a * b) (p1 : a * b ≤ 9223372036854775807) :
    Calls Tryz.prog 115 #[.int .i64 a, .int .i64 b] w fun e w' => e = .returned (.tuple #[.int .i64 (a * b), .int .i64 0]) ∧ Gr w w' := by
  obtain ⟨p, hp⟩ : ∃ p, a.natAbs * b.natAbs = p := ⟨_, rfl⟩
  have hq : (a * b).natAbs = p := by rw [Int.natAbs_mul, hp]
  have hx : a.natAbs < 18446744073709551616 := by omega
  have hy : b.natAbs < 18446744073709551616 := by omega
  have hp2 : p < 18446744073709551616 := by omega
  have HP := Lib.hid hp
  clear hp
  by_cases ha : a < 0 <;> by_cases hb : b < 0
  · have hs : 0 ≤ a * b := Int.mul_nonneg_of_nonpos_of_nonpos (by omega) (by omega)
    have E : RowKit.Hid ((p : Int) = a * b) := Lib.hid (by omega)
    have l1 : (p : Int) ≤ 9223372036854775807 := by omega
    clear hs hq p0 p1
    have ha2 : decide (a < 0) = true := decide_eq_true ha
    have hb2 : decide (b < 0) = true := decide_eq_true hb
    clear ha hb
    go_enter Tryz.func115, Tryz.ntmps115
    go_wp2_with (first | (go_at_call 117; (with_reducible refine (size_c a _ a0 a1).mono ?_); rintro e w1 ⟨rfl, hg⟩) | (go_at_call 117; (with_reducible refine (size_c b _ b0 b1).mono ?_); rintro e w1 ⟨rfl, hg⟩) | (go_at_call 116; (with_reducible refine (mul64_small _ _ p _ hx hy HP.out hp2).mono ?_); rintro e w1 ⟨rfl, hg⟩))
    go_ret2
    exact ⟨ret2 E.out rfl, (by repeat (first | exact Gr.refl _ | refine Gr.setCell ?_ _ _ (by first | exact Nat.le_refl _ | (simp; omega) | (simp; done)) | refine Gr.grown ?_ _ _ | refine Gr.drewN ?_ _ | refine Gr.drew ?_ | refine Gr.alloc ?_ _ | refine Gr.grow ?_ _ | (refine Gr.trans ?_ (by assumption))))⟩
  · have hs : a * b ≤ 0 := Int.mul_nonpos_of_nonpos_of_nonneg (by omega) (by omega)
    have E : RowKit.Hid (wrap64 (IntKind.u64.wrap (-(p : Int))) = a * b) := Lib.hid (by rw [neg_low p (by omega)]; omega)
    have l1 : (p : Int) ≤ 9223372036854775808 := by omega
    clear hs hq p0 p1
    have ha2 : decide (a < 0) = true := decide_eq_true ha
    have hb2 : decide (b < 0) = false := decide_eq_false hb
    clear ha hb
    go_enter Tryz.func115, Tryz.ntmps115
    go_wp2_with (first | (go_at_call 117; (with_reducible refine (size_c a _ a0 a1).mono ?_); rintro e w1 ⟨rfl, hg⟩) | (go_at_call 117; (with_reducible refine (size_c b _ b0 b1).mono ?_); rintro e w1 ⟨rfl, hg⟩) | (go_at_call 116; (with_reducible refine (mul64_small _ _ p _ hx hy HP.out hp2).mono ?_); rintro e w1 ⟨rfl, hg⟩))
    go_ret2
    exact ⟨ret2 E.out rfl, (by repeat (first | exact Gr.refl _ | refine Gr.setCell ?_ _ _ (by first | exact Nat.le_refl _ | (simp; omega) | (simp; done)) | refine Gr.grown ?_ _ _ | refine Gr.drewN ?_ _ | refine Gr.drew ?_ | refine Gr.alloc ?_ _ | refine Gr.grow ?_ _ | (refine Gr.trans ?_ (by assumption))))⟩
  · have hs : a * b ≤ 0 := Int.mul_nonpos_of_nonneg_of_nonpos (by omega) (by omega)
    have E : RowKit.Hid (wrap64 (IntKind.u64.wrap (-(p : Int))) = a * b) := Lib.hid (by rw [neg_low p (by omega)]; omega)
    have l1 : (p : Int) ≤ 9223372036854775808 := by omega
    clear hs hq p0 p1
    have ha2 : decide (a < 0) = false := decide_eq_false ha
    have hb2 : decide (b < 0) = true := decide_eq_true hb
    clear ha hb
    go_enter Tryz.func115, Tryz.ntmps115
    go_wp2_with (first | (go_at_call 117; (with_reducible refine (size_c a _ a0 a1).mono ?_); rintro e w1 ⟨rfl, hg⟩) | (go_at_call 117; (with_reducible refine (size_c b _ b0 b1).mono ?_); rintro e w1 ⟨rfl, hg⟩) | (go_at_call 116; (with_reducible refine (mul64_small _ _ p _ hx hy HP.out hp2).mono ?_); rintro e w1 ⟨rfl, hg⟩))
    go_ret2
    exact ⟨ret2 E.out rfl, (by repeat (first | exact Gr.refl _ | refine Gr.setCell ?_ _ _ (by first | exact Nat.le_refl _ | (simp; omega) | (simp; done)) | refine Gr.grown ?_ _ _ | refine Gr.drewN ?_ _ | refine Gr.drew ?_ | refine Gr.alloc ?_ _ | refine Gr.grow ?_ _ | (refine Gr.trans ?_ (by assumption))))⟩
  · have hs : 0 ≤ a * b := Int.mul_nonneg (by omega) (by omega)
    have E : RowKit.Hid ((p : Int) = a * b) := Lib.hid (by omega)
    have l1 : (p : Int) ≤ 9223372036854775807 := by omega
    clear hs hq p0 p1
    have ha2 : decide (a < 0) = false := decide_eq_false ha
    have hb2 : decide (b < 0) = false := decide_eq_false hb
    clear ha hb
    go_enter Tryz.func115, Tryz.ntmps115
    go_wp2_with (first | (go_at_call 117; (with_reducible refine (size_c a _ a0 a1).mono ?_); rintro e w1 ⟨rfl, hg⟩) | (go_at_call 117; (with_reducible refine (size_c b _ b0 b1).mono ?_); rintro e w1 ⟨rfl, hg⟩) | (go_at_call 116; (with_reducible refine (mul64_small _ _ p _ hx hy HP.out hp2).mono ?_); rintro e w1 ⟨rfl, hg⟩))
    go_ret2
    exact ⟨ret2 E.out rfl, (by repeat (first | exact Gr.refl _ | refine Gr.setCell ?_ _ _ (by first | exact Nat.le_refl _ | (simp; omega) | (simp; done)) | refine Gr.grown ?_ _ _ | refine Gr.drewN ?_ _ | refine Gr.drew ?_ | refine Gr.alloc ?_ _ | refine Gr.grow ?_ _ | (refine Gr.trans ?_ (by assumption))))⟩

end Go.Proofs.YtkiopgegdkeojaaGreatDoor.Walks
