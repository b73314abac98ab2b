/- Walks of package exact: sums, and products that don't fit. -/
import Derived.Test.YtiadghpepnpbgaaExact
set_option linter.unusedVariables false
set_option linter.unusedSimpArgs false
namespace Go.Proofs.Ytiadghpepnpbgaa.Walks
open Go Go.RowKit Go.Sort Go.Proofs.Ytiadghpepnpbgaa.Base Go.Proofs.Ytiadghpepnpbgaa.Plain

theorem wrap_toInt (x : BitVec 64) : IntKind.i64.wrap (x.toNat : Int) = x.toInt := by
  have := x.isLt
  rw [IntKind.wrap_i64]
  try unfold wrap64
  rw [BitVec.toInt_eq_toNat_cond]
  split <;> omega
theorem toInt_neg (x : BitVec 64) : (x.toInt < 0) ↔ x.msb = true := by
  rw [BitVec.msb_eq_toInt]; simp
theorem msb_of (a : Int) (h0 : -9223372036854775808 ≤ a) (h1 : a ≤ 9223372036854775807) : (BitVec.ofInt 64 a).msb = decide (a < 0) := by
  rw [BitVec.msb_eq_toInt, BitVec.toInt_ofInt]
  congr 1
  simp [Int.bmod]
  omega
theorem of_bits_xor (a b : Int) : bits .xor .i64 a b = (BitVec.ofInt 64 a ^^^ BitVec.ofInt 64 b).toInt := wrap_toInt _
theorem of_bits_and (a b : Int) : bits .and .i64 a b = (BitVec.ofInt 64 a &&& BitVec.ofInt 64 b).toInt := wrap_toInt _

theorem over_sign (a b n : Int) (a0 : -9223372036854775808 ≤ a) (a1 : a ≤ 9223372036854775807) (b0 : -9223372036854775808 ≤ b) (b1 : b ≤ 9223372036854775807) (n0 : -9223372036854775808 ≤ n) (n1 : n ≤ 9223372036854775807) :
    decide (bits .and .i64 (bits .xor .i64 a n) (bits .xor .i64 b n) < 0) = ((decide (a < 0) != decide (n < 0)) && (decide (b < 0) != decide (n < 0))) := by
  rw [of_bits_xor, of_bits_xor, of_bits_and, BitVec.ofInt_toInt, BitVec.ofInt_toInt]
  have h := toInt_neg ((BitVec.ofInt 64 a ^^^ BitVec.ofInt 64 n) &&& (BitVec.ofInt 64 b ^^^ BitVec.ofInt 64 n))
  rw [BitVec.msb_and, BitVec.msb_xor, BitVec.msb_xor, msb_of a a0 a1, msb_of b b0 b1, msb_of n n0 n1] at h
  rw [Bool.eq_iff_iff, decide_eq_true_iff, h]

theorem add_c (a b : Int) (w : World) (a0 : -9223372036854775808 ≤ a) (a1 : a ≤ 9223372036854775807) (b0 : -9223372036854775808 ≤ b) (b1 : b ≤ 9223372036854775807)
    (p0 : -9223372036854775808 ≤ a + b) (p1 : a + b ≤ 9223372036854775807) :
    Calls Try.prog 67 #[.int .i64 a, .int .i64 b] w fun e w' => e = .returned (.tuple #[.int .i64 (a + b), .int .i64 0]) ∧ Gr w w' := by
  have h := over_sign a b (a + b) a0 a1 b0 b1 p0 p1
  have hd : decide (bits .and .i64 (bits .xor .i64 a (a + b)) (bits .xor .i64 b (a + b)) < 0) = false := by
    rw [h]
    by_cases ha : a < 0 <;> by_cases hb : b < 0 <;> by_cases hn : a + b < 0 <;> simp [ha, hb, hn] <;> omega
  clear h
  go_enter Try.func67, Try.ntmps67
  go_wp2
  go_ret2
  exact ⟨rfl, (by repeat (first | exact Gr.refl _ | refine Gr.setCell ?_ _ _ (by first | exact Nat.le_refl _ | (simp; omega) | (simp; done)) | refine Gr.grown ?_ _ _ | refine Gr.drewN ?_ _ | refine Gr.drew ?_ | refine Gr.alloc ?_ _ | refine Gr.grow ?_ _ | (refine Gr.trans ?_ (by assumption))))⟩

theorem add_no (a b : Int) (w : World) (a0 : -9223372036854775808 ≤ a) (a1 : a ≤ 9223372036854775807) (b0 : -9223372036854775808 ≤ b) (b1 : b ≤ 9223372036854775807)
    (p : a + b < -9223372036854775808 ∨ 9223372036854775807 < a + b) :
    Calls Try.prog 67 #[.int .i64 a, .int .i64 b] w fun e w' => e = .returned (.tuple #[.int .i64 0, .int .i64 6]) ∧ Gr w w' := by
  have n0 : -9223372036854775808 ≤ wrap64 (a + b) ∧ wrap64 (a + b) ≤ 9223372036854775807 := by unfold wrap64; omega
  have h := over_sign a b (wrap64 (a + b)) a0 a1 b0 b1 n0.1 n0.2
  have hd : decide (bits .and .i64 (bits .xor .i64 a (wrap64 (a + b))) (bits .xor .i64 b (wrap64 (a + b))) < 0) = true := by
    rw [h]
    have hw : (a < 0 ∧ b < 0 ∧ ¬ wrap64 (a + b) < 0) ∨ (¬ a < 0 ∧ ¬ b < 0 ∧ wrap64 (a + b) < 0) := by unfold wrap64; omega
    rcases hw with ⟨x, y, z⟩ | ⟨x, y, z⟩ <;> simp [x, y, z]
  clear h n0 p
  go_enter Try.func67, Try.ntmps67
  go_wp2
  go_ret2
  exact ⟨rfl, (by repeat (first | exact Gr.refl _ | refine Gr.setCell ?_ _ _ (by first | exact Nat.le_refl _ | (simp; omega) | (simp; done)) | refine Gr.grown ?_ _ _ | refine Gr.drewN ?_ _ | refine Gr.drew ?_ | refine Gr.alloc ?_ _ | refine Gr.grow ?_ _ | (refine Gr.trans ?_ (by assumption))))⟩

set_option maxHeartbeats 4000000 in
/-- A product that goes over. -/
theorem mul_no (a b : Int) (w : World) (a0 : -9223372036854775808 ≤ a) (a1 : a ≤ 9223372036854775807) (b0 : -9223372036854775808 ≤ b) (b1 : b ≤ 9223372036854775807)
    (p : a * b < -9223372036854775808 ∨ 9223372036854775807 < a * b) :
    Calls Try.prog 54 #[.int .i64 a, .int .i64 b] w fun e w' => e = .returned (.tuple #[.int .i64 0, .int .i64 6]) ∧ Gr w w' := by
  have hx : a.natAbs < 18446744073709551616 := by omega
  have hy : b.natAbs < 18446744073709551616 := by omega
  by_cases hbig : 18446744073709551616 ≤ a.natAbs * b.natAbs
  · have HB := Lib.hid hbig
    clear hbig p
    by_cases ha : a < 0 <;> by_cases hb : b < 0
    · have ha2 : decide (a < 0) = true := decide_eq_true ha
      have hb2 : decide (b < 0) = true := decide_eq_true hb
      clear ha hb
      go_enter Try.func54, Try.ntmps54
      go_wp2_with (first | (go_at_call 70; (with_reducible refine (size_c a _ a0 a1).mono ?_); rintro e w1 ⟨rfl, hg⟩) | (go_at_call 70; (with_reducible refine (size_c b _ b0 b1).mono ?_); rintro e w1 ⟨rfl, hg⟩) | (go_at_call 69; (with_reducible refine (mul64_big _ _ _ hx hy HB.out).mono ?_); rintro e w1 ⟨⟨hi, lo, hpos, rfl⟩, hg⟩))
      go_ret2
      exact ⟨rfl, (by repeat (first | exact Gr.refl _ | refine Gr.setCell ?_ _ _ (by first | exact Nat.le_refl _ | (simp; omega) | (simp; done)) | refine Gr.grown ?_ _ _ | refine Gr.drewN ?_ _ | refine Gr.drew ?_ | refine Gr.alloc ?_ _ | refine Gr.grow ?_ _ | (refine Gr.trans ?_ (by assumption))))⟩
    · have ha2 : decide (a < 0) = true := decide_eq_true ha
      have hb2 : decide (b < 0) = false := decide_eq_false hb
      clear ha hb
      go_enter Try.func54, Try.ntmps54
      go_wp2_with (first | (go_at_call 70; (with_reducible refine (size_c a _ a0 a1).mono ?_); rintro e w1 ⟨rfl, hg⟩) | (go_at_call 70; (with_reducible refine (size_c b _ b0 b1).mono ?_); rintro e w1 ⟨rfl, hg⟩) | (go_at_call 69; (with_reducible refine (mul64_big _ _ _ hx hy HB.out).mono ?_); rintro e w1 ⟨⟨hi, lo, hpos, rfl⟩, hg⟩))
      go_ret2
      exact ⟨rfl, (by repeat (first | exact Gr.refl _ | refine Gr.setCell ?_ _ _ (by first | exact Nat.le_refl _ | (simp; omega) | (simp; done)) | refine Gr.grown ?_ _ _ | refine Gr.drewN ?_ _ | refine Gr.drew ?_ | refine Gr.alloc ?_ _ | refine Gr.grow ?_ _ | (refine Gr.trans ?_ (by assumption))))⟩
    · have ha2 : decide (a < 0) = false := decide_eq_false ha
      have hb2 : decide (b < 0) = true := decide_eq_true hb
      clear ha hb
      go_enter Try.func54, Try.ntmps54
      go_wp2_with (first | (go_at_call 70; (with_reducible refine (size_c a _ a0 a1).mono ?_); rintro e w1 ⟨rfl, hg⟩) | (go_at_call 70; (with_reducible refine (size_c b _ b0 b1).mono ?_); rintro e w1 ⟨rfl, hg⟩) | (go_at_call 69; (with_reducible refine (mul64_big _ _ _ hx hy HB.out).mono ?_); rintro e w1 ⟨⟨hi, lo, hpos, rfl⟩, hg⟩))
      go_ret2
      exact ⟨rfl, (by repeat (first | exact Gr.refl _ | refine Gr.setCell ?_ _ _ (by first | exact Nat.le_refl _ | (simp; omega) | (simp; done)) | refine Gr.grown ?_ _ _ | refine Gr.drewN ?_ _ | refine Gr.drew ?_ | refine Gr.alloc ?_ _ | refine Gr.grow ?_ _ | (refine Gr.trans ?_ (by assumption))))⟩
    · have ha2 : decide (a < 0) = false := decide_eq_false ha
      have hb2 : decide (b < 0) = false := decide_eq_false hb
      clear ha hb
      go_enter Try.func54, Try.ntmps54
      go_wp2_with (first | (go_at_call 70; (with_reducible refine (size_c a _ a0 a1).mono ?_); rintro e w1 ⟨rfl, hg⟩) | (go_at_call 70; (with_reducible refine (size_c b _ b0 b1).mono ?_); rintro e w1 ⟨rfl, hg⟩) | (go_at_call 69; (with_reducible refine (mul64_big _ _ _ hx hy HB.out).mono ?_); rintro e w1 ⟨⟨hi, lo, hpos, rfl⟩, hg⟩))
      go_ret2
      exact ⟨rfl, (by repeat (first | exact Gr.refl _ | refine Gr.setCell ?_ _ _ (by first | exact Nat.le_refl _ | (simp; omega) | (simp; done)) | refine Gr.grown ?_ _ _ | refine Gr.drewN ?_ _ | refine Gr.drew ?_ | refine Gr.alloc ?_ _ | refine Gr.grow ?_ _ | (refine Gr.trans ?_ (by assumption))))⟩
  · obtain ⟨q, hq⟩ : ∃ q, a.natAbs * b.natAbs = q := ⟨_, rfl⟩
    have hn : (a * b).natAbs = q := by rw [Int.natAbs_mul, hq]
    have hq2 : q < 18446744073709551616 := by omega
    have HP := Lib.hid hq
    clear hq hbig
    by_cases ha : a < 0 <;> by_cases hb : b < 0
    · have hs : 0 ≤ a * b := Int.mul_nonneg_of_nonpos_of_nonpos (by omega) (by omega)
      have hd : 9223372036854775807 < (q : Int) := by omega
      have ha2 : decide (a < 0) = true := decide_eq_true ha
      have hb2 : decide (b < 0) = true := decide_eq_true hb
      clear ha hb hs hn p
      go_enter Try.func54, Try.ntmps54
      go_wp2_with (first | (go_at_call 70; (with_reducible refine (size_c a _ a0 a1).mono ?_); rintro e w1 ⟨rfl, hg⟩) | (go_at_call 70; (with_reducible refine (size_c b _ b0 b1).mono ?_); rintro e w1 ⟨rfl, hg⟩) | (go_at_call 69; (with_reducible refine (mul64_small _ _ q _ hx hy HP.out hq2).mono ?_); rintro e w1 ⟨rfl, hg⟩))
      go_ret2
      exact ⟨rfl, (by repeat (first | exact Gr.refl _ | refine Gr.setCell ?_ _ _ (by first | exact Nat.le_refl _ | (simp; omega) | (simp; done)) | refine Gr.grown ?_ _ _ | refine Gr.drewN ?_ _ | refine Gr.drew ?_ | refine Gr.alloc ?_ _ | refine Gr.grow ?_ _ | (refine Gr.trans ?_ (by assumption))))⟩
    · have hs : a * b ≤ 0 := Int.mul_nonpos_of_nonpos_of_nonneg (by omega) (by omega)
      have hd : 9223372036854775808 < (q : Int) := by omega
      have ha2 : decide (a < 0) = true := decide_eq_true ha
      have hb2 : decide (b < 0) = false := decide_eq_false hb
      clear ha hb hs hn p
      go_enter Try.func54, Try.ntmps54
      go_wp2_with (first | (go_at_call 70; (with_reducible refine (size_c a _ a0 a1).mono ?_); rintro e w1 ⟨rfl, hg⟩) | (go_at_call 70; (with_reducible refine (size_c b _ b0 b1).mono ?_); rintro e w1 ⟨rfl, hg⟩) | (go_at_call 69; (with_reducible refine (mul64_small _ _ q _ hx hy HP.out hq2).mono ?_); rintro e w1 ⟨rfl, hg⟩))
      go_ret2
      exact ⟨rfl, (by repeat (first | exact Gr.refl _ | refine Gr.setCell ?_ _ _ (by first | exact Nat.le_refl _ | (simp; omega) | (simp; done)) | refine Gr.grown ?_ _ _ | refine Gr.drewN ?_ _ | refine Gr.drew ?_ | refine Gr.alloc ?_ _ | refine Gr.grow ?_ _ | (refine Gr.trans ?_ (by assumption))))⟩
    · have hs : a * b ≤ 0 := Int.mul_nonpos_of_nonneg_of_nonpos (by omega) (by omega)
      have hd : 9223372036854775808 < (q : Int) := by omega
      have ha2 : decide (a < 0) = false := decide_eq_false ha
      have hb2 : decide (b < 0) = true := decide_eq_true hb
      clear ha hb hs hn p
      go_enter Try.func54, Try.ntmps54
      go_wp2_with (first | (go_at_call 70; (with_reducible refine (size_c a _ a0 a1).mono ?_); rintro e w1 ⟨rfl, hg⟩) | (go_at_call 70; (with_reducible refine (size_c b _ b0 b1).mono ?_); rintro e w1 ⟨rfl, hg⟩) | (go_at_call 69; (with_reducible refine (mul64_small _ _ q _ hx hy HP.out hq2).mono ?_); rintro e w1 ⟨rfl, hg⟩))
      go_ret2
      exact ⟨rfl, (by repeat (first | exact Gr.refl _ | refine Gr.setCell ?_ _ _ (by first | exact Nat.le_refl _ | (simp; omega) | (simp; done)) | refine Gr.grown ?_ _ _ | refine Gr.drewN ?_ _ | refine Gr.drew ?_ | refine Gr.alloc ?_ _ | refine Gr.grow ?_ _ | (refine Gr.trans ?_ (by assumption))))⟩
    · have hs : 0 ≤ a * b := Int.mul_nonneg (by omega) (by omega)
      have hd : 9223372036854775807 < (q : Int) := by omega
      have ha2 : decide (a < 0) = false := decide_eq_false ha
      have hb2 : decide (b < 0) = false := decide_eq_false hb
      clear ha hb hs hn p
      go_enter Try.func54, Try.ntmps54
      go_wp2_with (first | (go_at_call 70; (with_reducible refine (size_c a _ a0 a1).mono ?_); rintro e w1 ⟨rfl, hg⟩) | (go_at_call 70; (with_reducible refine (size_c b _ b0 b1).mono ?_); rintro e w1 ⟨rfl, hg⟩) | (go_at_call 69; (with_reducible refine (mul64_small _ _ q _ hx hy HP.out hq2).mono ?_); rintro e w1 ⟨rfl, hg⟩))
      go_ret2
      exact ⟨rfl, (by repeat (first | exact Gr.refl _ | refine Gr.setCell ?_ _ _ (by first | exact Nat.le_refl _ | (simp; omega) | (simp; done)) | refine Gr.grown ?_ _ _ | refine Gr.drewN ?_ _ | refine Gr.drew ?_ | refine Gr.alloc ?_ _ | refine Gr.grow ?_ _ | (refine Gr.trans ?_ (by assumption))))⟩

end Go.Proofs.Ytiadghpepnpbgaa.Walks
