/- Walks of almanackerref08: how many months, a month's days, the days ahead of it, the month of a day. -/
import Derived.Test.YtkiopgegdkeojaaGreatDoorRef08
set_option linter.unusedVariables false
set_option linter.unusedSimpArgs false
namespace Go.Proofs.YtkiopgegdkeojaaGreatDoor.Walks
open Go Go.RowKit Go.Sort Go.Proofs.YtkiopgegdkeojaaGreatDoor.Base Go.Proofs.YtkiopgegdkeojaaGreatDoor.Plain Go.Proofs.YtkiopgegdkeojaaGreatDoor.Math

set_option maxHeartbeats 1000000 in
theorem rcount_c (b kd : Int) (l : Bool) (w : World) : Calls Tryz.prog 85 #[.agg #[.int .i64 b, .int .i64 kd, .bool l]] w fun e w' => e = .returned (.int .i64 (mN b kd l : Int)) ∧ Gr w w' := by
  obtain ⟨K, hK⟩ : ∃ K, knum b kd l = K := ⟨_, rfl⟩
  have C1 : RowKit.Hid (∀ w, Calls Tryz.prog 93 #[.agg #[.int .i64 b, .int .i64 kd, .bool l]] w fun e w' => e = .returned (.int .i64 K) ∧ Gr w w') := Lib.hid fun w => by rw [← hK]; exact rnumber7_c b kd l w
  have C2 := Lib.hid (lens_c b kd l)
  have r := knum_range b kd l
  by_cases h : 0 < K
  · have kz : (K == 0) = false := beq_eq_false_iff_ne.2 (by omega)
    have E : RowKit.Hid ((mct l : Int) = (mN b kd l : Int)) := Lib.hid (by rw [mN_in (by omega)])
    clear hK r h
    go_enter Tryz.func85, Tryz.ntmps85
    go_wp2_with (first | (go_at_call 93; (with_reducible refine (C1.out _).mono ?_); rintro e wA ⟨rfl, hgwA⟩; obtain ⟨hclwA, hfzwA, hszwA⟩ := gcell hgwA; (try simp [Nat.add_one_le_iff] at hszwA); have hlwA_w : w.heap.size < wA.heap.size := (by omega)) | (go_at_call 68; (with_reducible refine (C2.out _).mono ?_); rintro e wB ⟨g, cap, rfl, RB, hgB⟩))
    go_ret
    exact ⟨ret1 E.out, (by repeat (first | exact Gr.refl _ | refine Gr.setCell ?_ _ _ (by first | exact Nat.le_refl _ | (simp; omega) | (simp; done)) | refine Gr.grown ?_ _ _ | refine Gr.drewN ?_ _ | refine Gr.drew ?_ | refine Gr.alloc ?_ _ | refine Gr.grow ?_ _ | (refine Gr.trans ?_ (by assumption))))⟩
  · obtain rfl : K = 0 := by omega
    have E : RowKit.Hid ((0 : Int) = (mN b kd l : Int)) := Lib.hid (by rw [mN_out hK]; rfl)
    clear hK r h
    go_enter Tryz.func85, Tryz.ntmps85
    go_wp2_with (first | (go_at_call 93; (with_reducible refine (C1.out _).mono ?_); rintro e wA ⟨rfl, hgwA⟩; obtain ⟨hclwA, hfzwA, hszwA⟩ := gcell hgwA; (try simp [Nat.add_one_le_iff] at hszwA); have hlwA_w : w.heap.size < wA.heap.size := (by omega)))
    go_ret
    exact ⟨ret1 E.out, (by repeat (first | exact Gr.refl _ | refine Gr.setCell ?_ _ _ (by first | exact Nat.le_refl _ | (simp; omega) | (simp; done)) | refine Gr.grown ?_ _ _ | refine Gr.drewN ?_ _ | refine Gr.drew ?_ | refine Gr.alloc ?_ _ | refine Gr.grow ?_ _ | (refine Gr.trans ?_ (by assumption))))⟩
set_option maxHeartbeats 1000000 in
theorem ris8_c (b kd : Int) (l : Bool) (m : Int) (w : World) : Calls Tryz.prog 67 #[.agg #[.int .i64 b, .int .i64 kd, .bool l], .int .i64 m] w fun e w' => e = .returned (.bool (decide (0 < m ∧ m ≤ (mN b kd l : Int)))) ∧ Gr w w' := by
  obtain ⟨B, hB⟩ : ∃ B, decide (0 < m ∧ m ≤ (mN b kd l : Int)) = B := ⟨_, rfl⟩
  rw [hB]
  obtain ⟨K, hK⟩ : ∃ K, knum b kd l = K := ⟨_, rfl⟩
  have C1 : RowKit.Hid (∀ w, Calls Tryz.prog 93 #[.agg #[.int .i64 b, .int .i64 kd, .bool l]] w fun e w' => e = .returned (.int .i64 K) ∧ Gr w w') := Lib.hid fun w => by rw [← hK]; exact rnumber7_c b kd l w
  have C2 := Lib.hid (lens_c b kd l)
  have r := knum_range b kd l
  by_cases h : 0 < K
  · by_cases g : 1 ≤ m
    · have E : RowKit.Hid (decide (m ≤ (mct l : Int)) = B) := Lib.hid (by rw [← hB, mN_in (by omega)]; exact decide_eq_decide.2 (by omega))
      clear hK r hB
      go_enter Tryz.func67, Tryz.ntmps67
      go_wp2_with (first | (go_at_call 93; (with_reducible refine (C1.out _).mono ?_); rintro e wA ⟨rfl, hgwA⟩; obtain ⟨hclwA, hfzwA, hszwA⟩ := gcell hgwA; (try simp [Nat.add_one_le_iff] at hszwA); have hlwA_w : w.heap.size < wA.heap.size := (by omega)) | (go_at_call 68; (with_reducible refine (C2.out _).mono ?_); rintro e wB ⟨g, cap, rfl, RB, hgB⟩))
      go_ret
      exact ⟨retb E.out, (by repeat (first | exact Gr.refl _ | refine Gr.setCell ?_ _ _ (by first | exact Nat.le_refl _ | (simp; omega) | (simp; done)) | refine Gr.grown ?_ _ _ | refine Gr.drewN ?_ _ | refine Gr.drew ?_ | refine Gr.alloc ?_ _ | refine Gr.grow ?_ _ | (refine Gr.trans ?_ (by assumption))))⟩
    · have E : RowKit.Hid (false = B) := Lib.hid (by rw [← hB]; exact (decide_eq_false (by omega)).symm)
      have g2 : m < 1 := by omega
      clear hK r hB g
      go_enter Tryz.func67, Tryz.ntmps67
      go_wp2_with (first | (go_at_call 93; (with_reducible refine (C1.out _).mono ?_); rintro e wA ⟨rfl, hgwA⟩; obtain ⟨hclwA, hfzwA, hszwA⟩ := gcell hgwA; (try simp [Nat.add_one_le_iff] at hszwA); have hlwA_w : w.heap.size < wA.heap.size := (by omega)))
      go_ret
      exact ⟨retb E.out, (by repeat (first | exact Gr.refl _ | refine Gr.setCell ?_ _ _ (by first | exact Nat.le_refl _ | (simp; omega) | (simp; done)) | refine Gr.grown ?_ _ _ | refine Gr.drewN ?_ _ | refine Gr.drew ?_ | refine Gr.alloc ?_ _ | refine Gr.grow ?_ _ | (refine Gr.trans ?_ (by assumption))))⟩
  · have E : RowKit.Hid (false = B) := Lib.hid (by rw [← hB, mN_out (by omega)]; exact (decide_eq_false (by omega)).symm)
    have h2 : K ≤ 0 := by omega
    clear hK r hB h
    go_enter Tryz.func67, Tryz.ntmps67
    go_wp2_with (first | (go_at_call 93; (with_reducible refine (C1.out _).mono ?_); rintro e wA ⟨rfl, hgwA⟩; obtain ⟨hclwA, hfzwA, hszwA⟩ := gcell hgwA; (try simp [Nat.add_one_le_iff] at hszwA); have hlwA_w : w.heap.size < wA.heap.size := (by omega)))
    go_ret
    exact ⟨retb E.out, (by repeat (first | exact Gr.refl _ | refine Gr.setCell ?_ _ _ (by first | exact Nat.le_refl _ | (simp; omega) | (simp; done)) | refine Gr.grown ?_ _ _ | refine Gr.drewN ?_ _ | refine Gr.drew ?_ | refine Gr.alloc ?_ _ | refine Gr.grow ?_ _ | (refine Gr.trans ?_ (by assumption))))⟩

theorem mN_mct {b kd : Int} {l : Bool} {j : Nat} (h : j < mN b kd l) : j < mct l := by unfold mN at h; split at h <;> omega
set_option maxHeartbeats 1000000 in
theorem rdays_in (b kd : Int) (l : Bool) (j : Nat) (w : World) (hj : j < mN b kd l) : Calls Tryz.prog 81 #[.agg #[.int .i64 b, .int .i64 kd, .bool l], .int .i64 ((j : Int) + 1)] w fun e w' => e = .returned (.int .i64 (mlen kd l j)) ∧ Gr w w' := by
  have C1 : RowKit.Hid (∀ w, Calls Tryz.prog 67 #[.agg #[.int .i64 b, .int .i64 kd, .bool l], .int .i64 ((j : Int) + 1)] w fun e w' => e = .returned (.bool true) ∧ Gr w w') := Lib.hid fun w => by
    have := ris8_c b kd l ((j : Int) + 1) w; rwa [decide_eq_true (by omega)] at this
  have C2 := Lib.hid (lens_c b kd l)
  have j1 : j < mct l := mN_mct hj
  have j2 : (j : Int) < mct l := by omega
  have j3 : (j : Int) ≤ 13 := by have := mct_le l; omega
  clear hj
  go_enter Tryz.func81, Tryz.ntmps81
  go_wp2_with (first | (go_at_call 67; (with_reducible refine (C1.out _).mono ?_); rintro e wA ⟨rfl, hgwA⟩; obtain ⟨hclwA, hfzwA, hszwA⟩ := gcell hgwA; (try simp [Nat.add_one_le_iff] at hszwA); have hlwA_w : w.heap.size < wA.heap.size := (by omega)) | (go_at_call 68; (with_reducible refine (C2.out _).mono ?_); rintro e wB ⟨g, cap, rfl, RB, hgB⟩; have cj := RB.c j (by omega); clear RB))
  go_ret
  exact ⟨rfl, (by repeat (first | exact Gr.refl _ | refine Gr.setCell ?_ _ _ (by first | exact Nat.le_refl _ | (simp; omega) | (simp; done)) | refine Gr.grown ?_ _ _ | refine Gr.drewN ?_ _ | refine Gr.drew ?_ | refine Gr.alloc ?_ _ | refine Gr.grow ?_ _ | (refine Gr.trans ?_ (by assumption))))⟩
theorem rdays_out (b kd : Int) (l : Bool) (m : Int) (w : World) (hm : m < 1 ∨ mN b kd l < m) : Calls Tryz.prog 81 #[.agg #[.int .i64 b, .int .i64 kd, .bool l], .int .i64 m] w fun e w' => e = .returned (.int .i64 0) ∧ Gr w w' := by
  have C1 : RowKit.Hid (∀ w, Calls Tryz.prog 67 #[.agg #[.int .i64 b, .int .i64 kd, .bool l], .int .i64 m] w fun e w' => e = .returned (.bool false) ∧ Gr w w') := Lib.hid fun w => by
    have := ris8_c b kd l m w; rwa [decide_eq_false (by omega)] at this
  clear hm
  go_enter Tryz.func81, Tryz.ntmps81
  go_wp2_with (first | (go_at_call 67; (with_reducible refine (C1.out _).mono ?_); rintro e wA ⟨rfl, hgwA⟩; obtain ⟨hclwA, hfzwA, hszwA⟩ := gcell hgwA; (try simp [Nat.add_one_le_iff] at hszwA); have hlwA_w : w.heap.size < wA.heap.size := (by omega)))
  go_ret
  exact ⟨rfl, (by repeat (first | exact Gr.refl _ | refine Gr.setCell ?_ _ _ (by first | exact Nat.le_refl _ | (simp; omega) | (simp; done)) | refine Gr.grown ?_ _ _ | refine Gr.drewN ?_ _ | refine Gr.drew ?_ | refine Gr.alloc ?_ _ | refine Gr.grow ?_ _ | (refine Gr.trans ?_ (by assumption))))⟩

set_option maxHeartbeats 2000000 in
theorem rahead_in (b kd : Int) (l : Bool) (j : Nat) (w : World) (hj : j < mN b kd l) : Calls Tryz.prog 39 #[.agg #[.int .i64 b, .int .i64 kd, .bool l], .int .i64 ((j : Int) + 1)] w fun e w' => e = .returned (.int .i64 (mah kd l j)) ∧ Gr w w' := by
  have C1 : RowKit.Hid (∀ w, Calls Tryz.prog 67 #[.agg #[.int .i64 b, .int .i64 kd, .bool l], .int .i64 ((j : Int) + 1)] w fun e w' => e = .returned (.bool true) ∧ Gr w w') := Lib.hid fun w => by
    have := ris8_c b kd l ((j : Int) + 1) w; rwa [decide_eq_true (by omega)] at this
  have C2 := Lib.hid (lens_c b kd l)
  have j1 : j < mct l := mN_mct hj
  have j2 : (j : Int) < mct l := by omega
  have j3 : (j : Int) ≤ 13 := by have := mct_le l; omega
  have HS : RowKit.Hid (∀ k, mah kd l (k + 1) = mah kd l k + mlen kd l k) := Lib.hid fun _ => rfl
  have HR := Lib.hid (mah_range kd l)
  have HL := Lib.hid (mlen_range kd l)
  have HZ : RowKit.Hid (mah kd l 0 = 0) := Lib.hid rfl
  clear hj
  go_enter Tryz.func39, Tryz.ntmps39
  go_wp2_with (first | (go_at_call 67; (with_reducible refine (C1.out _).mono ?_); rintro e wA ⟨rfl, hgwA⟩; obtain ⟨hclwA, hfzwA, hszwA⟩ := gcell hgwA; (try simp [Nat.add_one_le_iff] at hszwA); have hlwA_w : w.heap.size < wA.heap.size := (by omega)))
  have b0 := hgwA.keep (b := w.heap.size) (o := 0) (v := .int .i64 b) (by simp) (by simp [go_sem])
  have b1 := hgwA.keep (b := w.heap.size) (o := 1) (v := .int .i64 kd) (by simp) (by simp [go_sem])
  have b2 := hgwA.keep (b := w.heap.size) (o := 2) (v := .bool l) (by simp) (by simp [go_sem])
  have GA : Gr w wA := (by repeat (first | exact Gr.refl _ | refine Gr.setCell ?_ _ _ (by first | exact Nat.le_refl _ | (simp; omega) | (simp; done)) | refine Gr.grown ?_ _ _ | refine Gr.drewN ?_ _ | refine Gr.drew ?_ | refine Gr.alloc ?_ _ | refine Gr.grow ?_ _ | (refine Gr.trans ?_ (by assumption))))
  clear hclwA hfzwA hszwA hgwA
  go_loopg [5, 6] j (fun kx s5 s6 wr => ∃ k : Nat, k ≤ j ∧ j - k ≤ kx ∧ s5 = .int .i64 (mah kd l k) ∧ s6 = .int .i64 ((k : Int) + 1) ∧ wr.cell? ⟨w.heap.size, 0, none⟩ = some (.int .i64 b) ∧ wr.cell? ⟨w.heap.size, 1, none⟩ = some (.int .i64 kd) ∧ wr.cell? ⟨w.heap.size, 2, none⟩ = some (.bool l) ∧ w.heap.size < wr.heap.size ∧ Gr w wr)
  case atStart => exact ⟨0, by omega, by omega, by rw [HZ.out], rfl, b0, b1, b2, hlwA_w, GA⟩
  case round =>
    clear b0 b1 b2
    obtain ⟨k, hk, hm, rfl, rfl, b0, b1, b2, hlt, hg⟩ := hrel
    have r0 := (HR.out k).1
    have r1 := (HR.out k).2
    have m0 := (HL.out k).1
    have m1 := (HL.out k).2
    by_cases e : k < j
    · have k2 : (k : Int) < mct l := by omega
      go_wp2_with (first | (go_at_call 68; (with_reducible refine (C2.out _).mono ?_); rintro e wB ⟨g, cap, rfl, RB, hgB⟩; have ck := RB.c k (by omega); clear RB))
      go_roundg (j - (k + 1))
      case measure => omega
      case rel => exact ⟨k + 1, by omega, Nat.le_refl _, by rw [HS.out], by go_num, hgB.keep hlt b0, hgB.keep hlt b1, hgB.keep hlt b2, hgB.lt hlt, (by repeat (first | exact Gr.refl _ | refine Gr.setCell ?_ _ _ (by first | exact Nat.le_refl _ | (simp; omega) | (simp; done)) | refine Gr.grown ?_ _ _ | refine Gr.drewN ?_ _ | refine Gr.drew ?_ | refine Gr.alloc ?_ _ | refine Gr.grow ?_ _ | (refine Gr.trans ?_ (by assumption))))⟩
    · obtain rfl : k = j := by omega
      go_wp2
      go_ret
      exact ⟨rfl, (by repeat (first | exact Gr.refl _ | refine Gr.setCell ?_ _ _ (by first | exact Nat.le_refl _ | (simp; omega) | (simp; done)) | refine Gr.grown ?_ _ _ | refine Gr.drewN ?_ _ | refine Gr.drew ?_ | refine Gr.alloc ?_ _ | refine Gr.grow ?_ _ | (refine Gr.trans ?_ (by assumption))))⟩
theorem rahead_out (b kd : Int) (l : Bool) (m : Int) (w : World) (hm : m < 1 ∨ mN b kd l < m) : Calls Tryz.prog 39 #[.agg #[.int .i64 b, .int .i64 kd, .bool l], .int .i64 m] w fun e w' => e = .returned (.int .i64 0) ∧ Gr w w' := by
  have C1 : RowKit.Hid (∀ w, Calls Tryz.prog 67 #[.agg #[.int .i64 b, .int .i64 kd, .bool l], .int .i64 m] w fun e w' => e = .returned (.bool false) ∧ Gr w w') := Lib.hid fun w => by
    have := ris8_c b kd l m w; rwa [decide_eq_false (by omega)] at this
  clear hm
  go_enter Tryz.func39, Tryz.ntmps39
  go_wp2_with (first | (go_at_call 67; (with_reducible refine (C1.out _).mono ?_); rintro e wA ⟨rfl, hgwA⟩; obtain ⟨hclwA, hfzwA, hszwA⟩ := gcell hgwA; (try simp [Nat.add_one_le_iff] at hszwA); have hlwA_w : w.heap.size < wA.heap.size := (by omega)))
  go_ret
  exact ⟨rfl, (by repeat (first | exact Gr.refl _ | refine Gr.setCell ?_ _ _ (by first | exact Nat.le_refl _ | (simp; omega) | (simp; done)) | refine Gr.grown ?_ _ _ | refine Gr.drewN ?_ _ | refine Gr.drew ?_ | refine Gr.alloc ?_ _ | refine Gr.grow ?_ _ | (refine Gr.trans ?_ (by assumption))))⟩

set_option maxHeartbeats 2000000 in
theorem rfind_in (b kd : Int) (l : Bool) (j : Nat) (r : Int) (w : World) (hj : j < mN b kd l) (h0 : mah kd l j < r) (h1 : r ≤ mah kd l (j + 1)) :
    Calls Tryz.prog 53 #[.agg #[.int .i64 b, .int .i64 kd, .bool l], .int .i64 r] w fun e w' => e = .returned (.tuple #[.int .i64 ((j : Int) + 1), .int .i64 (r - mah kd l j), .bool true]) ∧ Gr w w' := by
  have C1 := Lib.hid (rcount_c b kd l)
  have C2 := Lib.hid (fun k w h => rdays_in b kd l k w h)
  have HS : RowKit.Hid (∀ k, mah kd l (k + 1) = mah kd l k + mlen kd l k) := Lib.hid fun _ => rfl
  have HR := Lib.hid (mah_range kd l)
  have HL := Lib.hid (mlen_range kd l)
  have HZ : RowKit.Hid (mah kd l 0 = 0) := Lib.hid rfl
  have HM := Lib.hid (fun i k (h : i ≤ k) => mah_le kd l h)
  have n13 : (mN b kd l : Int) ≤ 13 := by have := mN_le b kd l; omega
  have HJN := Lib.hid hj
  have H0 := Lib.hid h0
  have H1 := Lib.hid h1
  have rpos : 1 ≤ r := by have := (mah_range kd l j).1; omega
  clear hj h0 h1
  go_enter Tryz.func53, Tryz.ntmps53
  go_wp2
  go_loopg [1, 7] j (fun kx s1 s7 wr => ∃ k : Nat, k ≤ j ∧ j - k ≤ kx ∧ s1 = .int .i64 (r - mah kd l k) ∧ s7 = .int .i64 ((k : Int) + 1) ∧ wr.cell? ⟨w.heap.size, 0, none⟩ = some (.int .i64 b) ∧ wr.cell? ⟨w.heap.size, 1, none⟩ = some (.int .i64 kd) ∧ wr.cell? ⟨w.heap.size, 2, none⟩ = some (.bool l) ∧ w.heap.size < wr.heap.size ∧ Gr w wr)
  case atStart => exact ⟨0, by omega, by omega, by rw [HZ.out]; simp, rfl, by simp [go_sem], by simp [go_sem], by simp [go_sem], by simp, (by repeat (first | exact Gr.refl _ | refine Gr.setCell ?_ _ _ (by first | exact Nat.le_refl _ | (simp; omega) | (simp; done)) | refine Gr.grown ?_ _ _ | refine Gr.drewN ?_ _ | refine Gr.drew ?_ | refine Gr.alloc ?_ _ | refine Gr.grow ?_ _ | (refine Gr.trans ?_ (by assumption))))⟩
  case round =>
    obtain ⟨k, hk, hm, rfl, rfl, b0, b1, b2, hlt, hg⟩ := hrel
    have kN : (k : Int) < (mN b kd l : Int) := by have := HJN.out; omega
    have m0 := (HL.out k).1
    have m1 := (HL.out k).2
    have r0 := (HR.out k).1
    have r1 := (HR.out k).2
    have rl : -400 ≤ r ∧ r ≤ 800 := by have := H0.out; have := H1.out; have := (HR.out j).1; have := (HR.out (j + 1)).2; have := HJN.out; omega
    have rl0 := rl.1
    have rl1 := rl.2
    clear rl
    by_cases e : k < j
    · have big : mlen kd l k < r - mah kd l k := by have := HM.out (k + 1) j e; rw [HS.out] at this; have := H0.out; omega
      go_wp2_with (first | ((go_at_call 85; (with_reducible refine (C1.out _).mono ?_); rintro e wA ⟨rfl, hgwA⟩; obtain ⟨hclwA, hfzwA, hszwA⟩ := gcell hgwA; (try simp [Nat.add_one_le_iff] at hszwA); have hlwA_w : w.heap.size < wA.heap.size := (by omega)); have d0 := hgwA.keep hlt b0; have d1 := hgwA.keep hlt b1; have d2 := hgwA.keep hlt b2; clear hclwA hfzwA) | ((go_at_call 81; (with_reducible refine (C2.out k _ (by omega)).mono ?_); rintro e wB ⟨rfl, hgwB⟩; obtain ⟨hclwB, hfzwB, hszwB⟩ := gcell hgwB; (try simp [Nat.add_one_le_iff] at hszwB); have hlwB_w : w.heap.size < wB.heap.size := (by omega)); have e0 := hgwB.keep hlwA_w d0; have e1 := hgwB.keep hlwA_w d1; have e2 := hgwB.keep hlwA_w d2; clear hclwB hfzwB; clear C1) | ((go_at_call 81; (with_reducible refine (C2.out k _ (by omega)).mono ?_); rintro e wC ⟨rfl, hgwC⟩; obtain ⟨hclwC, hfzwC, hszwC⟩ := gcell hgwC; (try simp [Nat.add_one_le_iff] at hszwC); have hlwC_w : w.heap.size < wC.heap.size := (by omega))))
      go_roundg (j - (k + 1))
      case measure => omega
      case rel => exact ⟨k + 1, by omega, Nat.le_refl _, by rw [HS.out]; congr 1; omega, by go_num, hgwC.keep hlwB_w e0, hgwC.keep hlwB_w e1, hgwC.keep hlwB_w e2, hlwC_w, (by repeat (first | exact Gr.refl _ | refine Gr.setCell ?_ _ _ (by first | exact Nat.le_refl _ | (simp; omega) | (simp; done)) | refine Gr.grown ?_ _ _ | refine Gr.drewN ?_ _ | refine Gr.drew ?_ | refine Gr.alloc ?_ _ | refine Gr.grow ?_ _ | (refine Gr.trans ?_ (by assumption))))⟩
    · obtain rfl : k = j := by omega
      have le : r - mah kd l k ≤ mlen kd l k := by have := H1.out; rw [HS.out] at this; omega
      go_wp2_with (first | ((go_at_call 85; (with_reducible refine (C1.out _).mono ?_); rintro e wA ⟨rfl, hgwA⟩; obtain ⟨hclwA, hfzwA, hszwA⟩ := gcell hgwA; (try simp [Nat.add_one_le_iff] at hszwA); have hlwA_w : w.heap.size < wA.heap.size := (by omega)); have d0 := hgwA.keep hlt b0; have d1 := hgwA.keep hlt b1; have d2 := hgwA.keep hlt b2; clear hclwA hfzwA) | ((go_at_call 81; (with_reducible refine (C2.out k _ (by omega)).mono ?_); rintro e wB ⟨rfl, hgwB⟩; obtain ⟨hclwB, hfzwB, hszwB⟩ := gcell hgwB; (try simp [Nat.add_one_le_iff] at hszwB); have hlwB_w : w.heap.size < wB.heap.size := (by omega))))
      go_ret3
      exact ⟨rfl, (by repeat (first | exact Gr.refl _ | refine Gr.setCell ?_ _ _ (by first | exact Nat.le_refl _ | (simp; omega) | (simp; done)) | refine Gr.grown ?_ _ _ | refine Gr.drewN ?_ _ | refine Gr.drew ?_ | refine Gr.alloc ?_ _ | refine Gr.grow ?_ _ | (refine Gr.trans ?_ (by assumption))))⟩
set_option maxHeartbeats 2000000 in
theorem rfind_out (b kd : Int) (l : Bool) (r : Int) (w : World) (h : r < 1 ∨ mah kd l (mN b kd l) < r) (hr1 : r ≤ 9223372036854775807) :
    Calls Tryz.prog 53 #[.agg #[.int .i64 b, .int .i64 kd, .bool l], .int .i64 r] w fun e w' => e = .returned (.tuple #[.int .i64 0, .int .i64 0, .bool false]) ∧ Gr w w' := by
  by_cases g : r < 1
  · clear h
    go_enter Tryz.func53, Tryz.ntmps53
    go_wp2
    go_ret3
    exact ⟨rfl, (by repeat (first | exact Gr.refl _ | refine Gr.setCell ?_ _ _ (by first | exact Nat.le_refl _ | (simp; omega) | (simp; done)) | refine Gr.grown ?_ _ _ | refine Gr.drewN ?_ _ | refine Gr.drew ?_ | refine Gr.alloc ?_ _ | refine Gr.grow ?_ _ | (refine Gr.trans ?_ (by assumption))))⟩
  · have C1 := Lib.hid (rcount_c b kd l)
    have C2 := Lib.hid (fun k w h => rdays_in b kd l k w h)
    have HS : RowKit.Hid (∀ k, mah kd l (k + 1) = mah kd l k + mlen kd l k) := Lib.hid fun _ => rfl
    have HR := Lib.hid (mah_range kd l)
    have HL := Lib.hid (mlen_range kd l)
    have HZ : RowKit.Hid (mah kd l 0 = 0) := Lib.hid rfl
    have HM := Lib.hid (fun i k (h : i ≤ k) => mah_le kd l h)
    have n13 : (mN b kd l : Int) ≤ 13 := by have := mN_le b kd l; omega
    have HH : RowKit.Hid (mah kd l (mN b kd l) < r) := Lib.hid (by omega)
    have rpos : 1 ≤ r := by omega
    clear h g
    go_enter Tryz.func53, Tryz.ntmps53
    go_wp2
    go_loopg [1, 7] (mN b kd l) (fun kx s1 s7 wr => ∃ k : Nat, k ≤ mN b kd l ∧ mN b kd l - k ≤ kx ∧ s1 = .int .i64 (r - mah kd l k) ∧ s7 = .int .i64 ((k : Int) + 1) ∧ wr.cell? ⟨w.heap.size, 0, none⟩ = some (.int .i64 b) ∧ wr.cell? ⟨w.heap.size, 1, none⟩ = some (.int .i64 kd) ∧ wr.cell? ⟨w.heap.size, 2, none⟩ = some (.bool l) ∧ w.heap.size < wr.heap.size ∧ Gr w wr)
    case atStart => exact ⟨0, by omega, by omega, by rw [HZ.out]; simp, rfl, by simp [go_sem], by simp [go_sem], by simp [go_sem], by simp, (by repeat (first | exact Gr.refl _ | refine Gr.setCell ?_ _ _ (by first | exact Nat.le_refl _ | (simp; omega) | (simp; done)) | refine Gr.grown ?_ _ _ | refine Gr.drewN ?_ _ | refine Gr.drew ?_ | refine Gr.alloc ?_ _ | refine Gr.grow ?_ _ | (refine Gr.trans ?_ (by assumption))))⟩
    case round =>
      obtain ⟨k, hk, hm, rfl, rfl, b0, b1, b2, hlt, hg⟩ := hrel
      have m0 := (HL.out k).1
      have m1 := (HL.out k).2
      have r0 := (HR.out k).1
      have r1 := (HR.out k).2
      by_cases e : k < mN b kd l
      · have kN : (k : Int) < (mN b kd l : Int) := by omega
        have big : mlen kd l k < r - mah kd l k := by have := HM.out (k + 1) (mN b kd l) e; rw [HS.out] at this; have := HH.out; omega
        go_wp2_with (first | ((go_at_call 85; (with_reducible refine (C1.out _).mono ?_); rintro e wA ⟨rfl, hgwA⟩; obtain ⟨hclwA, hfzwA, hszwA⟩ := gcell hgwA; (try simp [Nat.add_one_le_iff] at hszwA); have hlwA_w : w.heap.size < wA.heap.size := (by omega)); have d0 := hgwA.keep hlt b0; have d1 := hgwA.keep hlt b1; have d2 := hgwA.keep hlt b2; clear hclwA hfzwA) | ((go_at_call 81; (with_reducible refine (C2.out k _ (by omega)).mono ?_); rintro e wB ⟨rfl, hgwB⟩; obtain ⟨hclwB, hfzwB, hszwB⟩ := gcell hgwB; (try simp [Nat.add_one_le_iff] at hszwB); have hlwB_w : w.heap.size < wB.heap.size := (by omega)); have e0 := hgwB.keep hlwA_w d0; have e1 := hgwB.keep hlwA_w d1; have e2 := hgwB.keep hlwA_w d2; clear hclwB hfzwB; clear C1) | ((go_at_call 81; (with_reducible refine (C2.out k _ (by omega)).mono ?_); rintro e wC ⟨rfl, hgwC⟩; obtain ⟨hclwC, hfzwC, hszwC⟩ := gcell hgwC; (try simp [Nat.add_one_le_iff] at hszwC); have hlwC_w : w.heap.size < wC.heap.size := (by omega))))
        go_roundg (mN b kd l - (k + 1))
        case measure => omega
        case rel => exact ⟨k + 1, by omega, Nat.le_refl _, by rw [HS.out]; congr 1; omega, by go_num, hgwC.keep hlwB_w e0, hgwC.keep hlwB_w e1, hgwC.keep hlwB_w e2, hlwC_w, (by repeat (first | exact Gr.refl _ | refine Gr.setCell ?_ _ _ (by first | exact Nat.le_refl _ | (simp; omega) | (simp; done)) | refine Gr.grown ?_ _ _ | refine Gr.drewN ?_ _ | refine Gr.drew ?_ | refine Gr.alloc ?_ _ | refine Gr.grow ?_ _ | (refine Gr.trans ?_ (by assumption))))⟩
      · have kN : (mN b kd l : Int) ≤ (k : Int) := by omega
        go_wp2_with (first | ((go_at_call 85; (with_reducible refine (C1.out _).mono ?_); rintro e wA ⟨rfl, hgwA⟩; obtain ⟨hclwA, hfzwA, hszwA⟩ := gcell hgwA; (try simp [Nat.add_one_le_iff] at hszwA); have hlwA_w : w.heap.size < wA.heap.size := (by omega))))
        go_ret3
        exact ⟨rfl, (by repeat (first | exact Gr.refl _ | refine Gr.setCell ?_ _ _ (by first | exact Nat.le_refl _ | (simp; omega) | (simp; done)) | refine Gr.grown ?_ _ _ | refine Gr.drewN ?_ _ | refine Gr.drew ?_ | refine Gr.alloc ?_ _ | refine Gr.grow ?_ _ | (refine Gr.trans ?_ (by assumption))))⟩

end Go.Proofs.YtkiopgegdkeojaaGreatDoor.Walks
