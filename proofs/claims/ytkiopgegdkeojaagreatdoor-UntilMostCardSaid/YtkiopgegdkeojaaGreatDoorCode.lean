/- Walks of package code: codes that may be, codes of months, months of codes; and of the reference's order. -/
import Derived.Test.YtkiopgegdkeojaaGreatDoorMonMath
import Derived.Test.YtkiopgegdkeojaaGreatDoorBox
set_option linter.unusedVariables false
set_option linter.unusedSimpArgs false
namespace Go.Proofs.YtkiopgegdkeojaaGreatDoor.Walks
open Go Go.RowKit Go.Sort Go.Proofs.YtkiopgegdkeojaaGreatDoor.Base Go.Proofs.YtkiopgegdkeojaaGreatDoor.Plain Go.Proofs.YtkiopgegdkeojaaGreatDoor.Math

set_option maxHeartbeats 1000000 in
theorem cright_c (n : Int) (c : Bool) (w : World) : Calls Tryz.prog 71 #[.agg #[.int .i64 n, .bool c]] w fun e w' => e = .returned (.bool (cR n c)) ∧ Gr w w' := by
  obtain ⟨B, hB⟩ : ∃ B, cR n c = B := ⟨_, rfl⟩
  rw [hB]
  unfold cR at hB
  by_cases h0 : 0 < n
  · by_cases h1 : n ≤ 12
    · by_cases h5 : n = 5
      · subst h5
        have E : RowKit.Hid (true = B) := Lib.hid (by rw [← hB]; simp)
        clear hB h0 h1
        go_enter Tryz.func71, Tryz.ntmps71
        go_wp2
        go_ret
        exact ⟨retb E.out, (by repeat (first | exact Gr.refl _ | refine Gr.setCell ?_ _ _ (by first | exact Nat.le_refl _ | (simp; omega) | (simp; done)) | refine Gr.grown ?_ _ _ | refine Gr.drewN ?_ _ | refine Gr.drew ?_ | refine Gr.alloc ?_ _ | refine Gr.grow ?_ _ | (refine Gr.trans ?_ (by assumption))))⟩
      · have q5 : (n == 5) = false := beq_eq_false_iff_ne.2 h5
        have E : RowKit.Hid ((!c) = B) := Lib.hid (by have h3 : 1 ≤ n := (by omega); rw [← hB]; cases c <;> simp [h5, h3, h1])
        clear hB h5
        cases c
        · go_enter Tryz.func71, Tryz.ntmps71
          go_wp2
          go_ret
          exact ⟨retb E.out, (by repeat (first | exact Gr.refl _ | refine Gr.setCell ?_ _ _ (by first | exact Nat.le_refl _ | (simp; omega) | (simp; done)) | refine Gr.grown ?_ _ _ | refine Gr.drewN ?_ _ | refine Gr.drew ?_ | refine Gr.alloc ?_ _ | refine Gr.grow ?_ _ | (refine Gr.trans ?_ (by assumption))))⟩
        · go_enter Tryz.func71, Tryz.ntmps71
          go_wp2
          go_ret
          exact ⟨retb E.out, (by repeat (first | exact Gr.refl _ | refine Gr.setCell ?_ _ _ (by first | exact Nat.le_refl _ | (simp; omega) | (simp; done)) | refine Gr.grown ?_ _ _ | refine Gr.drewN ?_ _ | refine Gr.drew ?_ | refine Gr.alloc ?_ _ | refine Gr.grow ?_ _ | (refine Gr.trans ?_ (by assumption))))⟩
    · have E : RowKit.Hid (false = B) := Lib.hid (by rw [← hB]; exact (decide_eq_false (by omega)).symm)
      have h2 : 12 < n := by omega
      clear hB h1
      go_enter Tryz.func71, Tryz.ntmps71
      go_wp2
      go_ret
      exact ⟨retb E.out, (by repeat (first | exact Gr.refl _ | refine Gr.setCell ?_ _ _ (by first | exact Nat.le_refl _ | (simp; omega) | (simp; done)) | refine Gr.grown ?_ _ _ | refine Gr.drewN ?_ _ | refine Gr.drew ?_ | refine Gr.alloc ?_ _ | refine Gr.grow ?_ _ | (refine Gr.trans ?_ (by assumption))))⟩
  · have E : RowKit.Hid (false = B) := Lib.hid (by rw [← hB]; exact (decide_eq_false (by omega)).symm)
    have h2 : n ≤ 0 := by omega
    clear hB h0
    go_enter Tryz.func71, Tryz.ntmps71
    go_wp2
    go_ret
    exact ⟨retb E.out, (by repeat (first | exact Gr.refl _ | refine Gr.setCell ?_ _ _ (by first | exact Nat.le_refl _ | (simp; omega) | (simp; done)) | refine Gr.grown ?_ _ _ | refine Gr.drewN ?_ _ | refine Gr.drew ?_ | refine Gr.alloc ?_ _ | refine Gr.grow ?_ _ | (refine Gr.trans ?_ (by assumption))))⟩
set_option maxHeartbeats 1000000 in
theorem rright9_c (n : Int) (c : Bool) (w : World) : Calls Tryz.prog 48 #[.agg #[.int .i64 n, .bool c]] w fun e w' => e = .returned (.bool (cR n c)) ∧ Gr w w' := by
  obtain ⟨B, hB⟩ : ∃ B, cR n c = B := ⟨_, rfl⟩
  rw [hB]
  unfold cR at hB
  by_cases h0 : 1 ≤ n
  · by_cases h1 : n ≤ 12
    · cases c
      · have E : RowKit.Hid (true = B) := Lib.hid (by rw [← hB]; simp [h0, h1])
        clear hB
        go_enter Tryz.func48, Tryz.ntmps48
        go_wp2
        go_ret
        exact ⟨retb E.out, (by repeat (first | exact Gr.refl _ | refine Gr.setCell ?_ _ _ (by first | exact Nat.le_refl _ | (simp; omega) | (simp; done)) | refine Gr.grown ?_ _ _ | refine Gr.drewN ?_ _ | refine Gr.drew ?_ | refine Gr.alloc ?_ _ | refine Gr.grow ?_ _ | (refine Gr.trans ?_ (by assumption))))⟩
      · have E : RowKit.Hid ((n == 5) = B) := Lib.hid (by rw [← hB]; by_cases h5 : n = 5 <;> simp [h0, h1, h5])
        clear hB
        go_enter Tryz.func48, Tryz.ntmps48
        go_wp2
        go_ret
        exact ⟨retb E.out, (by repeat (first | exact Gr.refl _ | refine Gr.setCell ?_ _ _ (by first | exact Nat.le_refl _ | (simp; omega) | (simp; done)) | refine Gr.grown ?_ _ _ | refine Gr.drewN ?_ _ | refine Gr.drew ?_ | refine Gr.alloc ?_ _ | refine Gr.grow ?_ _ | (refine Gr.trans ?_ (by assumption))))⟩
    · have E : RowKit.Hid (false = B) := Lib.hid (by rw [← hB]; exact (decide_eq_false (by omega)).symm)
      have h2 : 12 < n := by omega
      clear hB h1
      go_enter Tryz.func48, Tryz.ntmps48
      go_wp2
      go_ret
      exact ⟨retb E.out, (by repeat (first | exact Gr.refl _ | refine Gr.setCell ?_ _ _ (by first | exact Nat.le_refl _ | (simp; omega) | (simp; done)) | refine Gr.grown ?_ _ _ | refine Gr.drewN ?_ _ | refine Gr.drew ?_ | refine Gr.alloc ?_ _ | refine Gr.grow ?_ _ | (refine Gr.trans ?_ (by assumption))))⟩
  · have E : RowKit.Hid (false = B) := Lib.hid (by rw [← hB]; exact (decide_eq_false (by omega)).symm)
    have h2 : n < 1 := by omega
    clear hB h0
    go_enter Tryz.func48, Tryz.ntmps48
    go_wp2
    go_ret
    exact ⟨retb E.out, (by repeat (first | exact Gr.refl _ | refine Gr.setCell ?_ _ _ (by first | exact Nat.le_refl _ | (simp; omega) | (simp; done)) | refine Gr.grown ?_ _ _ | refine Gr.drewN ?_ _ | refine Gr.drew ?_ | refine Gr.alloc ?_ _ | refine Gr.grow ?_ _ | (refine Gr.trans ?_ (by assumption))))⟩


set_option maxHeartbeats 2000000 in
theorem cof_in (l : Bool) (j : Nat) (w : World) (hj : j < mct l) : Calls Tryz.prog 77 #[.bool l, .int .i64 ((j : Int) + 1)] w fun e w' => e = .returned (.tuple #[.agg #[.int .i64 (cN l j), .bool (cL l j)], .bool true]) ∧ Gr w w' := by
  have HR := Lib.hid (cR_at l hj)
  obtain ⟨N, hN⟩ : ∃ N, cN l j = N := ⟨_, rfl⟩
  obtain ⟨C, hC⟩ : ∃ C, cL l j = C := ⟨_, rfl⟩
  rw [hN, hC] at HR ⊢
  have C1 : RowKit.Hid (∀ w, Calls Tryz.prog 71 #[.agg #[.int .i64 N, .bool C]] w fun e w' => e = .returned (.bool true) ∧ Gr w w') := Lib.hid fun w => by
    have := cright_c N C w; rwa [HR.out] at this
  unfold cN at hN
  unfold cL at hC
  have j13 : (j : Int) < 13 := by have := mct_le l; omega
  cases l
  · obtain rfl : (j : Int) + 1 = N := by simpa using hN
    obtain rfl : false = C := by simpa using hC
    clear hN hC hj HR
    go_enter Tryz.func77, Tryz.ntmps77
    go_wp2_with (first | ((go_at_call 71; (with_reducible refine (C1.out _).mono ?_); rintro e wA ⟨rfl, hgwA⟩); have c0 := hgwA.keep (b := w.heap.size) (o := 0) (v := .int .i64 0) (by simp; omega) (by simp [go_sem]); have c1 := hgwA.keep (b := w.heap.size) (o := 1) (v := .bool false) (by simp; omega) (by simp [go_sem]); have f0 := hgwA.thaw (b := w.heap.size) (o := 0) (v := false) (by simp; omega) (by simp [go_sem]); have f1 := hgwA.thaw (b := w.heap.size) (o := 1) (v := false) (by simp; omega) (by simp [go_sem]); have d0 := hgwA.keep (b := w.heap.size + 1) (o := 0) (v := .int .i64 ((j : Int) + 1)) (by simp) (by simp [go_sem]); have d1 := hgwA.keep (b := w.heap.size + 1) (o := 1) (v := .bool false) (by simp) (by simp [go_sem])))
    exact bodyPost_ret (v := .tuple #[.agg #[.int .i64 ((j : Int) + 1), .bool false], .bool true]) (by simp [results, Tryz.results77, go_sem, *]) rfl ⟨rfl, (by repeat (first | exact Gr.refl _ | refine Gr.setCell ?_ _ _ (by first | exact Nat.le_refl _ | (simp; omega) | (simp; done)) | refine Gr.grown ?_ _ _ | refine Gr.drewN ?_ _ | refine Gr.drew ?_ | refine Gr.alloc ?_ _ | refine Gr.grow ?_ _ | (refine Gr.trans ?_ (by assumption))))⟩
  · by_cases h5 : j < 5
    · obtain rfl : (j : Int) + 1 = N := by rw [if_neg (by omega)] at hN; exact hN
      obtain rfl : false = C := by rw [← hC]; simp; omega
      have g5 : (j : Int) + 1 ≤ 5 := by omega
      clear hN hC hj HR
      go_enter Tryz.func77, Tryz.ntmps77
      go_wp2_with (first | ((go_at_call 71; (with_reducible refine (C1.out _).mono ?_); rintro e wA ⟨rfl, hgwA⟩); have c0 := hgwA.keep (b := w.heap.size) (o := 0) (v := .int .i64 0) (by simp; omega) (by simp [go_sem]); have c1 := hgwA.keep (b := w.heap.size) (o := 1) (v := .bool false) (by simp; omega) (by simp [go_sem]); have f0 := hgwA.thaw (b := w.heap.size) (o := 0) (v := false) (by simp; omega) (by simp [go_sem]); have f1 := hgwA.thaw (b := w.heap.size) (o := 1) (v := false) (by simp; omega) (by simp [go_sem]); have d0 := hgwA.keep (b := w.heap.size + 1) (o := 0) (v := .int .i64 ((j : Int) + 1)) (by simp) (by simp [go_sem]); have d1 := hgwA.keep (b := w.heap.size + 1) (o := 1) (v := .bool false) (by simp) (by simp [go_sem])))
      exact bodyPost_ret (v := .tuple #[.agg #[.int .i64 ((j : Int) + 1), .bool false], .bool true]) (by simp [results, Tryz.results77, go_sem, *]) rfl ⟨rfl, (by repeat (first | exact Gr.refl _ | refine Gr.setCell ?_ _ _ (by first | exact Nat.le_refl _ | (simp; omega) | (simp; done)) | refine Gr.grown ?_ _ _ | refine Gr.drewN ?_ _ | refine Gr.drew ?_ | refine Gr.alloc ?_ _ | refine Gr.grow ?_ _ | (refine Gr.trans ?_ (by assumption))))⟩
    · obtain rfl : (j : Int) = N := by rw [if_pos ⟨rfl, by omega⟩] at hN; exact hN
      have g5 : 5 < (j : Int) + 1 := by omega
      by_cases e5 : j = 5
      · obtain rfl : true = C := by rw [← hC]; simp [e5]
        have q6 : ((j : Int) + 1 == 6) = true := beq_iff_eq.2 (by omega)
        clear hN hC hj HR e5 h5
        go_enter Tryz.func77, Tryz.ntmps77
        go_wp2_with (first | ((go_at_call 71; (with_reducible refine (C1.out _).mono ?_); rintro e wA ⟨rfl, hgwA⟩); have c0 := hgwA.keep (b := w.heap.size) (o := 0) (v := .int .i64 0) (by simp; omega) (by simp [go_sem]); have c1 := hgwA.keep (b := w.heap.size) (o := 1) (v := .bool false) (by simp; omega) (by simp [go_sem]); have f0 := hgwA.thaw (b := w.heap.size) (o := 0) (v := false) (by simp; omega) (by simp [go_sem]); have f1 := hgwA.thaw (b := w.heap.size) (o := 1) (v := false) (by simp; omega) (by simp [go_sem]); have d0 := hgwA.keep (b := w.heap.size + 1) (o := 0) (v := .int .i64 (j : Int)) (by simp) (by simp [go_sem]); have d1 := hgwA.keep (b := w.heap.size + 1) (o := 1) (v := .bool true) (by simp) (by simp [go_sem])))
        exact bodyPost_ret (v := .tuple #[.agg #[.int .i64 (j : Int), .bool true], .bool true]) (by simp [results, Tryz.results77, go_sem, *]) rfl ⟨rfl, (by repeat (first | exact Gr.refl _ | refine Gr.setCell ?_ _ _ (by first | exact Nat.le_refl _ | (simp; omega) | (simp; done)) | refine Gr.grown ?_ _ _ | refine Gr.drewN ?_ _ | refine Gr.drew ?_ | refine Gr.alloc ?_ _ | refine Gr.grow ?_ _ | (refine Gr.trans ?_ (by assumption))))⟩
      · obtain rfl : false = C := by rw [← hC]; simp; omega
        have q6 : ((j : Int) + 1 == 6) = false := beq_eq_false_iff_ne.2 (by omega)
        clear hN hC hj HR e5 h5
        go_enter Tryz.func77, Tryz.ntmps77
        go_wp2_with (first | ((go_at_call 71; (with_reducible refine (C1.out _).mono ?_); rintro e wA ⟨rfl, hgwA⟩); have c0 := hgwA.keep (b := w.heap.size) (o := 0) (v := .int .i64 0) (by simp; omega) (by simp [go_sem]); have c1 := hgwA.keep (b := w.heap.size) (o := 1) (v := .bool false) (by simp; omega) (by simp [go_sem]); have f0 := hgwA.thaw (b := w.heap.size) (o := 0) (v := false) (by simp; omega) (by simp [go_sem]); have f1 := hgwA.thaw (b := w.heap.size) (o := 1) (v := false) (by simp; omega) (by simp [go_sem]); have d0 := hgwA.keep (b := w.heap.size + 1) (o := 0) (v := .int .i64 ((j : Int))) (by simp) (by simp [go_sem]); have d1 := hgwA.keep (b := w.heap.size + 1) (o := 1) (v := .bool false) (by simp) (by simp [go_sem])))
        exact bodyPost_ret (v := .tuple #[.agg #[.int .i64 (j : Int), .bool false], .bool true]) (by simp [results, Tryz.results77, go_sem, *]) rfl ⟨rfl, (by repeat (first | exact Gr.refl _ | refine Gr.setCell ?_ _ _ (by first | exact Nat.le_refl _ | (simp; omega) | (simp; done)) | refine Gr.grown ?_ _ _ | refine Gr.drewN ?_ _ | refine Gr.drew ?_ | refine Gr.alloc ?_ _ | refine Gr.grow ?_ _ | (refine Gr.trans ?_ (by assumption))))⟩
set_option maxHeartbeats 2000000 in
theorem cplace_in (l : Bool) (j : Nat) (w : World) (hj : j < mct l) : Calls Tryz.prog 72 #[.bool l, .agg #[.int .i64 (cN l j), .bool (cL l j)]] w fun e w' => e = .returned (.tuple #[.int .i64 ((j : Int) + 1), .bool true]) ∧ Gr w w' := by
  have HR := Lib.hid (cR_at l hj)
  obtain ⟨N, hN⟩ : ∃ N, cN l j = N := ⟨_, rfl⟩
  obtain ⟨C, hC⟩ : ∃ C, cL l j = C := ⟨_, rfl⟩
  rw [hN, hC] at HR ⊢
  have C1 : RowKit.Hid (∀ w, Calls Tryz.prog 71 #[.agg #[.int .i64 N, .bool C]] w fun e w' => e = .returned (.bool true) ∧ Gr w w') := Lib.hid fun w => by
    have := cright_c N C w; rwa [HR.out] at this
  unfold cN at hN
  unfold cL at hC
  have j13 : (j : Int) < 13 := by have := mct_le l; omega
  cases l
  · obtain rfl : (j : Int) + 1 = N := by simpa using hN
    obtain rfl : false = C := by simpa using hC
    clear hN hC hj HR
    go_enter Tryz.func72, Tryz.ntmps72
    go_wp2_with (first | (go_at_call 71; (with_reducible refine (C1.out _).mono ?_); rintro e wA ⟨rfl, hgwA⟩; obtain ⟨hclwA, hfzwA, hszwA⟩ := gcell hgwA; (try simp [Nat.add_one_le_iff] at hszwA); have hlwA_w : w.heap.size < wA.heap.size := (by omega)))
    go_ret2
    exact ⟨rfl, (by repeat (first | exact Gr.refl _ | refine Gr.setCell ?_ _ _ (by first | exact Nat.le_refl _ | (simp; omega) | (simp; done)) | refine Gr.grown ?_ _ _ | refine Gr.drewN ?_ _ | refine Gr.drew ?_ | refine Gr.alloc ?_ _ | refine Gr.grow ?_ _ | (refine Gr.trans ?_ (by assumption))))⟩
  · by_cases h5 : j < 5
    · obtain rfl : (j : Int) + 1 = N := by rw [if_neg (by omega)] at hN; exact hN
      obtain rfl : false = C := by rw [← hC]; simp; omega
      have g5 : (j : Int) + 1 ≤ 5 := by omega
      clear hN hC hj HR
      go_enter Tryz.func72, Tryz.ntmps72
      go_wp2_with (first | (go_at_call 71; (with_reducible refine (C1.out _).mono ?_); rintro e wA ⟨rfl, hgwA⟩; obtain ⟨hclwA, hfzwA, hszwA⟩ := gcell hgwA; (try simp [Nat.add_one_le_iff] at hszwA); have hlwA_w : w.heap.size < wA.heap.size := (by omega)))
      go_ret2
      exact ⟨rfl, (by repeat (first | exact Gr.refl _ | refine Gr.setCell ?_ _ _ (by first | exact Nat.le_refl _ | (simp; omega) | (simp; done)) | refine Gr.grown ?_ _ _ | refine Gr.drewN ?_ _ | refine Gr.drew ?_ | refine Gr.alloc ?_ _ | refine Gr.grow ?_ _ | (refine Gr.trans ?_ (by assumption))))⟩
    · obtain rfl : (j : Int) = N := by rw [if_pos ⟨rfl, by omega⟩] at hN; exact hN
      by_cases e5 : j = 5
      · obtain rfl : true = C := by rw [← hC]; simp [e5]
        clear hN hC hj HR e5 h5
        go_enter Tryz.func72, Tryz.ntmps72
        go_wp2_with (first | (go_at_call 71; (with_reducible refine (C1.out _).mono ?_); rintro e wA ⟨rfl, hgwA⟩; obtain ⟨hclwA, hfzwA, hszwA⟩ := gcell hgwA; (try simp [Nat.add_one_le_iff] at hszwA); have hlwA_w : w.heap.size < wA.heap.size := (by omega)))
        go_ret2
        exact ⟨rfl, (by repeat (first | exact Gr.refl _ | refine Gr.setCell ?_ _ _ (by first | exact Nat.le_refl _ | (simp; omega) | (simp; done)) | refine Gr.grown ?_ _ _ | refine Gr.drewN ?_ _ | refine Gr.drew ?_ | refine Gr.alloc ?_ _ | refine Gr.grow ?_ _ | (refine Gr.trans ?_ (by assumption))))⟩
      · obtain rfl : false = C := by rw [← hC]; simp; omega
        have g5 : 5 < (j : Int) := by omega
        clear hN hC hj HR e5 h5
        go_enter Tryz.func72, Tryz.ntmps72
        go_wp2_with (first | (go_at_call 71; (with_reducible refine (C1.out _).mono ?_); rintro e wA ⟨rfl, hgwA⟩; obtain ⟨hclwA, hfzwA, hszwA⟩ := gcell hgwA; (try simp [Nat.add_one_le_iff] at hszwA); have hlwA_w : w.heap.size < wA.heap.size := (by omega)))
        go_ret2
        exact ⟨rfl, (by repeat (first | exact Gr.refl _ | refine Gr.setCell ?_ _ _ (by first | exact Nat.le_refl _ | (simp; omega) | (simp; done)) | refine Gr.grown ?_ _ _ | refine Gr.drewN ?_ _ | refine Gr.drew ?_ | refine Gr.alloc ?_ _ | refine Gr.grow ?_ _ | (refine Gr.trans ?_ (by assumption))))⟩
set_option maxHeartbeats 2000000 in
theorem cplace_out (l : Bool) (n : Int) (c : Bool) (w : World) (h : cHas l n c = false) : Calls Tryz.prog 72 #[.bool l, .agg #[.int .i64 n, .bool c]] w fun e w' => e = .returned (.tuple #[.int .i64 0, .bool false]) ∧ Gr w w' := by
  unfold cHas at h
  have c1 := fun w => cright_c n c w
  cases hR : cR n c
  · rw [hR] at c1
    have C1 := Lib.hid c1
    clear h hR c1
    go_enter Tryz.func72, Tryz.ntmps72
    go_wp2_with (first | (go_at_call 71; (with_reducible refine (C1.out _).mono ?_); rintro e wA ⟨rfl, hgwA⟩; obtain ⟨hclwA, hfzwA, hszwA⟩ := gcell hgwA; (try simp [Nat.add_one_le_iff] at hszwA); have hlwA_w : w.heap.size < wA.heap.size := (by omega)))
    go_ret2
    exact ⟨rfl, (by repeat (first | exact Gr.refl _ | refine Gr.setCell ?_ _ _ (by first | exact Nat.le_refl _ | (simp; omega) | (simp; done)) | refine Gr.grown ?_ _ _ | refine Gr.drewN ?_ _ | refine Gr.drew ?_ | refine Gr.alloc ?_ _ | refine Gr.grow ?_ _ | (refine Gr.trans ?_ (by assumption))))⟩
  · rw [hR] at c1 h
    have C1 := Lib.hid c1
    cases l <;> cases c <;> simp at h
    clear hR c1
    go_enter Tryz.func72, Tryz.ntmps72
    go_wp2_with (first | (go_at_call 71; (with_reducible refine (C1.out _).mono ?_); rintro e wA ⟨rfl, hgwA⟩; obtain ⟨hclwA, hfzwA, hszwA⟩ := gcell hgwA; (try simp [Nat.add_one_le_iff] at hszwA); have hlwA_w : w.heap.size < wA.heap.size := (by omega)))
    go_ret2
    exact ⟨rfl, (by repeat (first | exact Gr.refl _ | refine Gr.setCell ?_ _ _ (by first | exact Nat.le_refl _ | (simp; omega) | (simp; done)) | refine Gr.grown ?_ _ _ | refine Gr.drewN ?_ _ | refine Gr.drew ?_ | refine Gr.alloc ?_ _ | refine Gr.grow ?_ _ | (refine Gr.trans ?_ (by assumption))))⟩

end Go.Proofs.YtkiopgegdkeojaaGreatDoor.Walks
