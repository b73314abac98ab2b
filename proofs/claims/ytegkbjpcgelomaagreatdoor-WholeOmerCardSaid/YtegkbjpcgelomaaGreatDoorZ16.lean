/- The feasts of a year, the Sabbaths and the readings of a cycle in plain numbers. No program in sight. -/
import Derived.Test.YtegkbjpcgelomaaGreatDoorZ15
set_option linter.unusedVariables false
set_option linter.unusedSimpArgs false
section
namespace Go.Proofs.YtegkbjpcgelomaaGreatDoor.Math
open Go Go.RowKit Go.Proofs.YtegkbjpcgelomaaGreatDoor.Plain Go.Proofs.YtegkbjpcgelomaaGreatDoor.Walks

/-- The nineteen rows: kinds, codes, first and last days in the Diaspora, and in Israel. -/
def fK (i : Nat) : Int := ([1, 3, 4, 5, 6, 7, 8, 9, 11, 12, 14, 15, 17, 18, 17, 22, 23, 25, 28] : List Int).getD i 0
def fN (i : Nat) : Int := ([1, 1, 1, 1, 1, 1, 1, 3, 5, 5, 6, 6, 7, 7, 7, 8, 8, 9, 11] : List Int).getD i 0
def fL (i : Nat) : Bool := decide (i = 9)
def fA (i : Nat) : Int := ([1, 10, 15, 17, 21, 22, 23, 25, 15, 14, 14, 15, 15, 17, 21, 14, 18, 6, 15] : List Int).getD i 0
def fB (i : Nat) : Int := ([2, 10, 16, 20, 21, 22, 23, 32, 15, 14, 14, 15, 16, 20, 22, 14, 18, 7, 15] : List Int).getD i 0
def fC (i : Nat) : Int := ([1, 10, 15, 16, 21, 22, 22, 25, 15, 14, 14, 15, 15, 16, 21, 14, 18, 6, 15] : List Int).getD i 0
def fD (i : Nat) : Int := ([2, 10, 15, 20, 21, 22, 22, 32, 15, 14, 14, 15, 15, 20, 21, 14, 18, 6, 15] : List Int).getD i 0
def fF (p : Int) (i : Nat) : Int := if p = 1 then fC i else fA i
def fT (p : Int) (i : Nat) : Int := if p = 1 then fD i else fB i
/-- The place of a row's month in a year; has the year that month? -/
def fJ (l : Bool) (i : Nat) : Nat := if l = true ∧ (fL i = true ∨ 6 ≤ fN i) then (fN i).toNat else (fN i).toNat - 1
def fH (l : Bool) (i : Nat) : Bool := l || !fL i
theorem fJ_ok : ∀ l : Bool, ∀ i, i < 19 → fH l i = true → fJ l i < mct l ∧ cN l (fJ l i) = fN i ∧ cL l (fJ l i) = fL i := by decide
theorem fH_no : ∀ l : Bool, ∀ i, i < 19 → fH l i = false → cHas l (fN i) (fL i) = false := by decide
theorem fF_ok : ∀ i, i < 19 → 1 ≤ fA i ∧ fA i ≤ fB i ∧ fB i ≤ fA i + 7 ∧ fB i ≤ 32 ∧ 1 ≤ fC i ∧ fC i ≤ fD i ∧ fD i ≤ fC i + 7 ∧ fD i ≤ 32 := by decide
theorem fFT (p : Int) {i : Nat} (hi : i < 19) : 1 ≤ fF p i ∧ fF p i ≤ fT p i ∧ fT p i ≤ fF p i + 7 ∧ fT p i ≤ 32 := by
  obtain ⟨a, b, c, d, e, f, g, h⟩ := fF_ok i hi
  unfold fF fT
  by_cases hp : p = 1
  · rw [if_pos hp, if_pos hp]; exact ⟨e, f, g, h⟩
  · rw [if_neg hp, if_neg hp]; exact ⟨a, b, c, d⟩
/-- The first day of a row's month. -/
def fdy (y : Int) (i : Nat) : Int := if fH (lp y) i = true then hd y (fJ (lp y) i) 1 else 0
def fer (y : Int) (i : Nat) : Int := if fH (lp y) i = true then 0 else 3
/-- The events of a row: kind and day. -/
def evr (y p : Int) (i : Nat) : List (Int × Int) :=
  if fH (lp y) i = true then (List.range (fT p i + 1 - fF p i).toNat).map fun (d : Nat) => (fK i, fdy y i + (fF p i + (d : Int)) - 1) else []
/-- The events of a year, row by row. -/
def evs (y p : Int) : List (Int × Int) := (List.range 19).flatMap (evr y p)
def cel (L : List (Int × Int)) : List Value := L.flatMap fun e => [.int .i64 e.1, .int .i64 e.2]
theorem cel_append (L M : List (Int × Int)) : cel (L ++ M) = cel L ++ cel M := by simp [cel]
theorem cel_len (L : List (Int × Int)) : (cel L).length = L.length * 2 := by
  induction L with
  | nil => rfl
  | cons e L ih => simp only [cel, List.flatMap_cons, List.length_append, List.length_cons, List.length_nil] at ih ⊢; omega
theorem cel_at (L : List (Int × Int)) (i : Nat) (e : Int × Int) (h : L[i]? = some e) : (cel L)[2 * i]? = some (.int .i64 e.1) ∧ (cel L)[2 * i + 1]? = some (.int .i64 e.2) := by
  induction L generalizing i with
  | nil => cases h
  | cons x L ih =>
    cases i with
    | zero => cases h; exact ⟨rfl, rfl⟩
    | succ i => exact ih i h
theorem evr_len (y p : Int) {i : Nat} (hi : i < 19) : (evr y p i).length ≤ 8 := by
  have := fFT p hi
  unfold evr
  split
  · simp; omega
  · simp
theorem evp_len (y p : Int) (k : Nat) (hk : k ≤ 19) : ((List.range k).flatMap (evr y p)).length ≤ 8 * k := by
  induction k with
  | zero => simp
  | succ k ih =>
    rw [List.range_succ, List.flatMap_append, List.length_append]
    have a := ih (by omega)
    have b := evr_len y p (i := k) (by omega)
    simp only [List.flatMap_cons, List.flatMap_nil, List.append_nil]
    omega

end Go.Proofs.YtegkbjpcgelomaaGreatDoor.Math
end
/- Walks of package code: codes that may be, codes of months, months of codes; and of the reference's order. -/
section
namespace Go.Proofs.YtegkbjpcgelomaaGreatDoor.Walks
open Go Go.RowKit Go.Sort Go.Proofs.YtegkbjpcgelomaaGreatDoor.Base Go.Proofs.YtegkbjpcgelomaaGreatDoor.Plain Go.Proofs.YtegkbjpcgelomaaGreatDoor.Math

set_option maxHeartbeats 1000000 in
theorem cright_c (n : Int) (c : Bool) (w : World) : Calls Tryq.prog 91 #[.agg #[.int .i64 n, .bool c]] w fun e w' => e = .returned (.bool (cR n c)) ∧ Gr w w' := by
  obtain ⟨B, hB⟩ : ∃ B, cR n c = B := ⟨_, rfl⟩
  rw [hB]
  unfold cR at hB
  by_cases h0 : 0 < n
  · by_cases h1 : n ≤ 12
    · by_cases h5 : n = 5
      · subst h5
        have E : RowKit.Hid (true = B) := Lib.hid (by rw [← hB]; simp)
        clear hB h0 h1
        go_enter Tryq.func91, Tryq.ntmps91
        go_wp2
        go_ret
        exact ⟨retb E.out, (by repeat (first | exact Gr.refl _ | refine Gr.setCell ?_ _ _ (by first | exact Nat.le_refl _ | (simp; omega) | (simp; done)) | refine Gr.grown ?_ _ _ | refine Gr.drewN ?_ _ | refine Gr.drew ?_ | refine Gr.alloc ?_ _ | refine Gr.grow ?_ _ | (refine Gr.trans ?_ (by assumption))))⟩
      · have q5 : (n == 5) = false := beq_eq_false_iff_ne.2 h5
        have E : RowKit.Hid ((!c) = B) := Lib.hid (by have h3 : 1 ≤ n := (by omega); rw [← hB]; cases c <;> simp [h5, h3, h1])
        clear hB h5
        cases c
        · go_enter Tryq.func91, Tryq.ntmps91
          go_wp2
          go_ret
          exact ⟨retb E.out, (by repeat (first | exact Gr.refl _ | refine Gr.setCell ?_ _ _ (by first | exact Nat.le_refl _ | (simp; omega) | (simp; done)) | refine Gr.grown ?_ _ _ | refine Gr.drewN ?_ _ | refine Gr.drew ?_ | refine Gr.alloc ?_ _ | refine Gr.grow ?_ _ | (refine Gr.trans ?_ (by assumption))))⟩
        · go_enter Tryq.func91, Tryq.ntmps91
          go_wp2
          go_ret
          exact ⟨retb E.out, (by repeat (first | exact Gr.refl _ | refine Gr.setCell ?_ _ _ (by first | exact Nat.le_refl _ | (simp; omega) | (simp; done)) | refine Gr.grown ?_ _ _ | refine Gr.drewN ?_ _ | refine Gr.drew ?_ | refine Gr.alloc ?_ _ | refine Gr.grow ?_ _ | (refine Gr.trans ?_ (by assumption))))⟩
    · have E : RowKit.Hid (false = B) := Lib.hid (by rw [← hB]; exact (decide_eq_false (by omega)).symm)
      have h2 : 12 < n := by omega
      clear hB h1
      go_enter Tryq.func91, Tryq.ntmps91
      go_wp2
      go_ret
      exact ⟨retb E.out, (by repeat (first | exact Gr.refl _ | refine Gr.setCell ?_ _ _ (by first | exact Nat.le_refl _ | (simp; omega) | (simp; done)) | refine Gr.grown ?_ _ _ | refine Gr.drewN ?_ _ | refine Gr.drew ?_ | refine Gr.alloc ?_ _ | refine Gr.grow ?_ _ | (refine Gr.trans ?_ (by assumption))))⟩
  · have E : RowKit.Hid (false = B) := Lib.hid (by rw [← hB]; exact (decide_eq_false (by omega)).symm)
    have h2 : n ≤ 0 := by omega
    clear hB h0
    go_enter Tryq.func91, Tryq.ntmps91
    go_wp2
    go_ret
    exact ⟨retb E.out, (by repeat (first | exact Gr.refl _ | refine Gr.setCell ?_ _ _ (by first | exact Nat.le_refl _ | (simp; omega) | (simp; done)) | refine Gr.grown ?_ _ _ | refine Gr.drewN ?_ _ | refine Gr.drew ?_ | refine Gr.alloc ?_ _ | refine Gr.grow ?_ _ | (refine Gr.trans ?_ (by assumption))))⟩

set_option maxHeartbeats 2000000 in
theorem cof_in (l : Bool) (j : Nat) (w : World) (hj : j < mct l) : Calls Tryq.prog 50 #[.bool l, .int .i64 ((j : Int) + 1)] w fun e w' => e = .returned (.tuple #[.agg #[.int .i64 (cN l j), .bool (cL l j)], .bool true]) ∧ Gr w w' := by
  have HR := Lib.hid (cR_at l hj)
  obtain ⟨N, hN⟩ : ∃ N, cN l j = N := ⟨_, rfl⟩
  obtain ⟨C, hC⟩ : ∃ C, cL l j = C := ⟨_, rfl⟩
  rw [hN, hC] at HR ⊢
  have C1 : RowKit.Hid (∀ w, Calls Tryq.prog 91 #[.agg #[.int .i64 N, .bool C]] w fun e w' => e = .returned (.bool true) ∧ Gr w w') := Lib.hid fun w => by
    have := cright_c N C w; rwa [HR.out] at this
  unfold cN at hN
  unfold cL at hC
  have j13 : (j : Int) < 13 := by have := mct_le l; omega
  cases l
  · obtain rfl : (j : Int) + 1 = N := by simpa using hN
    obtain rfl : false = C := by simpa using hC
    clear hN hC hj HR
    go_enter Tryq.func50, Tryq.ntmps50
    go_wp2_with (first | ((go_at_call 91; (with_reducible refine (C1.out _).mono ?_); rintro e wA ⟨rfl, hgwA⟩); have c0 := hgwA.keep (b := w.heap.size) (o := 0) (v := .int .i64 0) (by simp; omega) (by simp [go_sem]); have c1 := hgwA.keep (b := w.heap.size) (o := 1) (v := .bool false) (by simp; omega) (by simp [go_sem]); have f0 := hgwA.thaw (b := w.heap.size) (o := 0) (v := false) (by simp; omega) (by simp [go_sem]); have f1 := hgwA.thaw (b := w.heap.size) (o := 1) (v := false) (by simp; omega) (by simp [go_sem]); have d0 := hgwA.keep (b := w.heap.size + 1) (o := 0) (v := .int .i64 ((j : Int) + 1)) (by simp) (by simp [go_sem]); have d1 := hgwA.keep (b := w.heap.size + 1) (o := 1) (v := .bool false) (by simp) (by simp [go_sem])))
    exact bodyPost_ret (v := .tuple #[.agg #[.int .i64 ((j : Int) + 1), .bool false], .bool true]) (by simp [results, Tryz.results50, go_sem, *]) rfl ⟨rfl, (by repeat (first | exact Gr.refl _ | refine Gr.setCell ?_ _ _ (by first | exact Nat.le_refl _ | (simp; omega) | (simp; done)) | refine Gr.grown ?_ _ _ | refine Gr.drewN ?_ _ | refine Gr.drew ?_ | refine Gr.alloc ?_ _ | refine Gr.grow ?_ _ | (refine Gr.trans ?_ (by assumption))))⟩
  · by_cases h5 : j < 5
    · obtain rfl : (j : Int) + 1 = N := by rw [if_neg (by omega)] at hN; exact hN
      obtain rfl : false = C := by rw [← hC]; simp; omega
      have g5 : (j : Int) + 1 ≤ 5 := by omega
      clear hN hC hj HR
      go_enter Tryq.func50, Tryq.ntmps50
      go_wp2_with (first | ((go_at_call 91; (with_reducible refine (C1.out _).mono ?_); rintro e wA ⟨rfl, hgwA⟩); have c0 := hgwA.keep (b := w.heap.size) (o := 0) (v := .int .i64 0) (by simp; omega) (by simp [go_sem]); have c1 := hgwA.keep (b := w.heap.size) (o := 1) (v := .bool false) (by simp; omega) (by simp [go_sem]); have f0 := hgwA.thaw (b := w.heap.size) (o := 0) (v := false) (by simp; omega) (by simp [go_sem]); have f1 := hgwA.thaw (b := w.heap.size) (o := 1) (v := false) (by simp; omega) (by simp [go_sem]); have d0 := hgwA.keep (b := w.heap.size + 1) (o := 0) (v := .int .i64 ((j : Int) + 1)) (by simp) (by simp [go_sem]); have d1 := hgwA.keep (b := w.heap.size + 1) (o := 1) (v := .bool false) (by simp) (by simp [go_sem])))
      exact bodyPost_ret (v := .tuple #[.agg #[.int .i64 ((j : Int) + 1), .bool false], .bool true]) (by simp [results, Tryz.results50, go_sem, *]) rfl ⟨rfl, (by repeat (first | exact Gr.refl _ | refine Gr.setCell ?_ _ _ (by first | exact Nat.le_refl _ | (simp; omega) | (simp; done)) | refine Gr.grown ?_ _ _ | refine Gr.drewN ?_ _ | refine Gr.drew ?_ | refine Gr.alloc ?_ _ | refine Gr.grow ?_ _ | (refine Gr.trans ?_ (by assumption))))⟩
    · obtain rfl : (j : Int) = N := by rw [if_pos ⟨rfl, by omega⟩] at hN; exact hN
      have g5 : 5 < (j : Int) + 1 := by omega
      by_cases e5 : j = 5
      · obtain rfl : true = C := by rw [← hC]; simp [e5]
        have q6 : ((j : Int) + 1 == 6) = true := beq_iff_eq.2 (by omega)
        clear hN hC hj HR e5 h5
        go_enter Tryq.func50, Tryq.ntmps50
        go_wp2_with (first | ((go_at_call 91; (with_reducible refine (C1.out _).mono ?_); rintro e wA ⟨rfl, hgwA⟩); have c0 := hgwA.keep (b := w.heap.size) (o := 0) (v := .int .i64 0) (by simp; omega) (by simp [go_sem]); have c1 := hgwA.keep (b := w.heap.size) (o := 1) (v := .bool false) (by simp; omega) (by simp [go_sem]); have f0 := hgwA.thaw (b := w.heap.size) (o := 0) (v := false) (by simp; omega) (by simp [go_sem]); have f1 := hgwA.thaw (b := w.heap.size) (o := 1) (v := false) (by simp; omega) (by simp [go_sem]); have d0 := hgwA.keep (b := w.heap.size + 1) (o := 0) (v := .int .i64 (j : Int)) (by simp) (by simp [go_sem]); have d1 := hgwA.keep (b := w.heap.size + 1) (o := 1) (v := .bool true) (by simp) (by simp [go_sem])))
        exact bodyPost_ret (v := .tuple #[.agg #[.int .i64 (j : Int), .bool true], .bool true]) (by simp [results, Tryz.results50, go_sem, *]) rfl ⟨rfl, (by repeat (first | exact Gr.refl _ | refine Gr.setCell ?_ _ _ (by first | exact Nat.le_refl _ | (simp; omega) | (simp; done)) | refine Gr.grown ?_ _ _ | refine Gr.drewN ?_ _ | refine Gr.drew ?_ | refine Gr.alloc ?_ _ | refine Gr.grow ?_ _ | (refine Gr.trans ?_ (by assumption))))⟩
      · obtain rfl : false = C := by rw [← hC]; simp; omega
        have q6 : ((j : Int) + 1 == 6) = false := beq_eq_false_iff_ne.2 (by omega)
        clear hN hC hj HR e5 h5
        go_enter Tryq.func50, Tryq.ntmps50
        go_wp2_with (first | ((go_at_call 91; (with_reducible refine (C1.out _).mono ?_); rintro e wA ⟨rfl, hgwA⟩); have c0 := hgwA.keep (b := w.heap.size) (o := 0) (v := .int .i64 0) (by simp; omega) (by simp [go_sem]); have c1 := hgwA.keep (b := w.heap.size) (o := 1) (v := .bool false) (by simp; omega) (by simp [go_sem]); have f0 := hgwA.thaw (b := w.heap.size) (o := 0) (v := false) (by simp; omega) (by simp [go_sem]); have f1 := hgwA.thaw (b := w.heap.size) (o := 1) (v := false) (by simp; omega) (by simp [go_sem]); have d0 := hgwA.keep (b := w.heap.size + 1) (o := 0) (v := .int .i64 ((j : Int))) (by simp) (by simp [go_sem]); have d1 := hgwA.keep (b := w.heap.size + 1) (o := 1) (v := .bool false) (by simp) (by simp [go_sem])))
        exact bodyPost_ret (v := .tuple #[.agg #[.int .i64 (j : Int), .bool false], .bool true]) (by simp [results, Tryz.results50, go_sem, *]) rfl ⟨rfl, (by repeat (first | exact Gr.refl _ | refine Gr.setCell ?_ _ _ (by first | exact Nat.le_refl _ | (simp; omega) | (simp; done)) | refine Gr.grown ?_ _ _ | refine Gr.drewN ?_ _ | refine Gr.drew ?_ | refine Gr.alloc ?_ _ | refine Gr.grow ?_ _ | (refine Gr.trans ?_ (by assumption))))⟩
set_option maxHeartbeats 2000000 in
theorem cplace_in (l : Bool) (j : Nat) (w : World) (hj : j < mct l) : Calls Tryq.prog 95 #[.bool l, .agg #[.int .i64 (cN l j), .bool (cL l j)]] w fun e w' => e = .returned (.tuple #[.int .i64 ((j : Int) + 1), .bool true]) ∧ Gr w w' := by
  have HR := Lib.hid (cR_at l hj)
  obtain ⟨N, hN⟩ : ∃ N, cN l j = N := ⟨_, rfl⟩
  obtain ⟨C, hC⟩ : ∃ C, cL l j = C := ⟨_, rfl⟩
  rw [hN, hC] at HR ⊢
  have C1 : RowKit.Hid (∀ w, Calls Tryq.prog 91 #[.agg #[.int .i64 N, .bool C]] w fun e w' => e = .returned (.bool true) ∧ Gr w w') := Lib.hid fun w => by
    have := cright_c N C w; rwa [HR.out] at this
  unfold cN at hN
  unfold cL at hC
  have j13 : (j : Int) < 13 := by have := mct_le l; omega
  cases l
  · obtain rfl : (j : Int) + 1 = N := by simpa using hN
    obtain rfl : false = C := by simpa using hC
    clear hN hC hj HR
    go_enter Tryq.func95, Tryq.ntmps95
    go_wp2_with (first | (go_at_call 91; (with_reducible refine (C1.out _).mono ?_); rintro e wA ⟨rfl, hgwA⟩; obtain ⟨hclwA, hfzwA, hszwA⟩ := gcell hgwA; (try simp [Nat.add_one_le_iff] at hszwA); have hlwA_w : w.heap.size < wA.heap.size := (by omega)))
    go_ret2
    exact ⟨rfl, (by repeat (first | exact Gr.refl _ | refine Gr.setCell ?_ _ _ (by first | exact Nat.le_refl _ | (simp; omega) | (simp; done)) | refine Gr.grown ?_ _ _ | refine Gr.drewN ?_ _ | refine Gr.drew ?_ | refine Gr.alloc ?_ _ | refine Gr.grow ?_ _ | (refine Gr.trans ?_ (by assumption))))⟩
  · by_cases h5 : j < 5
    · obtain rfl : (j : Int) + 1 = N := by rw [if_neg (by omega)] at hN; exact hN
      obtain rfl : false = C := by rw [← hC]; simp; omega
      have g5 : (j : Int) + 1 ≤ 5 := by omega
      clear hN hC hj HR
      go_enter Tryq.func95, Tryq.ntmps95
      go_wp2_with (first | (go_at_call 91; (with_reducible refine (C1.out _).mono ?_); rintro e wA ⟨rfl, hgwA⟩; obtain ⟨hclwA, hfzwA, hszwA⟩ := gcell hgwA; (try simp [Nat.add_one_le_iff] at hszwA); have hlwA_w : w.heap.size < wA.heap.size := (by omega)))
      go_ret2
      exact ⟨rfl, (by repeat (first | exact Gr.refl _ | refine Gr.setCell ?_ _ _ (by first | exact Nat.le_refl _ | (simp; omega) | (simp; done)) | refine Gr.grown ?_ _ _ | refine Gr.drewN ?_ _ | refine Gr.drew ?_ | refine Gr.alloc ?_ _ | refine Gr.grow ?_ _ | (refine Gr.trans ?_ (by assumption))))⟩
    · obtain rfl : (j : Int) = N := by rw [if_pos ⟨rfl, by omega⟩] at hN; exact hN
      by_cases e5 : j = 5
      · obtain rfl : true = C := by rw [← hC]; simp [e5]
        clear hN hC hj HR e5 h5
        go_enter Tryq.func95, Tryq.ntmps95
        go_wp2_with (first | (go_at_call 91; (with_reducible refine (C1.out _).mono ?_); rintro e wA ⟨rfl, hgwA⟩; obtain ⟨hclwA, hfzwA, hszwA⟩ := gcell hgwA; (try simp [Nat.add_one_le_iff] at hszwA); have hlwA_w : w.heap.size < wA.heap.size := (by omega)))
        go_ret2
        exact ⟨rfl, (by repeat (first | exact Gr.refl _ | refine Gr.setCell ?_ _ _ (by first | exact Nat.le_refl _ | (simp; omega) | (simp; done)) | refine Gr.grown ?_ _ _ | refine Gr.drewN ?_ _ | refine Gr.drew ?_ | refine Gr.alloc ?_ _ | refine Gr.grow ?_ _ | (refine Gr.trans ?_ (by assumption))))⟩
      · obtain rfl : false = C := by rw [← hC]; simp; omega
        have g5 : 5 < (j : Int) := by omega
        clear hN hC hj HR e5 h5
        go_enter Tryq.func95, Tryq.ntmps95
        go_wp2_with (first | (go_at_call 91; (with_reducible refine (C1.out _).mono ?_); rintro e wA ⟨rfl, hgwA⟩; obtain ⟨hclwA, hfzwA, hszwA⟩ := gcell hgwA; (try simp [Nat.add_one_le_iff] at hszwA); have hlwA_w : w.heap.size < wA.heap.size := (by omega)))
        go_ret2
        exact ⟨rfl, (by repeat (first | exact Gr.refl _ | refine Gr.setCell ?_ _ _ (by first | exact Nat.le_refl _ | (simp; omega) | (simp; done)) | refine Gr.grown ?_ _ _ | refine Gr.drewN ?_ _ | refine Gr.drew ?_ | refine Gr.alloc ?_ _ | refine Gr.grow ?_ _ | (refine Gr.trans ?_ (by assumption))))⟩
set_option maxHeartbeats 2000000 in
theorem cplace_out (l : Bool) (n : Int) (c : Bool) (w : World) (h : cHas l n c = false) : Calls Tryq.prog 95 #[.bool l, .agg #[.int .i64 n, .bool c]] w fun e w' => e = .returned (.tuple #[.int .i64 0, .bool false]) ∧ Gr w w' := by
  unfold cHas at h
  have c1 := fun w => cright_c n c w
  cases hR : cR n c
  · rw [hR] at c1
    have C1 := Lib.hid c1
    clear h hR c1
    go_enter Tryq.func95, Tryq.ntmps95
    go_wp2_with (first | (go_at_call 91; (with_reducible refine (C1.out _).mono ?_); rintro e wA ⟨rfl, hgwA⟩; obtain ⟨hclwA, hfzwA, hszwA⟩ := gcell hgwA; (try simp [Nat.add_one_le_iff] at hszwA); have hlwA_w : w.heap.size < wA.heap.size := (by omega)))
    go_ret2
    exact ⟨rfl, (by repeat (first | exact Gr.refl _ | refine Gr.setCell ?_ _ _ (by first | exact Nat.le_refl _ | (simp; omega) | (simp; done)) | refine Gr.grown ?_ _ _ | refine Gr.drewN ?_ _ | refine Gr.drew ?_ | refine Gr.alloc ?_ _ | refine Gr.grow ?_ _ | (refine Gr.trans ?_ (by assumption))))⟩
  · rw [hR] at c1 h
    have C1 := Lib.hid c1
    cases l <;> cases c <;> simp at h
    clear hR c1
    go_enter Tryq.func95, Tryq.ntmps95
    go_wp2_with (first | (go_at_call 91; (with_reducible refine (C1.out _).mono ?_); rintro e wA ⟨rfl, hgwA⟩; obtain ⟨hclwA, hfzwA, hszwA⟩ := gcell hgwA; (try simp [Nat.add_one_le_iff] at hszwA); have hlwA_w : w.heap.size < wA.heap.size := (by omega)))
    go_ret2
    exact ⟨rfl, (by repeat (first | exact Gr.refl _ | refine Gr.setCell ?_ _ _ (by first | exact Nat.le_refl _ | (simp; omega) | (simp; done)) | refine Gr.grown ?_ _ _ | refine Gr.drewN ?_ _ | refine Gr.drew ?_ | refine Gr.alloc ?_ _ | refine Gr.grow ?_ _ | (refine Gr.trans ?_ (by assumption))))⟩

end Go.Proofs.YtegkbjpcgelomaaGreatDoor.Walks
end
/- The walk of month.of: the table of a type's months. -/
section
namespace Go.Proofs.YtegkbjpcgelomaaGreatDoor.Walks
open Go Go.RowKit Go.Sort Go.Proofs.YtegkbjpcgelomaaGreatDoor.Base Go.Proofs.YtegkbjpcgelomaaGreatDoor.Plain Go.Proofs.YtegkbjpcgelomaaGreatDoor.Math

theorem und_a12 : Tryq.prog.underlying 135 = some (.array 12 3) := by kernel_rfl
set_option maxRecDepth 20000 in
theorem idx_plain (k : Nat) (hk : k < 12) (w : World) : (Instr.index 135 (.agg #[.int .i64 30, .int .i64 29, .int .i64 30, .int .i64 29, .int .i64 30, .int .i64 29, .int .i64 30, .int .i64 29, .int .i64 30, .int .i64 29, .int .i64 30, .int .i64 29]) (.int .i64 (k : Int))).run Tryq.prog w = .ok (.int .i64 (plv k)) w := by
  have hs : ∀ w, (sizeOf 3).run Tryq.prog w = .ok 1 w := fun _ => rfl
  have : k = 0 ∨ k = 1 ∨ k = 2 ∨ k = 3 ∨ k = 4 ∨ k = 5 ∨ k = 6 ∨ k = 7 ∨ k = 8 ∨ k = 9 ∨ k = 10 ∨ k = 11 := by omega
  rcases this with rfl | rfl | rfl | rfl | rfl | rfl | rfl | rfl | rfl | rfl | rfl | rfl <;> simp [Instr.index, run_underlying und_a12, asIntOf, go_sem, plv]

theorem GT.ps {w : World} (G : GT w) : 1 < w.heap.size ∧ w.cell? ⟨1, 0, none⟩ = some (.int .i64 30) ∧ w.cell? ⟨1, 1, none⟩ = some (.int .i64 29) ∧ w.cell? ⟨1, 2, none⟩ = some (.int .i64 30) ∧ w.cell? ⟨1, 3, none⟩ = some (.int .i64 29) ∧ w.cell? ⟨1, 4, none⟩ = some (.int .i64 30) ∧ w.cell? ⟨1, 5, none⟩ = some (.int .i64 29) ∧ w.cell? ⟨1, 6, none⟩ = some (.int .i64 30) ∧ w.cell? ⟨1, 7, none⟩ = some (.int .i64 29) ∧ w.cell? ⟨1, 8, none⟩ = some (.int .i64 30) ∧ w.cell? ⟨1, 9, none⟩ = some (.int .i64 29) ∧ w.cell? ⟨1, 10, none⟩ = some (.int .i64 30) ∧ w.cell? ⟨1, 11, none⟩ = some (.int .i64 29) :=
  ⟨G.lt, G.p 0 (by omega), G.p 1 (by omega), G.p 2 (by omega), G.p 3 (by omega), G.p 4 (by omega), G.p 5 (by omega), G.p 6 (by omega), G.p 7 (by omega), G.p 8 (by omega), G.p 9 (by omega), G.p 10 (by omega), G.p 11 (by omega)⟩

/-- How many months the table has when the loop comes to month m of the plain ones. -/
def cnt (l : Bool) (m : Nat) : Nat := if l = true ∧ 5 < m then m + 1 else m
theorem cnt_step {l : Bool} {m : Nat} (h : ¬ (l = true ∧ m = 5)) : cnt l (m + 1) = cnt l m + 1 := by
  unfold cnt
  cases l <;> simp at * <;> (try split) <;> (try split) <;> omega
theorem cnt_lt {l : Bool} {m : Nat} (h : m < 12) : cnt l m < 13 := by unfold cnt; split <;> omega
theorem cnt_all (l : Bool) : cnt l 12 = mct l := by cases l <;> rfl
theorem mlen_plain {kd : Int} {l : Bool} {m : Nat} (h : m < 12) (h1 : m ≠ 1) (h2 : m ≠ 2) (h5 : ¬ (l = true ∧ m = 5)) : plv m = mlen kd l (cnt l m) := by
  unfold plv mlen cnt
  cases l
  · have a1 : ¬ (m = 0 ∧ False) := by simp
    simp only [Bool.false_eq_true, false_and, if_false, h1, h2]
  · have e5 : m ≠ 5 := fun e => h5 ⟨rfl, e⟩
    by_cases g : 5 < m
    · have a1 : ¬ m + 1 = 5 := by omega
      have a2 : ¬ m + 1 = 1 := by omega
      have a3 : ¬ m + 1 = 2 := by omega
      have a4 : 5 < m + 1 := by omega
      simp only [g, and_self, if_true, a1, a2, a3, a4, and_false, if_false, Nat.add_sub_cancel]
    · simp only [g, e5, h1, h2, and_false, if_false]
theorem mlen_5 (kd : Int) : (30 : Int) = mlen kd true 5 := by simp [mlen]
theorem mlen_6 (kd : Int) : (29 : Int) = mlen kd true 6 := by simp [mlen]
theorem mlen_1y {kd : Int} (l : Bool) (h : kd = 2) : (29 : Int) + 1 = mlen kd l 1 := by subst h; cases l <;> rfl
theorem mlen_1n {kd : Int} (l : Bool) (h : kd ≠ 2) : (29 : Int) = mlen kd l 1 := by cases l <;> simp [mlen, h]
theorem mlen_2y {kd : Int} (l : Bool) (h : kd = 0) : (30 : Int) - 1 = mlen kd l 2 := by subst h; cases l <;> rfl
theorem mlen_2n {kd : Int} (l : Bool) (h : kd ≠ 0) : (30 : Int) = mlen kd l 2 := by cases l <;> simp [mlen, h]

theorem Tab.cs {w : World} {b : Nat} {f : Nat → Int} {n : Nat} (T : Tab w b f n) : w.cell? ⟨b, 0, none⟩ = some (.int .i64 (f 0)) ∧ w.cell? ⟨b, 1, none⟩ = some (.int .i64 (f 1)) ∧ w.cell? ⟨b, 2, none⟩ = some (.int .i64 (f 2)) ∧ w.cell? ⟨b, 3, none⟩ = some (.int .i64 (f 3)) ∧ w.cell? ⟨b, 4, none⟩ = some (.int .i64 (f 4)) ∧ w.cell? ⟨b, 5, none⟩ = some (.int .i64 (f 5)) ∧ w.cell? ⟨b, 6, none⟩ = some (.int .i64 (f 6)) ∧ w.cell? ⟨b, 7, none⟩ = some (.int .i64 (f 7)) ∧ w.cell? ⟨b, 8, none⟩ = some (.int .i64 (f 8)) ∧ w.cell? ⟨b, 9, none⟩ = some (.int .i64 (f 9)) ∧ w.cell? ⟨b, 10, none⟩ = some (.int .i64 (f 10)) ∧ w.cell? ⟨b, 11, none⟩ = some (.int .i64 (f 11)) ∧ w.cell? ⟨b, 12, none⟩ = some (.int .i64 (f 12)) ∧ w.cell? ⟨b, 13, none⟩ = some (.int .i64 (n : Int)) :=
  ⟨T.c 0 (by omega), T.c 1 (by omega), T.c 2 (by omega), T.c 3 (by omega), T.c 4 (by omega), T.c 5 (by omega), T.c 6 (by omega), T.c 7 (by omega), T.c 8 (by omega), T.c 9 (by omega), T.c 10 (by omega), T.c 11 (by omega), T.c 12 (by omega), T.z⟩
theorem Tab.fs {w : World} {b : Nat} {f : Nat → Int} {n : Nat} (T : Tab w b f n) : w.frozen? ⟨b, 0, none⟩ = false ∧ w.frozen? ⟨b, 1, none⟩ = false ∧ w.frozen? ⟨b, 2, none⟩ = false ∧ w.frozen? ⟨b, 3, none⟩ = false ∧ w.frozen? ⟨b, 4, none⟩ = false ∧ w.frozen? ⟨b, 5, none⟩ = false ∧ w.frozen? ⟨b, 6, none⟩ = false ∧ w.frozen? ⟨b, 7, none⟩ = false ∧ w.frozen? ⟨b, 8, none⟩ = false ∧ w.frozen? ⟨b, 9, none⟩ = false ∧ w.frozen? ⟨b, 10, none⟩ = false ∧ w.frozen? ⟨b, 11, none⟩ = false ∧ w.frozen? ⟨b, 12, none⟩ = false ∧ w.frozen? ⟨b, 13, none⟩ = false :=
  ⟨T.fr 0 (by omega), T.fr 1 (by omega), T.fr 2 (by omega), T.fr 3 (by omega), T.fr 4 (by omega), T.fr 5 (by omega), T.fr 6 (by omega), T.fr 7 (by omega), T.fr 8 (by omega), T.fr 9 (by omega), T.fr 10 (by omega), T.fr 11 (by omega), T.fr 12 (by omega), T.fr 13 (by omega)⟩
theorem tab_zero (M : Nat → Int) (l : Bool) (w : World) : Tab (w.alloc (.cells #[.int .i64 0, .int .i64 0, .int .i64 0, .int .i64 0, .int .i64 0, .int .i64 0, .int .i64 0, .int .i64 0, .int .i64 0, .int .i64 0, .int .i64 0, .int .i64 0, .int .i64 0, .int .i64 0] 90)) w.heap.size (tf M (cnt l 0)) (cnt l 0) := by
  have e : cnt l 0 = 0 := by cases l <;> rfl
  rw [e]
  refine ⟨by simp, fun j hj => ?_, by simp [go_sem], fun j hj => by simp [go_sem]⟩
  have : j = 0 ∨ j = 1 ∨ j = 2 ∨ j = 3 ∨ j = 4 ∨ j = 5 ∨ j = 6 ∨ j = 7 ∨ j = 8 ∨ j = 9 ∨ j = 10 ∨ j = 11 ∨ j = 12 := by omega
  rcases this with rfl | rfl | rfl | rfl | rfl | rfl | rfl | rfl | rfl | rfl | rfl | rfl | rfl <;> simp [go_sem, tf]

set_option maxRecDepth 20000 in
set_option maxHeartbeats 4000000 in
theorem mof_in (b kd : Int) (l : Bool) (w : World) (G : GT w) (hk : 0 < knum b kd l) :
    Calls Tryq.prog 46 #[.agg #[.int .i64 b, .int .i64 kd, .bool l]] w fun e w' => e = .returned (.agg #[.int .i64 (tf (mlen kd l) (mct l) 0), .int .i64 (tf (mlen kd l) (mct l) 1), .int .i64 (tf (mlen kd l) (mct l) 2), .int .i64 (tf (mlen kd l) (mct l) 3), .int .i64 (tf (mlen kd l) (mct l) 4), .int .i64 (tf (mlen kd l) (mct l) 5), .int .i64 (tf (mlen kd l) (mct l) 6), .int .i64 (tf (mlen kd l) (mct l) 7), .int .i64 (tf (mlen kd l) (mct l) 8), .int .i64 (tf (mlen kd l) (mct l) 9), .int .i64 (tf (mlen kd l) (mct l) 10), .int .i64 (tf (mlen kd l) (mct l) 11), .int .i64 (tf (mlen kd l) (mct l) 12), .int .i64 ((mct l) : Int)]) ∧ Gr w w' := by
  obtain ⟨M, hM⟩ : ∃ M, mlen kd l = M := ⟨_, rfl⟩
  obtain ⟨K, hK⟩ : ∃ K, knum b kd l = K := ⟨_, rfl⟩
  have kz : (K == 0) = false := beq_eq_false_iff_ne.2 (by omega)
  have C1 : RowKit.Hid (∀ W, Gr w W → Calls Tryq.prog 20 #[.agg #[.int .i64 b, .int .i64 kd, .bool l]] W fun e w' => e = .returned (.int .i64 K) ∧ Gr W w') := Lib.hid fun W hW => by
    have := knumber_c b kd l W (G.t.gr hW); rwa [hK] at this
  have HG := Lib.hid G
  rw [hM]
  clear hK G
  go_enter Tryq.func46, Tryq.ntmps46
  go_wp2_with (first | ((go_at_call 20; (with_reducible refine (C1.out _ ((by repeat (first | exact Gr.refl _ | refine Gr.setCell ?_ _ _ (by first | exact Nat.le_refl _ | (simp; omega) | (simp; done)) | refine Gr.grown ?_ _ _ | refine Gr.drewN ?_ _ | refine Gr.drew ?_ | refine Gr.alloc ?_ _ | refine Gr.grow ?_ _ | (refine Gr.trans ?_ (by assumption)))))).mono ?_); rintro e wA ⟨rfl, hgwA⟩); have k1 := hgwA.keep (b := w.heap.size) (o := 1) (v := .int .i64 kd) (by simp; omega) (by simp [go_sem]); have k2 := hgwA.keep (b := w.heap.size) (o := 2) (v := .bool l) (by simp; omega) (by simp [go_sem]); have l0 : w.heap.size + 1 < wA.heap.size := hgwA.lt (b := w.heap.size + 1) (by simp); have l00 : w.heap.size < wA.heap.size := (by omega); obtain ⟨lt1, p0, p1, p2, p3, p4, p5, p6, p7, p8, p9, p10, p11⟩ := (HG.out.gr (w' := wA) ((by repeat (first | exact Gr.refl _ | refine Gr.setCell ?_ _ _ (by first | exact Nat.le_refl _ | (simp; omega) | (simp; done)) | refine Gr.grown ?_ _ _ | refine Gr.drewN ?_ _ | refine Gr.drew ?_ | refine Gr.alloc ?_ _ | refine Gr.grow ?_ _ | (refine Gr.trans ?_ (by assumption)))))).ps))
  obtain ⟨A, hA⟩ : ∃ A : Array Value, A = #[.int .i64 30, .int .i64 29, .int .i64 30, .int .i64 29, .int .i64 30, .int .i64 29, .int .i64 30, .int .i64 29, .int .i64 30, .int .i64 29, .int .i64 30, .int .i64 29] := ⟨_, rfl⟩
  rw [← hA]
  have HI : RowKit.Hid (∀ k : Nat, k < 12 → ∀ w, (Instr.index 135 (.agg A) (.int .i64 (k : Int))).run Tryq.prog w = .ok (.int .i64 (plv k)) w) := Lib.hid (by rw [hA]; exact idx_plain)
  have T0 : Tab (wA.alloc (.cells #[.int .i64 0, .int .i64 0, .int .i64 0, .int .i64 0, .int .i64 0, .int .i64 0, .int .i64 0, .int .i64 0, .int .i64 0, .int .i64 0, .int .i64 0, .int .i64 0, .int .i64 0, .int .i64 0] 90)) wA.heap.size (tf M (cnt l 0)) (cnt l 0) := tab_zero M l wA
  have TR : Tab (wA.alloc (.cells #[.int .i64 0, .int .i64 0, .int .i64 0, .int .i64 0, .int .i64 0, .int .i64 0, .int .i64 0, .int .i64 0, .int .i64 0, .int .i64 0, .int .i64 0, .int .i64 0, .int .i64 0, .int .i64 0] 90)) (w.heap.size + 1) (tf M 0) 0 := by
    have h := tab_zero M l (w.alloc (.cells #[.int .i64 b, .int .i64 kd, .bool l] 31))
    rw [show cnt l 0 = 0 from by cases l <;> rfl, World.size_alloc] at h
    exact (h.gr hgwA).gr ((Gr.refl _).alloc _)
  have G0 : Gr w (wA.alloc (.cells #[.int .i64 0, .int .i64 0, .int .i64 0, .int .i64 0, .int .i64 0, .int .i64 0, .int .i64 0, .int .i64 0, .int .i64 0, .int .i64 0, .int .i64 0, .int .i64 0, .int .i64 0, .int .i64 0] 90)) := (by repeat (first | exact Gr.refl _ | refine Gr.setCell ?_ _ _ (by first | exact Nat.le_refl _ | (simp; omega) | (simp; done)) | refine Gr.grown ?_ _ _ | refine Gr.drewN ?_ _ | refine Gr.drew ?_ | refine Gr.alloc ?_ _ | refine Gr.grow ?_ _ | (refine Gr.trans ?_ (by assumption))))
  have HM := Lib.hid hM
  clear hA p0 p1 p2 p3 p4 p5 p6 p7 p8 p9 p10 p11 hgwA hM hk
  go_loopg [11] 12 (fun kx s11 wr => ∃ m : Nat, m ≤ 12 ∧ 12 - m ≤ kx ∧ s11 = .int .i64 (m : Int) ∧ Tab wr wA.heap.size (tf M (cnt l m)) (cnt l m) ∧ wr.cell? ⟨w.heap.size, 1, none⟩ = some (.int .i64 kd) ∧ wr.cell? ⟨w.heap.size, 2, none⟩ = some (.bool l) ∧ wA.heap.size < wr.heap.size ∧ Tab wr (w.heap.size + 1) (tf M 0) 0 ∧ Gr w wr)
  case atStart => exact ⟨0, by omega, by omega, rfl, T0, by simp [go_sem, k1, l00], by simp [go_sem, k2, l00], by simp, TR, G0⟩
  case round =>
    obtain ⟨m, hm1, hm, rfl, T, k1, k2, hl, hR, hg⟩ := hrel
    have HR := Lib.hid hR
    clear T0 G0 TR hR
    by_cases e : m < 12
    · have hlt := cnt_lt (l := l) e
      have hidx := HI.out m e
      have pr0 : 29 ≤ plv m := by unfold plv; split <;> omega
      have pr1 : plv m ≤ 30 := by unfold plv; split <;> omega
      by_cases e5 : m = 5 ∧ l = true
      · obtain ⟨e5, rfl⟩ := e5
        have q1 : ((m : Int) == 1) = false := beq_eq_false_iff_ne.2 (by omega)
        have q2 : ((m : Int) == 2) = false := beq_eq_false_iff_ne.2 (by omega)
        have q5 : ((m : Int) == 5) = true := beq_iff_eq.2 (by omega)
        have c5 : cnt true m = 5 := by subst e5; rfl
        have HS : RowKit.Hid (cnt true (m + 1) = 6 + 1) := Lib.hid (by subst e5; rfl)
        have HP : RowKit.Hid ((30 : Int) = M 5) := Lib.hid (by rw [← HM.out]; exact mlen_5 kd)
        have HP6 : RowKit.Hid (plv m = M 6) := Lib.hid (by rw [← HM.out]; subst e5; exact mlen_6 kd)
        rw [c5] at T
        clear hlt c5 e5
        go_wp2_with (first | (go_at_call 86; (with_reducible refine (tadd_c M wA.heap.size 5 30 wr T (by omega) HP.out).mono ?_); rintro e w1 ⟨rfl, T1, g1, o1, z1, f1⟩; have k3 := (o1 w.heap.size 1 (by omega)).trans k1; have k4 := (o1 w.heap.size 2 (by omega)).trans k2) | (go_at_call 86; (with_reducible refine (tadd_c M wA.heap.size 6 (plv m) w1 T1 (by omega) HP6.out).mono ?_); rintro e w2 ⟨rfl, T2, g2, o2, z2, f2⟩))
        go_roundg (12 - (m + 1))
        case measure => omega
        case rel => exact ⟨m + 1, by omega, Nat.le_refl _, by go_num, by rw [HS.out]; exact T2, (o2 _ _ (by omega)).trans k3, (o2 _ _ (by omega)).trans k4, by rw [z2, z1]; exact hl, (HR.out.other (by omega) o1 z1 f1).other (by omega) o2 z2 f2, g2 _ (g1 _ hg (by omega)) (by omega)⟩
      · have HS : RowKit.Hid (cnt l (m + 1) = cnt l m + 1) := Lib.hid (cnt_step fun z => e5 ⟨z.2, z.1⟩)
        by_cases e1 : m = 1
        · have q1 : ((m : Int) == 1) = true := beq_iff_eq.2 (by omega)
          have q2 : ((m : Int) == 2) = false := beq_eq_false_iff_ne.2 (by omega)
          have q5 : ((m : Int) == 5) = false := beq_eq_false_iff_ne.2 (by omega)
          by_cases e2 : kd = 2
          · have HP : RowKit.Hid (plv m + 1 = M (cnt l m)) := Lib.hid (by rw [← HM.out, e1, show cnt l 1 = 1 from by cases l <;> rfl]; exact mlen_1y l e2)
            have qk : (kd == 2) = true := beq_iff_eq.2 e2
            clear e1 e2 e5
            go_wp2_with (first | (go_at_call 86; (with_reducible refine (tadd_c M wA.heap.size (cnt l m) (plv m + 1) wr T hlt HP.out).mono ?_); rintro e w1 ⟨rfl, T1, g1, o1, z1, f1⟩))
            go_roundg (12 - (m + 1))
            case measure => omega
            case rel => exact ⟨m + 1, by omega, Nat.le_refl _, by go_num, by rw [HS.out]; exact T1, (o1 _ _ (by omega)).trans k1, (o1 _ _ (by omega)).trans k2, by rw [z1]; exact hl, HR.out.other (by omega) o1 z1 f1, g1 _ hg (by omega)⟩
          · have HP : RowKit.Hid (plv m = M (cnt l m)) := Lib.hid (by rw [← HM.out, e1, show cnt l 1 = 1 from by cases l <;> rfl]; exact mlen_1n l e2)
            have qk : (kd == 2) = false := beq_eq_false_iff_ne.2 e2
            clear e1 e2 e5
            go_wp2_with (first | (go_at_call 86; (with_reducible refine (tadd_c M wA.heap.size (cnt l m) (plv m) wr T hlt HP.out).mono ?_); rintro e w1 ⟨rfl, T1, g1, o1, z1, f1⟩))
            go_roundg (12 - (m + 1))
            case measure => omega
            case rel => exact ⟨m + 1, by omega, Nat.le_refl _, by go_num, by rw [HS.out]; exact T1, (o1 _ _ (by omega)).trans k1, (o1 _ _ (by omega)).trans k2, by rw [z1]; exact hl, HR.out.other (by omega) o1 z1 f1, g1 _ hg (by omega)⟩
        · by_cases e2 : m = 2
          · have q1 : ((m : Int) == 1) = false := beq_eq_false_iff_ne.2 (by omega)
            have q2 : ((m : Int) == 2) = true := beq_iff_eq.2 (by omega)
            have q5 : ((m : Int) == 5) = false := beq_eq_false_iff_ne.2 (by omega)
            by_cases e3 : kd = 0
            · have HP : RowKit.Hid (plv m - 1 = M (cnt l m)) := Lib.hid (by rw [← HM.out, e2, show cnt l 2 = 2 from by cases l <;> rfl]; exact mlen_2y l e3)
              have qk : (kd == 0) = true := beq_iff_eq.2 e3
              clear e1 e2 e3 e5
              go_wp2_with (first | (go_at_call 86; (with_reducible refine (tadd_c M wA.heap.size (cnt l m) (plv m - 1) wr T hlt HP.out).mono ?_); rintro e w1 ⟨rfl, T1, g1, o1, z1, f1⟩))
              go_roundg (12 - (m + 1))
              case measure => omega
              case rel => exact ⟨m + 1, by omega, Nat.le_refl _, by go_num, by rw [HS.out]; exact T1, (o1 _ _ (by omega)).trans k1, (o1 _ _ (by omega)).trans k2, by rw [z1]; exact hl, HR.out.other (by omega) o1 z1 f1, g1 _ hg (by omega)⟩
            · have HP : RowKit.Hid (plv m = M (cnt l m)) := Lib.hid (by rw [← HM.out, e2, show cnt l 2 = 2 from by cases l <;> rfl]; exact mlen_2n l e3)
              have qk : (kd == 0) = false := beq_eq_false_iff_ne.2 e3
              clear e1 e2 e3 e5
              go_wp2_with (first | (go_at_call 86; (with_reducible refine (tadd_c M wA.heap.size (cnt l m) (plv m) wr T hlt HP.out).mono ?_); rintro e w1 ⟨rfl, T1, g1, o1, z1, f1⟩))
              go_roundg (12 - (m + 1))
              case measure => omega
              case rel => exact ⟨m + 1, by omega, Nat.le_refl _, by go_num, by rw [HS.out]; exact T1, (o1 _ _ (by omega)).trans k1, (o1 _ _ (by omega)).trans k2, by rw [z1]; exact hl, HR.out.other (by omega) o1 z1 f1, g1 _ hg (by omega)⟩
          · have q1 : ((m : Int) == 1) = false := beq_eq_false_iff_ne.2 (by omega)
            have q2 : ((m : Int) == 2) = false := beq_eq_false_iff_ne.2 (by omega)
            have HP : RowKit.Hid (plv m = M (cnt l m)) := Lib.hid (by rw [← HM.out]; exact mlen_plain e e1 e2 fun z => e5 ⟨z.2, z.1⟩)
            by_cases e6 : m = 5
            · have q5 : ((m : Int) == 5) = true := beq_iff_eq.2 (by omega)
              have hl0 : l = false := by cases l <;> simp_all
              subst hl0
              clear e1 e2 e5 e6
              go_wp2_with (first | (go_at_call 86; (with_reducible refine (tadd_c M wA.heap.size (cnt false m) (plv m) wr T hlt HP.out).mono ?_); rintro e w1 ⟨rfl, T1, g1, o1, z1, f1⟩))
              go_roundg (12 - (m + 1))
              case measure => omega
              case rel => exact ⟨m + 1, by omega, Nat.le_refl _, by go_num, by rw [HS.out]; exact T1, (o1 _ _ (by omega)).trans k1, (o1 _ _ (by omega)).trans k2, by rw [z1]; exact hl, HR.out.other (by omega) o1 z1 f1, g1 _ hg (by omega)⟩
            · have q5 : ((m : Int) == 5) = false := beq_eq_false_iff_ne.2 (by omega)
              clear e1 e2 e5 e6
              go_wp2_with (first | (go_at_call 86; (with_reducible refine (tadd_c M wA.heap.size (cnt l m) (plv m) wr T hlt HP.out).mono ?_); rintro e w1 ⟨rfl, T1, g1, o1, z1, f1⟩))
              go_roundg (12 - (m + 1))
              case measure => omega
              case rel => exact ⟨m + 1, by omega, Nat.le_refl _, by go_num, by rw [HS.out]; exact T1, (o1 _ _ (by omega)).trans k1, (o1 _ _ (by omega)).trans k2, by rw [z1]; exact hl, HR.out.other (by omega) o1 z1 f1, g1 _ hg (by omega)⟩
    · obtain rfl : m = 12 := by omega
      rw [cnt_all] at T
      obtain ⟨r0, r1, r2, r3, r4, r5, r6, r7, r8, r9, r10, r11, r12, r13⟩ := HR.out.cs
      obtain ⟨f0, f1, f2, f3, f4, f5, f6, f7, f8, f9, f10, f11, f12, f13⟩ := HR.out.fs
      obtain ⟨t0, t1, t2, t3, t4, t5, t6, t7, t8, t9, t10, t11, t12, t13⟩ := T.cs
      clear T HI HM
      go_wp2
      change bodyPost _ _ _ _ _ (stores wr (w.heap.size + 1) [.int .i64 (tf M (mct l) 0), .int .i64 (tf M (mct l) 1), .int .i64 (tf M (mct l) 2), .int .i64 (tf M (mct l) 3), .int .i64 (tf M (mct l) 4), .int .i64 (tf M (mct l) 5), .int .i64 (tf M (mct l) 6), .int .i64 (tf M (mct l) 7), .int .i64 (tf M (mct l) 8), .int .i64 (tf M (mct l) 9), .int .i64 (tf M (mct l) 10), .int .i64 (tf M (mct l) 11), .int .i64 (tf M (mct l) 12), .int .i64 ((mct l : Nat) : Int)] 0)
      have hF : Gr w (stores wr (w.heap.size + 1) [.int .i64 (tf M (mct l) 0), .int .i64 (tf M (mct l) 1), .int .i64 (tf M (mct l) 2), .int .i64 (tf M (mct l) 3), .int .i64 (tf M (mct l) 4), .int .i64 (tf M (mct l) 5), .int .i64 (tf M (mct l) 6), .int .i64 (tf M (mct l) 7), .int .i64 (tf M (mct l) 8), .int .i64 (tf M (mct l) 9), .int .i64 (tf M (mct l) 10), .int .i64 (tf M (mct l) 11), .int .i64 (tf M (mct l) 12), .int .i64 ((mct l : Nat) : Int)] 0) := stores_gr hg (by omega)
      have cF := stores_cell (w := wr) (b := w.heap.size + 1) (vs := [.int .i64 (tf M (mct l) 0), .int .i64 (tf M (mct l) 1), .int .i64 (tf M (mct l) 2), .int .i64 (tf M (mct l) 3), .int .i64 (tf M (mct l) 4), .int .i64 (tf M (mct l) 5), .int .i64 (tf M (mct l) 6), .int .i64 (tf M (mct l) 7), .int .i64 (tf M (mct l) 8), .int .i64 (tf M (mct l) 9), .int .i64 (tf M (mct l) 10), .int .i64 (tf M (mct l) 11), .int .i64 (tf M (mct l) 12), .int .i64 ((mct l : Nat) : Int)]) (o := 0) (fun j hj => by
        by_cases z : j < 13
        · exact ⟨_, by rw [Nat.zero_add]; exact HR.out.c j z⟩
        · simp at hj
          obtain rfl : j = 13 := by omega
          exact ⟨_, HR.out.z⟩)
      obtain ⟨WF, hWF⟩ : ∃ WF, WF = stores wr (w.heap.size + 1) [.int .i64 (tf M (mct l) 0), .int .i64 (tf M (mct l) 1), .int .i64 (tf M (mct l) 2), .int .i64 (tf M (mct l) 3), .int .i64 (tf M (mct l) 4), .int .i64 (tf M (mct l) 5), .int .i64 (tf M (mct l) 6), .int .i64 (tf M (mct l) 7), .int .i64 (tf M (mct l) 8), .int .i64 (tf M (mct l) 9), .int .i64 (tf M (mct l) 10), .int .i64 (tf M (mct l) 11), .int .i64 (tf M (mct l) 12), .int .i64 ((mct l : Nat) : Int)] 0 := ⟨_, rfl⟩
      rw [← hWF] at cF hF ⊢
      have s0 := cF 0 (by simp)
      have s1 := cF 1 (by simp)
      have s2 := cF 2 (by simp)
      have s3 := cF 3 (by simp)
      have s4 := cF 4 (by simp)
      have s5 := cF 5 (by simp)
      have s6 := cF 6 (by simp)
      have s7 := cF 7 (by simp)
      have s8 := cF 8 (by simp)
      have s9 := cF 9 (by simp)
      have s10 := cF 10 (by simp)
      have s11 := cF 11 (by simp)
      have s12 := cF 12 (by simp)
      have s13 := cF 13 (by simp)
      simp only [Nat.zero_add, List.getElem?_cons_zero, List.getElem?_cons_succ] at s0 s1 s2 s3 s4 s5 s6 s7 s8 s9 s10 s11 s12 s13
      clear cF hWF t0 t1 t2 t3 t4 t5 t6 t7 t8 t9 t10 t11 t12 t13 f0 f1 f2 f3 f4 f5 f6 f7 f8 f9 f10 f11 f12 f13 r0 r1 r2 r3 r4 r5 r6 r7 r8 r9 r10 r11 r12 r13 HR C1 HG k1 k2 kz
      exact bodyPost_ret (v := .agg #[.int .i64 (tf M (mct l) 0), .int .i64 (tf M (mct l) 1), .int .i64 (tf M (mct l) 2), .int .i64 (tf M (mct l) 3), .int .i64 (tf M (mct l) 4), .int .i64 (tf M (mct l) 5), .int .i64 (tf M (mct l) 6), .int .i64 (tf M (mct l) 7), .int .i64 (tf M (mct l) 8), .int .i64 (tf M (mct l) 9), .int .i64 (tf M (mct l) 10), .int .i64 (tf M (mct l) 11), .int .i64 (tf M (mct l) 12), .int .i64 ((mct l) : Int)]) (by simp [results, Tryz.results46, go_sem, s0, s1, s2, s3, s4, s5, s6, s7, s8, s9, s10, s11, s12, s13]) rfl ⟨rfl, hF⟩

end Go.Proofs.YtegkbjpcgelomaaGreatDoor.Walks
end
/- Walks of package month: how many months, a month's days, the days ahead of it, the month of a day. -/
section
namespace Go.Proofs.YtegkbjpcgelomaaGreatDoor.Walks
open Go Go.RowKit Go.Sort Go.Proofs.YtegkbjpcgelomaaGreatDoor.Base Go.Proofs.YtegkbjpcgelomaaGreatDoor.Plain Go.Proofs.YtegkbjpcgelomaaGreatDoor.Math

/-- How many months there are, of a type or of none. -/
def mN (b kd : Int) (l : Bool) : Nat := if 0 < knum b kd l then mct l else 0
theorem mN_le (b kd : Int) (l : Bool) : mN b kd l ≤ 13 := by have := mct_le l; unfold mN; split <;> omega
theorem mN_in {b kd : Int} {l : Bool} (h : 0 < knum b kd l) : mN b kd l = mct l := by unfold mN; rw [if_pos h]
theorem mN_out {b kd : Int} {l : Bool} (h : knum b kd l = 0) : mN b kd l = 0 := by unfold mN; rw [if_neg (by omega)]

set_option maxRecDepth 20000 in
set_option maxHeartbeats 4000000 in
theorem mof_out (b kd : Int) (l : Bool) (w : World) (G : GT w) (hk : knum b kd l = 0) :
    Calls Tryq.prog 46 #[.agg #[.int .i64 b, .int .i64 kd, .bool l]] w fun e w' => e = .returned (.agg #[.int .i64 0, .int .i64 0, .int .i64 0, .int .i64 0, .int .i64 0, .int .i64 0, .int .i64 0, .int .i64 0, .int .i64 0, .int .i64 0, .int .i64 0, .int .i64 0, .int .i64 0, .int .i64 0]) ∧ Gr w w' := by
  have C1 : RowKit.Hid (∀ W, Gr w W → Calls Tryq.prog 20 #[.agg #[.int .i64 b, .int .i64 kd, .bool l]] W fun e w' => e = .returned (.int .i64 0) ∧ Gr W w') := Lib.hid fun W hW => by
    have := knumber_c b kd l W (G.t.gr hW); rwa [hk] at this
  clear hk G
  have TZ := Lib.hid (fun W => tab_zero (fun _ => 0) false W)
  go_enter Tryq.func46, Tryq.ntmps46
  go_wp2_with (first | ((go_at_call 20; (with_reducible refine (C1.out _ ((by repeat (first | exact Gr.refl _ | refine Gr.setCell ?_ _ _ (by first | exact Nat.le_refl _ | (simp; omega) | (simp; done)) | refine Gr.grown ?_ _ _ | refine Gr.drewN ?_ _ | refine Gr.drew ?_ | refine Gr.alloc ?_ _ | refine Gr.grow ?_ _ | (refine Gr.trans ?_ (by assumption)))))).mono ?_); rintro e wA ⟨rfl, hgwA⟩); obtain ⟨r0, r1, r2, r3, r4, r5, r6, r7, r8, r9, r10, r11, r12, r13⟩ := ((TZ.out (w.alloc (.cells #[.int .i64 b, .int .i64 kd, .bool l] 31))).gr hgwA).cs; obtain ⟨f0, f1, f2, f3, f4, f5, f6, f7, f8, f9, f10, f11, f12, f13⟩ := ((TZ.out (w.alloc (.cells #[.int .i64 b, .int .i64 kd, .bool l] 31))).gr hgwA).fs; rw [World.size_alloc] at r0 r1 r2 r3 r4 r5 r6 r7 r8 r9 r10 r11 r12 r13 f0 f1 f2 f3 f4 f5 f6 f7 f8 f9 f10 f11 f12 f13))
  change bodyPost _ _ _ _ _ (stores wA (w.heap.size + 1) [.int .i64 0, .int .i64 0, .int .i64 0, .int .i64 0, .int .i64 0, .int .i64 0, .int .i64 0, .int .i64 0, .int .i64 0, .int .i64 0, .int .i64 0, .int .i64 0, .int .i64 0, .int .i64 0] 0)
  have gA : Gr w wA := (by repeat (first | exact Gr.refl _ | refine Gr.setCell ?_ _ _ (by first | exact Nat.le_refl _ | (simp; omega) | (simp; done)) | refine Gr.grown ?_ _ _ | refine Gr.drewN ?_ _ | refine Gr.drew ?_ | refine Gr.alloc ?_ _ | refine Gr.grow ?_ _ | (refine Gr.trans ?_ (by assumption))))
  have hF : Gr w (stores wA (w.heap.size + 1) [.int .i64 0, .int .i64 0, .int .i64 0, .int .i64 0, .int .i64 0, .int .i64 0, .int .i64 0, .int .i64 0, .int .i64 0, .int .i64 0, .int .i64 0, .int .i64 0, .int .i64 0, .int .i64 0] 0) := stores_gr gA (by omega)
  have cF := stores_cell (w := wA) (b := w.heap.size + 1) (vs := [.int .i64 0, .int .i64 0, .int .i64 0, .int .i64 0, .int .i64 0, .int .i64 0, .int .i64 0, .int .i64 0, .int .i64 0, .int .i64 0, .int .i64 0, .int .i64 0, .int .i64 0, .int .i64 0]) (o := 0) (fun j hj => by
    have T := (TZ.out (w.alloc (.cells #[.int .i64 b, .int .i64 kd, .bool l] 31))).gr hgwA
    rw [World.size_alloc] at T
    by_cases z : j < 13
    · exact ⟨_, by rw [Nat.zero_add]; exact T.c j z⟩
    · simp at hj
      obtain rfl : j = 13 := by omega
      exact ⟨_, T.z⟩)
  obtain ⟨WF, hWF⟩ : ∃ WF, WF = stores wA (w.heap.size + 1) [.int .i64 0, .int .i64 0, .int .i64 0, .int .i64 0, .int .i64 0, .int .i64 0, .int .i64 0, .int .i64 0, .int .i64 0, .int .i64 0, .int .i64 0, .int .i64 0, .int .i64 0, .int .i64 0] 0 := ⟨_, rfl⟩
  rw [← hWF] at cF hF ⊢
  have s0 := cF 0 (by simp)
  have s1 := cF 1 (by simp)
  have s2 := cF 2 (by simp)
  have s3 := cF 3 (by simp)
  have s4 := cF 4 (by simp)
  have s5 := cF 5 (by simp)
  have s6 := cF 6 (by simp)
  have s7 := cF 7 (by simp)
  have s8 := cF 8 (by simp)
  have s9 := cF 9 (by simp)
  have s10 := cF 10 (by simp)
  have s11 := cF 11 (by simp)
  have s12 := cF 12 (by simp)
  have s13 := cF 13 (by simp)
  simp only [Nat.zero_add, List.getElem?_cons_zero, List.getElem?_cons_succ] at s0 s1 s2 s3 s4 s5 s6 s7 s8 s9 s10 s11 s12 s13
  clear cF hWF r0 r1 r2 r3 r4 r5 r6 r7 r8 r9 r10 r11 r12 r13 f0 f1 f2 f3 f4 f5 f6 f7 f8 f9 f10 f11 f12 f13 TZ C1 gA hgwA
  exact bodyPost_ret (v := .agg #[.int .i64 0, .int .i64 0, .int .i64 0, .int .i64 0, .int .i64 0, .int .i64 0, .int .i64 0, .int .i64 0, .int .i64 0, .int .i64 0, .int .i64 0, .int .i64 0, .int .i64 0, .int .i64 0]) (by simp [results, Tryz.results46, go_sem, s0, s1, s2, s3, s4, s5, s6, s7, s8, s9, s10, s11, s12, s13]) rfl ⟨rfl, hF⟩
theorem mof_c (b kd : Int) (l : Bool) (w : World) (G : GT w) :
    Calls Tryq.prog 46 #[.agg #[.int .i64 b, .int .i64 kd, .bool l]] w fun e w' => e = .returned (.agg #[.int .i64 (tf (mlen kd l) (mN b kd l) 0), .int .i64 (tf (mlen kd l) (mN b kd l) 1), .int .i64 (tf (mlen kd l) (mN b kd l) 2), .int .i64 (tf (mlen kd l) (mN b kd l) 3), .int .i64 (tf (mlen kd l) (mN b kd l) 4), .int .i64 (tf (mlen kd l) (mN b kd l) 5), .int .i64 (tf (mlen kd l) (mN b kd l) 6), .int .i64 (tf (mlen kd l) (mN b kd l) 7), .int .i64 (tf (mlen kd l) (mN b kd l) 8), .int .i64 (tf (mlen kd l) (mN b kd l) 9), .int .i64 (tf (mlen kd l) (mN b kd l) 10), .int .i64 (tf (mlen kd l) (mN b kd l) 11), .int .i64 (tf (mlen kd l) (mN b kd l) 12), .int .i64 ((mN b kd l) : Int)]) ∧ Gr w w' := by
  have := knum_range b kd l
  by_cases h : 0 < knum b kd l
  · rw [mN_in h]; exact mof_in b kd l w G h
  · rw [mN_out (by omega)]; simpa [tf] using mof_out b kd l w G (by omega)

theorem tab_new (M : Nat → Int) (n : Nat) (w : World) : Tab (w.alloc (.cells #[.int .i64 (tf M n 0), .int .i64 (tf M n 1), .int .i64 (tf M n 2), .int .i64 (tf M n 3), .int .i64 (tf M n 4), .int .i64 (tf M n 5), .int .i64 (tf M n 6), .int .i64 (tf M n 7), .int .i64 (tf M n 8), .int .i64 (tf M n 9), .int .i64 (tf M n 10), .int .i64 (tf M n 11), .int .i64 (tf M n 12), .int .i64 (n : Int)] 90)) w.heap.size (tf M n) n := by
  refine ⟨by simp, fun j hj => ?_, by simp [go_sem], fun j hj => by simp [go_sem]⟩
  have : j = 0 ∨ j = 1 ∨ j = 2 ∨ j = 3 ∨ j = 4 ∨ j = 5 ∨ j = 6 ∨ j = 7 ∨ j = 8 ∨ j = 9 ∨ j = 10 ∨ j = 11 ∨ j = 12 := by omega
  rcases this with rfl | rfl | rfl | rfl | rfl | rfl | rfl | rfl | rfl | rfl | rfl | rfl | rfl <;> simp [go_sem]

set_option maxRecDepth 20000 in
set_option maxHeartbeats 1000000 in
theorem thas_c (M : Nat → Int) (n : Nat) (m : Int) (w : World) : Calls Tryq.prog 47 #[.agg #[.int .i64 (tf M n 0), .int .i64 (tf M n 1), .int .i64 (tf M n 2), .int .i64 (tf M n 3), .int .i64 (tf M n 4), .int .i64 (tf M n 5), .int .i64 (tf M n 6), .int .i64 (tf M n 7), .int .i64 (tf M n 8), .int .i64 (tf M n 9), .int .i64 (tf M n 10), .int .i64 (tf M n 11), .int .i64 (tf M n 12), .int .i64 (n : Int)], .int .i64 m] w fun e w' => e = .returned (.bool (decide (0 < m ∧ m ≤ n))) ∧ Gr w w' := by
  obtain ⟨B, hB⟩ : ∃ B, decide (0 < m ∧ m ≤ (n : Int)) = B := ⟨_, rfl⟩
  rw [hB]
  by_cases h : 0 < m
  · have E : RowKit.Hid (decide (m ≤ (n : Int)) = B) := Lib.hid (by rw [← hB]; simp [h])
    clear hB
    go_enter Tryq.func47, Tryq.ntmps47
    go_wp2
    go_ret
    exact ⟨retb E.out, (by repeat (first | exact Gr.refl _ | refine Gr.setCell ?_ _ _ (by first | exact Nat.le_refl _ | (simp; omega) | (simp; done)) | refine Gr.grown ?_ _ _ | refine Gr.drewN ?_ _ | refine Gr.drew ?_ | refine Gr.alloc ?_ _ | refine Gr.grow ?_ _ | (refine Gr.trans ?_ (by assumption))))⟩
  · have E : RowKit.Hid (false = B) := Lib.hid (by rw [← hB]; simp [h])
    clear hB
    have h2 : m ≤ 0 := by omega
    clear h
    go_enter Tryq.func47, Tryq.ntmps47
    go_wp2
    go_ret
    exact ⟨retb E.out, (by repeat (first | exact Gr.refl _ | refine Gr.setCell ?_ _ _ (by first | exact Nat.le_refl _ | (simp; omega) | (simp; done)) | refine Gr.grown ?_ _ _ | refine Gr.drewN ?_ _ | refine Gr.drew ?_ | refine Gr.alloc ?_ _ | refine Gr.grow ?_ _ | (refine Gr.trans ?_ (by assumption))))⟩

set_option maxRecDepth 20000 in
theorem field_tab (M : Nat → Int) (n : Nat) : ∀ w, (Instr.field 90 (.agg #[.int .i64 (tf M n 0), .int .i64 (tf M n 1), .int .i64 (tf M n 2), .int .i64 (tf M n 3), .int .i64 (tf M n 4), .int .i64 (tf M n 5), .int .i64 (tf M n 6), .int .i64 (tf M n 7), .int .i64 (tf M n 8), .int .i64 (tf M n 9), .int .i64 (tf M n 10), .int .i64 (tf M n 11), .int .i64 (tf M n 12), .int .i64 (n : Int)]) 1).run Tryq.prog w = .ok (.int .i64 (n : Int)) w := fun w => by
  have hs : ∀ w, (sizeOf 3).run Tryq.prog w = .ok 1 w := fun _ => rfl
  simp [Instr.field, run_underlying Tryq.underlying90, asAgg, go_sem]
set_option maxRecDepth 20000 in
set_option maxHeartbeats 1000000 in
theorem mcount_c (b kd : Int) (l : Bool) (w : World) (G : GT w) : Calls Tryq.prog 58 #[.agg #[.int .i64 b, .int .i64 kd, .bool l]] w fun e w' => e = .returned (.int .i64 (mN b kd l : Int)) ∧ Gr w w' := by
  have C1 : RowKit.Hid (∀ W, Gr w W → Calls Tryq.prog 46 #[.agg #[.int .i64 b, .int .i64 kd, .bool l]] W fun e w' => e = .returned (.agg #[.int .i64 (tf (mlen kd l) (mN b kd l) 0), .int .i64 (tf (mlen kd l) (mN b kd l) 1), .int .i64 (tf (mlen kd l) (mN b kd l) 2), .int .i64 (tf (mlen kd l) (mN b kd l) 3), .int .i64 (tf (mlen kd l) (mN b kd l) 4), .int .i64 (tf (mlen kd l) (mN b kd l) 5), .int .i64 (tf (mlen kd l) (mN b kd l) 6), .int .i64 (tf (mlen kd l) (mN b kd l) 7), .int .i64 (tf (mlen kd l) (mN b kd l) 8), .int .i64 (tf (mlen kd l) (mN b kd l) 9), .int .i64 (tf (mlen kd l) (mN b kd l) 10), .int .i64 (tf (mlen kd l) (mN b kd l) 11), .int .i64 (tf (mlen kd l) (mN b kd l) 12), .int .i64 ((mN b kd l) : Int)]) ∧ Gr W w') := Lib.hid fun W hW => mof_c b kd l W (G.gr hW)
  clear G
  go_enter Tryq.func58, Tryq.ntmps58
  have hfd := field_tab (mlen kd l) (mN b kd l)
  go_wp2_with (first | (go_at_call 46; (with_reducible refine (C1.out _ ((by repeat (first | exact Gr.refl _ | refine Gr.setCell ?_ _ _ (by first | exact Nat.le_refl _ | (simp; omega) | (simp; done)) | refine Gr.grown ?_ _ _ | refine Gr.drewN ?_ _ | refine Gr.drew ?_ | refine Gr.alloc ?_ _ | refine Gr.grow ?_ _ | (refine Gr.trans ?_ (by assumption)))))).mono ?_); rintro e wA ⟨rfl, hgwA⟩))
  go_ret
  exact ⟨rfl, (by repeat (first | exact Gr.refl _ | refine Gr.setCell ?_ _ _ (by first | exact Nat.le_refl _ | (simp; omega) | (simp; done)) | refine Gr.grown ?_ _ _ | refine Gr.drewN ?_ _ | refine Gr.drew ?_ | refine Gr.alloc ?_ _ | refine Gr.grow ?_ _ | (refine Gr.trans ?_ (by assumption))))⟩

set_option maxRecDepth 20000 in
set_option maxHeartbeats 1000000 in
theorem mdays_in (b kd : Int) (l : Bool) (j : Nat) (w : World) (G : GT w) (hj : j < mN b kd l) : Calls Tryq.prog 21 #[.agg #[.int .i64 b, .int .i64 kd, .bool l], .int .i64 ((j : Int) + 1)] w fun e w' => e = .returned (.int .i64 (mlen kd l j)) ∧ Gr w w' := by
  have hN := mN_le b kd l
  have C1 : RowKit.Hid (∀ W, Gr w W → Calls Tryq.prog 46 #[.agg #[.int .i64 b, .int .i64 kd, .bool l]] W fun e w' => e = .returned (.agg #[.int .i64 (tf (mlen kd l) (mN b kd l) 0), .int .i64 (tf (mlen kd l) (mN b kd l) 1), .int .i64 (tf (mlen kd l) (mN b kd l) 2), .int .i64 (tf (mlen kd l) (mN b kd l) 3), .int .i64 (tf (mlen kd l) (mN b kd l) 4), .int .i64 (tf (mlen kd l) (mN b kd l) 5), .int .i64 (tf (mlen kd l) (mN b kd l) 6), .int .i64 (tf (mlen kd l) (mN b kd l) 7), .int .i64 (tf (mlen kd l) (mN b kd l) 8), .int .i64 (tf (mlen kd l) (mN b kd l) 9), .int .i64 (tf (mlen kd l) (mN b kd l) 10), .int .i64 (tf (mlen kd l) (mN b kd l) 11), .int .i64 (tf (mlen kd l) (mN b kd l) 12), .int .i64 ((mN b kd l) : Int)]) ∧ Gr W w') := Lib.hid fun W hW => mof_c b kd l W (G.gr hW)
  obtain ⟨N, hN2⟩ : ∃ N, mN b kd l = N := ⟨_, rfl⟩
  obtain ⟨M, hM⟩ : ∃ M, mlen kd l = M := ⟨_, rfl⟩
  rw [hN2, hM] at C1
  rw [hN2] at hj hN
  rw [hM]
  have EJ : RowKit.Hid (tf M N j = M j) := Lib.hid (by unfold tf; rw [if_pos hj])
  have EB : RowKit.Hid (decide (0 < (j : Int) + 1 ∧ (j : Int) + 1 ≤ N) = true) := Lib.hid (decide_eq_true (by omega))
  have j13 : j < 13 := by omega
  have ji : (j : Int) < 13 := by omega
  have CH := Lib.hid (fun W => thas_c M N ((j : Int) + 1) W)
  rw [EB.out] at CH
  clear G hN2 hM hj hN EB
  go_enter Tryq.func21, Tryq.ntmps21
  go_wp2_with (first | (go_at_call 46; (with_reducible refine (C1.out _ ((by repeat (first | exact Gr.refl _ | refine Gr.setCell ?_ _ _ (by first | exact Nat.le_refl _ | (simp; omega) | (simp; done)) | refine Gr.grown ?_ _ _ | refine Gr.drewN ?_ _ | refine Gr.drew ?_ | refine Gr.alloc ?_ _ | refine Gr.grow ?_ _ | (refine Gr.trans ?_ (by assumption)))))).mono ?_); rintro e wA ⟨rfl, hgwA⟩) | ((go_at_call 47; (with_reducible refine (CH.out _).mono ?_); rintro e wB ⟨rfl, hgwB⟩); have cj := ((tab_new M N wA).gr hgwB).c j j13; rw [EJ.out] at cj))
  go_ret
  exact ⟨rfl, (by repeat (first | exact Gr.refl _ | refine Gr.setCell ?_ _ _ (by first | exact Nat.le_refl _ | (simp; omega) | (simp; done)) | refine Gr.grown ?_ _ _ | refine Gr.drewN ?_ _ | refine Gr.drew ?_ | refine Gr.alloc ?_ _ | refine Gr.grow ?_ _ | (refine Gr.trans ?_ (by assumption))))⟩

end Go.Proofs.YtegkbjpcgelomaaGreatDoor.Walks
end
/- Walks of package month: the days ahead of a month, the month of a day. -/
section
namespace Go.Proofs.YtegkbjpcgelomaaGreatDoor.Walks
open Go Go.RowKit Go.Sort Go.Proofs.YtegkbjpcgelomaaGreatDoor.Base Go.Proofs.YtegkbjpcgelomaaGreatDoor.Plain Go.Proofs.YtegkbjpcgelomaaGreatDoor.Math

set_option maxRecDepth 20000 in
set_option maxHeartbeats 2000000 in
theorem mahead_in (b kd : Int) (l : Bool) (j : Nat) (w : World) (G : GT w) (hj : j < mN b kd l) : Calls Tryq.prog 56 #[.agg #[.int .i64 b, .int .i64 kd, .bool l], .int .i64 ((j : Int) + 1)] w fun e w' => e = .returned (.int .i64 (mah kd l j)) ∧ Gr w w' := by
  have hN := mN_le b kd l
  have C1 : RowKit.Hid (∀ W, Gr w W → Calls Tryq.prog 46 #[.agg #[.int .i64 b, .int .i64 kd, .bool l]] W fun e w' => e = .returned (.agg #[.int .i64 (tf (mlen kd l) (mN b kd l) 0), .int .i64 (tf (mlen kd l) (mN b kd l) 1), .int .i64 (tf (mlen kd l) (mN b kd l) 2), .int .i64 (tf (mlen kd l) (mN b kd l) 3), .int .i64 (tf (mlen kd l) (mN b kd l) 4), .int .i64 (tf (mlen kd l) (mN b kd l) 5), .int .i64 (tf (mlen kd l) (mN b kd l) 6), .int .i64 (tf (mlen kd l) (mN b kd l) 7), .int .i64 (tf (mlen kd l) (mN b kd l) 8), .int .i64 (tf (mlen kd l) (mN b kd l) 9), .int .i64 (tf (mlen kd l) (mN b kd l) 10), .int .i64 (tf (mlen kd l) (mN b kd l) 11), .int .i64 (tf (mlen kd l) (mN b kd l) 12), .int .i64 ((mN b kd l) : Int)]) ∧ Gr W w') := Lib.hid fun W hW => mof_c b kd l W (G.gr hW)
  have HS : RowKit.Hid (∀ k, mah kd l (k + 1) = mah kd l k + mlen kd l k) := Lib.hid fun _ => rfl
  have HR := Lib.hid (mah_range kd l)
  have HL := Lib.hid (mlen_range kd l)
  have HZ : RowKit.Hid (mah kd l 0 = 0) := Lib.hid rfl
  obtain ⟨N, hN2⟩ : ∃ N, mN b kd l = N := ⟨_, rfl⟩
  obtain ⟨S, hS⟩ : ∃ S, mah kd l = S := ⟨_, rfl⟩
  obtain ⟨M, hM⟩ : ∃ M, mlen kd l = M := ⟨_, rfl⟩
  rw [hM] at C1 HS HL
  rw [hS] at HS HR HZ ⊢
  rw [hN2] at C1 hj hN
  have HJ : RowKit.Hid (∀ k, k < N → tf M N k = M k) := Lib.hid fun k hk => by unfold tf; rw [if_pos hk]
  have EB : RowKit.Hid (decide (0 < (j : Int) + 1 ∧ (j : Int) + 1 ≤ N) = true) := Lib.hid (decide_eq_true (by omega))
  have j13 : j < 13 := by omega
  have ji : (j : Int) ≤ 13 := by omega
  have CH := Lib.hid (fun W => thas_c M N ((j : Int) + 1) W)
  rw [EB.out] at CH
  have HN := Lib.hid hN
  have HJN := Lib.hid hj
  clear G hN2 hM hS hj hN EB
  go_enter Tryq.func56, Tryq.ntmps56
  go_wp2_with (first | (go_at_call 46; (with_reducible refine (C1.out _ ((by repeat (first | exact Gr.refl _ | refine Gr.setCell ?_ _ _ (by first | exact Nat.le_refl _ | (simp; omega) | (simp; done)) | refine Gr.grown ?_ _ _ | refine Gr.drewN ?_ _ | refine Gr.drew ?_ | refine Gr.alloc ?_ _ | refine Gr.grow ?_ _ | (refine Gr.trans ?_ (by assumption)))))).mono ?_); rintro e wA ⟨rfl, hgwA⟩) | ((go_at_call 47; (with_reducible refine (CH.out _).mono ?_); rintro e wB ⟨rfl, hgwB⟩); have T := (tab_new M N wA).gr hgwB))
  have GB : Gr w wB := (by repeat (first | exact Gr.refl _ | refine Gr.setCell ?_ _ _ (by first | exact Nat.le_refl _ | (simp; omega) | (simp; done)) | refine Gr.grown ?_ _ _ | refine Gr.drewN ?_ _ | refine Gr.drew ?_ | refine Gr.alloc ?_ _ | refine Gr.grow ?_ _ | (refine Gr.trans ?_ (by assumption))))
  have lA : wA.heap.size < wB.heap.size := T.lt
  clear hgwA hgwB
  go_loopg [6, 20] j (fun kx s6 s20 wr => ∃ k : Nat, k ≤ j ∧ j - k ≤ kx ∧ s6 = .int .i64 (S k) ∧ s20 = .int .i64 (k : Int) ∧ Tab wr wA.heap.size (tf M N) N ∧ Gr w wr)
  case atStart => exact ⟨0, by omega, by omega, by rw [HZ.out], rfl, T, GB⟩
  case round =>
    obtain ⟨k, hk, hm, rfl, rfl, T, hg⟩ := hrel
    have r0 := (HR.out k).1
    have r1 := (HR.out k).2
    by_cases e : k < j
    · have ck := T.c k (by omega)
      rw [HJ.out k (by have := HJN.out; omega)] at ck
      have m0 := (HL.out k).1
      have m1 := (HL.out k).2
      have TD := Lib.hid T
      clear T
      go_wp2
      go_roundg (j - (k + 1))
      case measure => omega
      case rel => exact ⟨k + 1, by omega, Nat.le_refl _, by rw [HS.out], by go_num, TD.out.gr (by repeat (first | exact Gr.refl _ | refine Gr.setCell ?_ _ _ (by first | exact Nat.le_refl _ | (simp; omega) | (simp; done)) | refine Gr.grown ?_ _ _ | refine Gr.drewN ?_ _ | refine Gr.drew ?_ | refine Gr.alloc ?_ _ | refine Gr.grow ?_ _ | (refine Gr.trans ?_ (by assumption)))), (by repeat (first | exact Gr.refl _ | refine Gr.setCell ?_ _ _ (by first | exact Nat.le_refl _ | (simp; omega) | (simp; done)) | refine Gr.grown ?_ _ _ | refine Gr.drewN ?_ _ | refine Gr.drew ?_ | refine Gr.alloc ?_ _ | refine Gr.grow ?_ _ | (refine Gr.trans ?_ (by assumption))))⟩
    · obtain rfl : k = j := by omega
      clear T
      go_wp2
      go_ret
      exact ⟨rfl, (by repeat (first | exact Gr.refl _ | refine Gr.setCell ?_ _ _ (by first | exact Nat.le_refl _ | (simp; omega) | (simp; done)) | refine Gr.grown ?_ _ _ | refine Gr.drewN ?_ _ | refine Gr.drew ?_ | refine Gr.alloc ?_ _ | refine Gr.grow ?_ _ | (refine Gr.trans ?_ (by assumption))))⟩

set_option maxRecDepth 20000 in
set_option maxHeartbeats 2000000 in
theorem mfind_in (b kd : Int) (l : Bool) (j : Nat) (r : Int) (w : World) (G : GT w) (hj : j < mN b kd l) (h0 : mah kd l j < r) (h1 : r ≤ mah kd l (j + 1)) :
    Calls Tryq.prog 49 #[.agg #[.int .i64 b, .int .i64 kd, .bool l], .int .i64 r] w fun e w' => e = .returned (.tuple #[.int .i64 ((j : Int) + 1), .int .i64 (r - mah kd l j), .bool true]) ∧ Gr w w' := by
  have hN := mN_le b kd l
  have C1 : RowKit.Hid (∀ W, Gr w W → Calls Tryq.prog 46 #[.agg #[.int .i64 b, .int .i64 kd, .bool l]] W fun e w' => e = .returned (.agg #[.int .i64 (tf (mlen kd l) (mN b kd l) 0), .int .i64 (tf (mlen kd l) (mN b kd l) 1), .int .i64 (tf (mlen kd l) (mN b kd l) 2), .int .i64 (tf (mlen kd l) (mN b kd l) 3), .int .i64 (tf (mlen kd l) (mN b kd l) 4), .int .i64 (tf (mlen kd l) (mN b kd l) 5), .int .i64 (tf (mlen kd l) (mN b kd l) 6), .int .i64 (tf (mlen kd l) (mN b kd l) 7), .int .i64 (tf (mlen kd l) (mN b kd l) 8), .int .i64 (tf (mlen kd l) (mN b kd l) 9), .int .i64 (tf (mlen kd l) (mN b kd l) 10), .int .i64 (tf (mlen kd l) (mN b kd l) 11), .int .i64 (tf (mlen kd l) (mN b kd l) 12), .int .i64 ((mN b kd l) : Int)]) ∧ Gr W w') := Lib.hid fun W hW => mof_c b kd l W (G.gr hW)
  have HS : RowKit.Hid (∀ k, mah kd l (k + 1) = mah kd l k + mlen kd l k) := Lib.hid fun _ => rfl
  have HR := Lib.hid (mah_range kd l)
  have HL := Lib.hid (mlen_range kd l)
  have HZ : RowKit.Hid (mah kd l 0 = 0) := Lib.hid rfl
  have HM := Lib.hid (fun i k (h : i ≤ k) => mah_le kd l h)
  obtain ⟨N, hN2⟩ : ∃ N, mN b kd l = N := ⟨_, rfl⟩
  obtain ⟨S, hS⟩ : ∃ S, mah kd l = S := ⟨_, rfl⟩
  obtain ⟨M, hM⟩ : ∃ M, mlen kd l = M := ⟨_, rfl⟩
  rw [hM] at C1 HS HL
  rw [hS] at HS HR HZ HM h0 h1 ⊢
  rw [hN2] at C1 hj hN
  have HJ : RowKit.Hid (∀ k, k < N → tf M N k = M k) := Lib.hid fun k hk => by unfold tf; rw [if_pos hk]
  have n13 : (N : Int) ≤ 13 := by omega
  have HJN := Lib.hid hj
  have H0 := Lib.hid h0
  have H1 := Lib.hid h1
  clear G hN2 hM hS hj h0 h1
  go_enter Tryq.func49, Tryq.ntmps49
  go_wp2_with (first | (go_at_call 46; (with_reducible refine (C1.out _ ((by repeat (first | exact Gr.refl _ | refine Gr.setCell ?_ _ _ (by first | exact Nat.le_refl _ | (simp; omega) | (simp; done)) | refine Gr.grown ?_ _ _ | refine Gr.drewN ?_ _ | refine Gr.drew ?_ | refine Gr.alloc ?_ _ | refine Gr.grow ?_ _ | (refine Gr.trans ?_ (by assumption)))))).mono ?_); rintro e wA ⟨rfl, hgwA⟩))
  have T := tab_new M N wA
  have GB : Gr w (wA.alloc (.cells #[.int .i64 (tf M N 0), .int .i64 (tf M N 1), .int .i64 (tf M N 2), .int .i64 (tf M N 3), .int .i64 (tf M N 4), .int .i64 (tf M N 5), .int .i64 (tf M N 6), .int .i64 (tf M N 7), .int .i64 (tf M N 8), .int .i64 (tf M N 9), .int .i64 (tf M N 10), .int .i64 (tf M N 11), .int .i64 (tf M N 12), .int .i64 (N : Int)] 90)) := (by repeat (first | exact Gr.refl _ | refine Gr.setCell ?_ _ _ (by first | exact Nat.le_refl _ | (simp; omega) | (simp; done)) | refine Gr.grown ?_ _ _ | refine Gr.drewN ?_ _ | refine Gr.drew ?_ | refine Gr.alloc ?_ _ | refine Gr.grow ?_ _ | (refine Gr.trans ?_ (by assumption))))
  clear hgwA
  go_loopg [1, 17] j (fun kx s1 s17 wr => ∃ k : Nat, k ≤ j ∧ j - k ≤ kx ∧ s1 = .int .i64 (r - S k) ∧ s17 = .int .i64 (k : Int) ∧ Tab wr wA.heap.size (tf M N) N ∧ Gr w wr)
  case atStart => exact ⟨0, by omega, by omega, by rw [HZ.out]; simp, rfl, T, GB⟩
  case round =>
    obtain ⟨k, hk, hm, rfl, rfl, T, hg⟩ := hrel
    have ck := T.c k (by have := HJN.out; omega)
    rw [HJ.out k (by have := HJN.out; omega)] at ck
    have kN : (k : Int) < N := by have := HJN.out; omega
    have m0 := (HL.out k).1
    have m1 := (HL.out k).2
    have r0 := (HR.out k).1
    have r1 := (HR.out k).2
    have TD := Lib.hid T
    clear T
    have rl : -400 ≤ r ∧ r ≤ 800 := by have := H0.out; have := H1.out; have := (HR.out j).1; have := (HR.out (j + 1)).2; have := HJN.out; omega
    have rl0 := rl.1
    have rl1 := rl.2
    clear rl
    by_cases e : k < j
    · have big : M k < r - S k := by have := HM.out (k + 1) j e; rw [HS.out] at this; have := H0.out; omega
      have pos : 1 ≤ r - S k := by omega
      go_wp2
      go_roundg (j - (k + 1))
      case measure => omega
      case rel => exact ⟨k + 1, by omega, Nat.le_refl _, by rw [HS.out]; congr 1; omega, by go_num, TD.out.gr (by repeat (first | exact Gr.refl _ | refine Gr.setCell ?_ _ _ (by first | exact Nat.le_refl _ | (simp; omega) | (simp; done)) | refine Gr.grown ?_ _ _ | refine Gr.drewN ?_ _ | refine Gr.drew ?_ | refine Gr.alloc ?_ _ | refine Gr.grow ?_ _ | (refine Gr.trans ?_ (by assumption)))), (by repeat (first | exact Gr.refl _ | refine Gr.setCell ?_ _ _ (by first | exact Nat.le_refl _ | (simp; omega) | (simp; done)) | refine Gr.grown ?_ _ _ | refine Gr.drewN ?_ _ | refine Gr.drew ?_ | refine Gr.alloc ?_ _ | refine Gr.grow ?_ _ | (refine Gr.trans ?_ (by assumption))))⟩
    · obtain rfl : k = j := by omega
      have le : r - S k ≤ M k := by have := H1.out; rw [HS.out] at this; omega
      have pos : 1 ≤ r - S k := by have := H0.out; omega
      go_wp2
      go_ret3
      exact ⟨rfl, (by repeat (first | exact Gr.refl _ | refine Gr.setCell ?_ _ _ (by first | exact Nat.le_refl _ | (simp; omega) | (simp; done)) | refine Gr.grown ?_ _ _ | refine Gr.drewN ?_ _ | refine Gr.drew ?_ | refine Gr.alloc ?_ _ | refine Gr.grow ?_ _ | (refine Gr.trans ?_ (by assumption))))⟩

end Go.Proofs.YtegkbjpcgelomaaGreatDoor.Walks
end
/- Each year's type is one of the fourteen: by the kernel's own reckoning. -/
section
namespace Go.Proofs.YtegkbjpcgelomaaGreatDoor.Walks
open Go Go.RowKit Go.Sort Go.Proofs.YtegkbjpcgelomaaGreatDoor.Base Go.Proofs.YtegkbjpcgelomaaGreatDoor.Plain Go.Proofs.YtegkbjpcgelomaaGreatDoor.Math

/-- A year's type is one of the fourteen. -/
def kyOk (k : Nat) : Bool := decide (kix (kb (k + 1)) (kk (k + 1)) (lp (k + 1)) < 14)
theorem ky_all : allB kyOk 9999 = true := by decide +kernel
theorem ky_in {y : Int} (h0 : 1 ≤ y) (h1 : y ≤ 9999) : ∃ i, i < 14 ∧ kb y = kB i ∧ kk y = kK i ∧ lp y = kL i := by
  have h := allB_at ky_all (y - 1).toNat (by omega)
  unfold kyOk at h
  rw [show (((y - 1).toNat : Nat) : Int) + 1 = y from by omega] at h
  have g := of_decide_eq_true h
  exact ⟨_, g, kix_at g⟩

end Go.Proofs.YtegkbjpcgelomaaGreatDoor.Walks
end
