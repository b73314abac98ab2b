/- Walks of chodesh.ahead, Omer, Counted and of the document's answers. -/
import Derived.Test.YtbalbkkimlbecaaDoorCount
import Derived.Test.YtbalbkkimlbecaaDoorChMath
set_option linter.unusedVariables false
set_option linter.unusedSimpArgs false
namespace Go.Proofs.YtbalbkkimlbecaaDoor.Walks
open Go Go.RowKit Go.Sort Go.Proofs.YtbalbkkimlbecaaDoor.Base Go.Proofs.YtbalbkkimlbecaaDoor.Plain Go.Proofs.YtbalbkkimlbecaaDoor.Math

/-- The place of the seventh month. -/
def p7 (l : Bool) : Nat := if l = true then 7 else 6
theorem p7_at (l : Bool) : p7 l < mct l ∧ cN l (p7 l) = 7 ∧ cL l (p7 l) = false := by cases l <;> decide
theorem hv_15 {y : Int} (h0 : 1 ≤ y) (h1 : y ≤ 9999) : HV y (p7 (lp y)) 15 := ⟨h0, h1, (p7_at (lp y)).1, by decide, by have := mlen_range (kk y) (lp y) (p7 (lp y)); omega⟩
/-- The day ahead of the first that is counted. -/
def omS (y : Int) : Int := hd y (p7 (lp y)) 15
theorem omS_range {y : Int} (h0 : 1 ≤ y) (h1 : y ≤ 9999) : -1373427 ≤ omS y ∧ omS y ≤ 2278650 := hd_range (hv_15 h0 h1)
theorem htoday_7 (y : Int) (w : World) (G : GT w) (h0 : 1 ≤ y) (h1 : y ≤ 9999) : Calls Tryd.prog 92 #[.agg #[.int .i64 y, .int .i64 7, .bool false, .int .i64 15]] w fun e w' => e = .returned (.tuple #[.int .i64 (omS y), .int .i64 0]) ∧ Gr w w' := by
  have := htoday_in y (p7 (lp y)) 15 w G (hv_15 h0 h1)
  rwa [(p7_at (lp y)).2.1, (p7_at (lp y)).2.2] at this
theorem htoday_y (y n d : Int) (c : Bool) (w : World) (h : y < 1 ∨ 9999 < y) : Calls Tryd.prog 92 #[.agg #[.int .i64 y, .int .i64 n, .bool c, .int .i64 d]] w fun e w' => e = .returned (.tuple #[.int .i64 0, .int .i64 2]) ∧ Gr w w' :=
  htoday_e _ _ _ _ _ w (by decide) fun W hW => look_e _ _ _ _ _ W (by decide) fun w => find_y y n c w h
theorem r10today_7 (y : Int) (w : World) (h0 : 1 ≤ y) (h1 : y ≤ 9999) : Calls Tryd.prog 22 #[.agg #[.int .i64 y, .int .i64 7, .bool false, .int .i64 15]] w fun e w' => e = .returned (.tuple #[.int .i64 (omS y), .int .i64 0]) ∧ Gr w w' := by
  have := r10today_in y (p7 (lp y)) 15 w (hv_15 h0 h1)
  rwa [(p7_at (lp y)).2.1, (p7_at (lp y)).2.2] at this

set_option maxHeartbeats 1000000 in
theorem chahead_c (y S E : Int) (w : World) (c1 : ∀ W, Gr w W → Calls Tryd.prog 92 #[.agg #[.int .i64 y, .int .i64 7, .bool false, .int .i64 15]] W fun e w' => e = .returned (.tuple #[.int .i64 S, .int .i64 E]) ∧ Gr W w') :
    Calls Tryd.prog 56 #[.int .i64 y] w fun e w' => e = .returned (.tuple #[.int .i64 S, .int .i64 E]) ∧ Gr w w' := by
  have C1 := Lib.hid c1
  clear c1
  go_enter Tryd.func56, Tryd.ntmps56
  go_wp2_with (first | (go_at_call 92; (with_reducible refine (C1.out _ ((by repeat (first | exact Gr.refl _ | refine Gr.setCell ?_ _ _ (by first | exact Nat.le_refl _ | (simp; omega) | (simp; done)) | refine Gr.grown ?_ _ _ | refine Gr.drewN ?_ _ | refine Gr.drew ?_ | refine Gr.alloc ?_ _ | refine Gr.grow ?_ _ | (refine Gr.trans ?_ (by assumption)))))).mono ?_); rintro e wA ⟨rfl, hgwA⟩))
  go_ret2
  exact ⟨rfl, (by repeat (first | exact Gr.refl _ | refine Gr.setCell ?_ _ _ (by first | exact Nat.le_refl _ | (simp; omega) | (simp; done)) | refine Gr.grown ?_ _ _ | refine Gr.drewN ?_ _ | refine Gr.drew ?_ | refine Gr.alloc ?_ _ | refine Gr.grow ?_ _ | (refine Gr.trans ?_ (by assumption))))⟩
theorem chahead_in (y : Int) (w : World) (G : GT w) (h0 : 1 ≤ y) (h1 : y ≤ 9999) : Calls Tryd.prog 56 #[.int .i64 y] w fun e w' => e = .returned (.tuple #[.int .i64 (omS y), .int .i64 0]) ∧ Gr w w' :=
  chahead_c y _ _ w fun W hW => htoday_7 y W (G.gr hW) h0 h1
theorem chahead_out (y : Int) (w : World) (h : y < 1 ∨ 9999 < y) : Calls Tryd.prog 56 #[.int .i64 y] w fun e w' => e = .returned (.tuple #[.int .i64 0, .int .i64 2]) ∧ Gr w w' :=
  chahead_c y _ _ w fun W hW => htoday_y y _ _ _ W h
set_option maxHeartbeats 1000000 in
theorem r19day_in (y : Int) (w : World) (h0 : 1 ≤ y) (h1 : y ≤ 9999) : Calls Tryd.prog 57 #[.int .i64 y, .int .i64 7, .int .i64 15] w fun e w' => e = .returned (.int .i64 (omS y)) ∧ Gr w w' := by
  have C1 := Lib.hid fun W => r10today_7 y W h0 h1
  clear h0 h1
  go_enter Tryd.func57, Tryd.ntmps57
  go_wp2_with (first | (go_at_call 22; (with_reducible refine (C1.out _).mono ?_); rintro e wA ⟨rfl, hgwA⟩))
  go_ret
  exact ⟨rfl, (by repeat (first | exact Gr.refl _ | refine Gr.setCell ?_ _ _ (by first | exact Nat.le_refl _ | (simp; omega) | (simp; done)) | refine Gr.grown ?_ _ _ | refine Gr.drewN ?_ _ | refine Gr.drew ?_ | refine Gr.alloc ?_ _ | refine Gr.grow ?_ _ | (refine Gr.trans ?_ (by assumption))))⟩

/-- What a day is counted as. -/
def omN (n : Int) : Int := if 0 < n ∧ n ≤ 49 then n else 0
set_option maxHeartbeats 2000000 in
theorem omer_core (day y n d S : Int) (c : Bool) (w : World) (s0 : -1373427 ≤ S) (s1 : S ≤ 2278650) (d0 : -1373427 ≤ day) (d1 : day ≤ 2278650)
    (c1 : ∀ W, Gr w W → Calls Tryd.prog 55 #[.int .i64 day] W fun e w' => e = .returned (.tuple #[.agg #[.int .i64 y, .int .i64 n, .bool c, .int .i64 d], .int .i64 0]) ∧ Gr W w')
    (c2 : ∀ W, Gr w W → Calls Tryd.prog 56 #[.int .i64 y] W fun e w' => e = .returned (.tuple #[.int .i64 S, .int .i64 0]) ∧ Gr W w') :
    Calls Tryd.prog 27 #[.int .i64 day] w fun e w' => e = .returned (.tuple #[.int .i64 (omN (day - S)), .int .i64 0]) ∧ Gr w w' := by
  have C1 := Lib.hid c1
  have C2 := Lib.hid c2
  clear c1 c2
  by_cases a : 0 < day - S
  · by_cases b : day - S ≤ 49
    · rw [show omN (day - S) = day - S by unfold omN; rw [if_pos ⟨a, b⟩]]
      go_enter Tryd.func27, Tryd.ntmps27
      go_wp2_with (first | (go_at_call 55; (with_reducible refine (C1.out _ ((by repeat (first | exact Gr.refl _ | refine Gr.setCell ?_ _ _ (by first | exact Nat.le_refl _ | (simp; omega) | (simp; done)) | refine Gr.grown ?_ _ _ | refine Gr.drewN ?_ _ | refine Gr.drew ?_ | refine Gr.alloc ?_ _ | refine Gr.grow ?_ _ | (refine Gr.trans ?_ (by assumption)))))).mono ?_); rintro e wA ⟨rfl, hgwA⟩) | (go_at_call 56; (with_reducible refine (C2.out _ ((by repeat (first | exact Gr.refl _ | refine Gr.setCell ?_ _ _ (by first | exact Nat.le_refl _ | (simp; omega) | (simp; done)) | refine Gr.grown ?_ _ _ | refine Gr.drewN ?_ _ | refine Gr.drew ?_ | refine Gr.alloc ?_ _ | refine Gr.grow ?_ _ | (refine Gr.trans ?_ (by assumption)))))).mono ?_); rintro e wB ⟨rfl, hgwB⟩))
      go_ret2
      exact ⟨rfl, (by repeat (first | exact Gr.refl _ | refine Gr.setCell ?_ _ _ (by first | exact Nat.le_refl _ | (simp; omega) | (simp; done)) | refine Gr.grown ?_ _ _ | refine Gr.drewN ?_ _ | refine Gr.drew ?_ | refine Gr.alloc ?_ _ | refine Gr.grow ?_ _ | (refine Gr.trans ?_ (by assumption))))⟩
    · rw [show omN (day - S) = 0 by unfold omN; rw [if_neg (by omega)]]
      go_enter Tryd.func27, Tryd.ntmps27
      go_wp2_with (first | (go_at_call 55; (with_reducible refine (C1.out _ ((by repeat (first | exact Gr.refl _ | refine Gr.setCell ?_ _ _ (by first | exact Nat.le_refl _ | (simp; omega) | (simp; done)) | refine Gr.grown ?_ _ _ | refine Gr.drewN ?_ _ | refine Gr.drew ?_ | refine Gr.alloc ?_ _ | refine Gr.grow ?_ _ | (refine Gr.trans ?_ (by assumption)))))).mono ?_); rintro e wA ⟨rfl, hgwA⟩) | (go_at_call 56; (with_reducible refine (C2.out _ ((by repeat (first | exact Gr.refl _ | refine Gr.setCell ?_ _ _ (by first | exact Nat.le_refl _ | (simp; omega) | (simp; done)) | refine Gr.grown ?_ _ _ | refine Gr.drewN ?_ _ | refine Gr.drew ?_ | refine Gr.alloc ?_ _ | refine Gr.grow ?_ _ | (refine Gr.trans ?_ (by assumption)))))).mono ?_); rintro e wB ⟨rfl, hgwB⟩))
      go_ret2
      exact ⟨rfl, (by repeat (first | exact Gr.refl _ | refine Gr.setCell ?_ _ _ (by first | exact Nat.le_refl _ | (simp; omega) | (simp; done)) | refine Gr.grown ?_ _ _ | refine Gr.drewN ?_ _ | refine Gr.drew ?_ | refine Gr.alloc ?_ _ | refine Gr.grow ?_ _ | (refine Gr.trans ?_ (by assumption))))⟩
  · rw [show omN (day - S) = 0 by unfold omN; rw [if_neg (by omega)]]
    go_enter Tryd.func27, Tryd.ntmps27
    go_wp2_with (first | (go_at_call 55; (with_reducible refine (C1.out _ ((by repeat (first | exact Gr.refl _ | refine Gr.setCell ?_ _ _ (by first | exact Nat.le_refl _ | (simp; omega) | (simp; done)) | refine Gr.grown ?_ _ _ | refine Gr.drewN ?_ _ | refine Gr.drew ?_ | refine Gr.alloc ?_ _ | refine Gr.grow ?_ _ | (refine Gr.trans ?_ (by assumption)))))).mono ?_); rintro e wA ⟨rfl, hgwA⟩) | (go_at_call 56; (with_reducible refine (C2.out _ ((by repeat (first | exact Gr.refl _ | refine Gr.setCell ?_ _ _ (by first | exact Nat.le_refl _ | (simp; omega) | (simp; done)) | refine Gr.grown ?_ _ _ | refine Gr.drewN ?_ _ | refine Gr.drew ?_ | refine Gr.alloc ?_ _ | refine Gr.grow ?_ _ | (refine Gr.trans ?_ (by assumption)))))).mono ?_); rintro e wB ⟨rfl, hgwB⟩))
    go_ret2
    exact ⟨rfl, (by repeat (first | exact Gr.refl _ | refine Gr.setCell ?_ _ _ (by first | exact Nat.le_refl _ | (simp; omega) | (simp; done)) | refine Gr.grown ?_ _ _ | refine Gr.drewN ?_ _ | refine Gr.drew ?_ | refine Gr.alloc ?_ _ | refine Gr.grow ?_ _ | (refine Gr.trans ?_ (by assumption))))⟩
set_option maxHeartbeats 2000000 in
theorem omer_out (day : Int) (w : World) (h : day < -1373427 ∨ 2278650 < day) : Calls Tryd.prog 27 #[.int .i64 day] w fun e w' => e = .returned (.tuple #[.int .i64 0, .int .i64 2]) ∧ Gr w w' := by
  have C1 := Lib.hid fun W => hfrom_out day W h
  clear h
  go_enter Tryd.func27, Tryd.ntmps27
  go_wp2_with (first | (go_at_call 55; (with_reducible refine (C1.out _).mono ?_); rintro e wA ⟨rfl, hgwA⟩))
  go_ret2
  exact ⟨rfl, (by repeat (first | exact Gr.refl _ | refine Gr.setCell ?_ _ _ (by first | exact Nat.le_refl _ | (simp; omega) | (simp; done)) | refine Gr.grown ?_ _ _ | refine Gr.drewN ?_ _ | refine Gr.drew ?_ | refine Gr.alloc ?_ _ | refine Gr.grow ?_ _ | (refine Gr.trans ?_ (by assumption))))⟩
theorem omer_in {y : Int} {j : Nat} {d day : Int} (h : HV y j d) (e : hd y j d = day) (w : World) (G : GT w) : Calls Tryd.prog 27 #[.int .i64 day] w fun e w' => e = .returned (.tuple #[.int .i64 (omN (day - omS y)), .int .i64 0]) ∧ Gr w w' := by
  have r := hd_range h
  have s := omS_range h.y0 h.y1
  exact omer_core day y _ d _ _ w s.1 s.2 (by omega) (by omega) (fun W hW => hfrom_in y j d day W (G.gr hW) h e) (fun W hW => chahead_in y W (G.gr hW) h.y0 h.y1)
set_option maxHeartbeats 2000000 in
theorem romer_core (day y n d S : Int) (c : Bool) (w : World) (s0 : -1373427 ≤ S) (s1 : S ≤ 2278650) (d0 : -1373427 ≤ day) (d1 : day ≤ 2278650)
    (c1 : ∀ W, Calls Tryd.prog 23 #[.int .i64 day] W fun e w' => e = .returned (.tuple #[.agg #[.int .i64 y, .int .i64 n, .bool c, .int .i64 d], .int .i64 0]) ∧ Gr W w')
    (c2 : ∀ W, Calls Tryd.prog 57 #[.int .i64 y, .int .i64 7, .int .i64 15] W fun e w' => e = .returned (.int .i64 S) ∧ Gr W w') :
    Calls Tryd.prog 28 #[.int .i64 day] w fun e w' => e = .returned (.tuple #[.int .i64 (omN (day - S)), .int .i64 0]) ∧ Gr w w' := by
  have C1 := Lib.hid c1
  have C2 := Lib.hid c2
  clear c1 c2
  by_cases a : 0 < day - S
  · have a2 : ¬ day - S < 1 := by omega
    by_cases b : day - S ≤ 49
    · rw [show omN (day - S) = day - S by unfold omN; rw [if_pos ⟨a, b⟩]]
      have b2 : ¬ 49 < day - S := by omega
      go_enter Tryd.func28, Tryd.ntmps28
      go_wp2_with (first | (go_at_call 23; (with_reducible refine (C1.out _).mono ?_); rintro e wA ⟨rfl, hgwA⟩) | (go_at_call 57; (with_reducible refine (C2.out _).mono ?_); rintro e wB ⟨rfl, hgwB⟩))
      go_ret2
      exact ⟨rfl, (by repeat (first | exact Gr.refl _ | refine Gr.setCell ?_ _ _ (by first | exact Nat.le_refl _ | (simp; omega) | (simp; done)) | refine Gr.grown ?_ _ _ | refine Gr.drewN ?_ _ | refine Gr.drew ?_ | refine Gr.alloc ?_ _ | refine Gr.grow ?_ _ | (refine Gr.trans ?_ (by assumption))))⟩
    · rw [show omN (day - S) = 0 by unfold omN; rw [if_neg (by omega)]]
      have b2 : 49 < day - S := by omega
      go_enter Tryd.func28, Tryd.ntmps28
      go_wp2_with (first | (go_at_call 23; (with_reducible refine (C1.out _).mono ?_); rintro e wA ⟨rfl, hgwA⟩) | (go_at_call 57; (with_reducible refine (C2.out _).mono ?_); rintro e wB ⟨rfl, hgwB⟩))
      go_ret2
      exact ⟨rfl, (by repeat (first | exact Gr.refl _ | refine Gr.setCell ?_ _ _ (by first | exact Nat.le_refl _ | (simp; omega) | (simp; done)) | refine Gr.grown ?_ _ _ | refine Gr.drewN ?_ _ | refine Gr.drew ?_ | refine Gr.alloc ?_ _ | refine Gr.grow ?_ _ | (refine Gr.trans ?_ (by assumption))))⟩
  · rw [show omN (day - S) = 0 by unfold omN; rw [if_neg (by omega)]]
    have a2 : day - S < 1 := by omega
    go_enter Tryd.func28, Tryd.ntmps28
    go_wp2_with (first | (go_at_call 23; (with_reducible refine (C1.out _).mono ?_); rintro e wA ⟨rfl, hgwA⟩) | (go_at_call 57; (with_reducible refine (C2.out _).mono ?_); rintro e wB ⟨rfl, hgwB⟩))
    go_ret2
    exact ⟨rfl, (by repeat (first | exact Gr.refl _ | refine Gr.setCell ?_ _ _ (by first | exact Nat.le_refl _ | (simp; omega) | (simp; done)) | refine Gr.grown ?_ _ _ | refine Gr.drewN ?_ _ | refine Gr.drew ?_ | refine Gr.alloc ?_ _ | refine Gr.grow ?_ _ | (refine Gr.trans ?_ (by assumption))))⟩
set_option maxHeartbeats 2000000 in
theorem romer_out (day : Int) (w : World) (h : day < -1373427 ∨ 2278650 < day) : Calls Tryd.prog 28 #[.int .i64 day] w fun e w' => e = .returned (.tuple #[.int .i64 0, .int .i64 2]) ∧ Gr w w' := by
  have C1 := Lib.hid fun W => r10from_out day W h
  clear h
  go_enter Tryd.func28, Tryd.ntmps28
  go_wp2_with (first | (go_at_call 23; (with_reducible refine (C1.out _).mono ?_); rintro e wA ⟨rfl, hgwA⟩))
  go_ret2
  exact ⟨rfl, (by repeat (first | exact Gr.refl _ | refine Gr.setCell ?_ _ _ (by first | exact Nat.le_refl _ | (simp; omega) | (simp; done)) | refine Gr.grown ?_ _ _ | refine Gr.drewN ?_ _ | refine Gr.drew ?_ | refine Gr.alloc ?_ _ | refine Gr.grow ?_ _ | (refine Gr.trans ?_ (by assumption))))⟩
theorem romer_in {y : Int} {j : Nat} {d day : Int} (h : HV y j d) (e : hd y j d = day) (w : World) : Calls Tryd.prog 28 #[.int .i64 day] w fun e w' => e = .returned (.tuple #[.int .i64 (omN (day - omS y)), .int .i64 0]) ∧ Gr w w' := by
  have r := hd_range h
  have s := omS_range h.y0 h.y1
  exact romer_core day y _ d _ _ w s.1 s.2 (by omega) (by omega) (fun W => r10from_in y j d day W h e) (fun W => r19day_in y W h.y0 h.y1)

/-- Which day is counted so, and its error. -/
def ctE (y n : Int) : Int := if 1 ≤ y ∧ y ≤ 9999 then (if 1 ≤ n ∧ n ≤ 49 then 0 else 1) else 2
def ctN (y n : Int) : Int := if 1 ≤ y ∧ y ≤ 9999 then (if 1 ≤ n ∧ n ≤ 49 then omS y + n else 0) else 0
set_option maxHeartbeats 2000000 in
theorem counted_c (y n : Int) (w : World) (G : GT w) : Calls Tryd.prog 29 #[.int .i64 y, .int .i64 n] w fun e w' => e = .returned (.tuple #[.int .i64 (ctN y n), .int .i64 (ctE y n)]) ∧ Gr w w' := by
  by_cases h : 1 ≤ y ∧ y ≤ 9999
  · have s := omS_range h.1 h.2
    have C1 := Lib.hid fun W (hW : Gr w W) => chahead_in y W (G.gr hW) h.1 h.2
    unfold ctN ctE
    rw [if_pos h, if_pos h]
    clear h G
    obtain ⟨S, hS⟩ : ∃ S, omS y = S := ⟨_, rfl⟩
    rw [hS] at C1 s ⊢
    clear hS
    by_cases a : n < 1
    · rw [if_neg (by omega), if_neg (by omega)]
      go_enter Tryd.func29, Tryd.ntmps29
      go_wp2_with (first | (go_at_call 56; (with_reducible refine (C1.out _ ((by repeat (first | exact Gr.refl _ | refine Gr.setCell ?_ _ _ (by first | exact Nat.le_refl _ | (simp; omega) | (simp; done)) | refine Gr.grown ?_ _ _ | refine Gr.drewN ?_ _ | refine Gr.drew ?_ | refine Gr.alloc ?_ _ | refine Gr.grow ?_ _ | (refine Gr.trans ?_ (by assumption)))))).mono ?_); rintro e wA ⟨rfl, hgwA⟩))
      go_ret2
      exact ⟨rfl, (by repeat (first | exact Gr.refl _ | refine Gr.setCell ?_ _ _ (by first | exact Nat.le_refl _ | (simp; omega) | (simp; done)) | refine Gr.grown ?_ _ _ | refine Gr.drewN ?_ _ | refine Gr.drew ?_ | refine Gr.alloc ?_ _ | refine Gr.grow ?_ _ | (refine Gr.trans ?_ (by assumption))))⟩
    · by_cases b : 49 < n
      · rw [if_neg (by omega), if_neg (by omega)]
        go_enter Tryd.func29, Tryd.ntmps29
        go_wp2_with (first | (go_at_call 56; (with_reducible refine (C1.out _ ((by repeat (first | exact Gr.refl _ | refine Gr.setCell ?_ _ _ (by first | exact Nat.le_refl _ | (simp; omega) | (simp; done)) | refine Gr.grown ?_ _ _ | refine Gr.drewN ?_ _ | refine Gr.drew ?_ | refine Gr.alloc ?_ _ | refine Gr.grow ?_ _ | (refine Gr.trans ?_ (by assumption)))))).mono ?_); rintro e wA ⟨rfl, hgwA⟩))
        go_ret2
        exact ⟨rfl, (by repeat (first | exact Gr.refl _ | refine Gr.setCell ?_ _ _ (by first | exact Nat.le_refl _ | (simp; omega) | (simp; done)) | refine Gr.grown ?_ _ _ | refine Gr.drewN ?_ _ | refine Gr.drew ?_ | refine Gr.alloc ?_ _ | refine Gr.grow ?_ _ | (refine Gr.trans ?_ (by assumption))))⟩
      · rw [if_pos (by omega), if_pos (by omega)]
        go_enter Tryd.func29, Tryd.ntmps29
        go_wp2_with (first | (go_at_call 56; (with_reducible refine (C1.out _ ((by repeat (first | exact Gr.refl _ | refine Gr.setCell ?_ _ _ (by first | exact Nat.le_refl _ | (simp; omega) | (simp; done)) | refine Gr.grown ?_ _ _ | refine Gr.drewN ?_ _ | refine Gr.drew ?_ | refine Gr.alloc ?_ _ | refine Gr.grow ?_ _ | (refine Gr.trans ?_ (by assumption)))))).mono ?_); rintro e wA ⟨rfl, hgwA⟩))
        go_ret2
        exact ⟨rfl, (by repeat (first | exact Gr.refl _ | refine Gr.setCell ?_ _ _ (by first | exact Nat.le_refl _ | (simp; omega) | (simp; done)) | refine Gr.grown ?_ _ _ | refine Gr.drewN ?_ _ | refine Gr.drew ?_ | refine Gr.alloc ?_ _ | refine Gr.grow ?_ _ | (refine Gr.trans ?_ (by assumption))))⟩
  · have C1 := Lib.hid fun W => chahead_out y W (by omega)
    unfold ctN ctE
    rw [if_neg h, if_neg h]
    clear h G
    go_enter Tryd.func29, Tryd.ntmps29
    go_wp2_with (first | (go_at_call 56; (with_reducible refine (C1.out _).mono ?_); rintro e wA ⟨rfl, hgwA⟩))
    go_ret2
    exact ⟨rfl, (by repeat (first | exact Gr.refl _ | refine Gr.setCell ?_ _ _ (by first | exact Nat.le_refl _ | (simp; omega) | (simp; done)) | refine Gr.grown ?_ _ _ | refine Gr.drewN ?_ _ | refine Gr.drew ?_ | refine Gr.alloc ?_ _ | refine Gr.grow ?_ _ | (refine Gr.trans ?_ (by assumption))))⟩
set_option maxHeartbeats 2000000 in
theorem rcounted_c (y n : Int) (w : World) : Calls Tryd.prog 30 #[.int .i64 y, .int .i64 n] w fun e w' => e = .returned (.tuple #[.int .i64 (ctN y n), .int .i64 (ctE y n)]) ∧ Gr w w' := by
  by_cases h : 1 ≤ y ∧ y ≤ 9999
  · have s := omS_range h.1 h.2
    have C1 := Lib.hid fun W => r19day_in y W h.1 h.2
    have C2 : RowKit.Hid (∀ W, Calls Tryd.prog 58 #[.int .i64 y] W fun e w' => e = .returned (.bool true) ∧ Gr W w') := Lib.hid fun W => by
      have := rright7_c y W
      rwa [show kyR y = true from decide_eq_true h] at this
    unfold ctN ctE
    rw [if_pos h, if_pos h]
    clear h
    obtain ⟨S, hS⟩ : ∃ S, omS y = S := ⟨_, rfl⟩
    rw [hS] at C1 s ⊢
    clear hS
    by_cases a : n < 1
    · rw [if_neg (by omega), if_neg (by omega)]
      go_enter Tryd.func30, Tryd.ntmps30
      go_wp2_with (first | (go_at_call 58; (with_reducible refine (C2.out _).mono ?_); rintro e wA ⟨rfl, hgwA⟩) | (go_at_call 57; (with_reducible refine (C1.out _).mono ?_); rintro e wB ⟨rfl, hgwB⟩))
      go_ret2
      exact ⟨rfl, (by repeat (first | exact Gr.refl _ | refine Gr.setCell ?_ _ _ (by first | exact Nat.le_refl _ | (simp; omega) | (simp; done)) | refine Gr.grown ?_ _ _ | refine Gr.drewN ?_ _ | refine Gr.drew ?_ | refine Gr.alloc ?_ _ | refine Gr.grow ?_ _ | (refine Gr.trans ?_ (by assumption))))⟩
    · by_cases b : 49 < n
      · rw [if_neg (by omega), if_neg (by omega)]
        go_enter Tryd.func30, Tryd.ntmps30
        go_wp2_with (first | (go_at_call 58; (with_reducible refine (C2.out _).mono ?_); rintro e wA ⟨rfl, hgwA⟩) | (go_at_call 57; (with_reducible refine (C1.out _).mono ?_); rintro e wB ⟨rfl, hgwB⟩))
        go_ret2
        exact ⟨rfl, (by repeat (first | exact Gr.refl _ | refine Gr.setCell ?_ _ _ (by first | exact Nat.le_refl _ | (simp; omega) | (simp; done)) | refine Gr.grown ?_ _ _ | refine Gr.drewN ?_ _ | refine Gr.drew ?_ | refine Gr.alloc ?_ _ | refine Gr.grow ?_ _ | (refine Gr.trans ?_ (by assumption))))⟩
      · rw [if_pos (by omega), if_pos (by omega)]
        go_enter Tryd.func30, Tryd.ntmps30
        go_wp2_with (first | (go_at_call 58; (with_reducible refine (C2.out _).mono ?_); rintro e wA ⟨rfl, hgwA⟩) | (go_at_call 57; (with_reducible refine (C1.out _).mono ?_); rintro e wB ⟨rfl, hgwB⟩))
        go_ret2
        exact ⟨rfl, (by repeat (first | exact Gr.refl _ | refine Gr.setCell ?_ _ _ (by first | exact Nat.le_refl _ | (simp; omega) | (simp; done)) | refine Gr.grown ?_ _ _ | refine Gr.drewN ?_ _ | refine Gr.drew ?_ | refine Gr.alloc ?_ _ | refine Gr.grow ?_ _ | (refine Gr.trans ?_ (by assumption))))⟩
  · have C2 : RowKit.Hid (∀ W, Calls Tryd.prog 58 #[.int .i64 y] W fun e w' => e = .returned (.bool false) ∧ Gr W w') := Lib.hid fun W => by
      have := rright7_c y W
      rwa [show kyR y = false from decide_eq_false h] at this
    unfold ctN ctE
    rw [if_neg h, if_neg h]
    clear h
    go_enter Tryd.func30, Tryd.ntmps30
    go_wp2_with (first | (go_at_call 58; (with_reducible refine (C2.out _).mono ?_); rintro e wA ⟨rfl, hgwA⟩))
    go_ret2
    exact ⟨rfl, (by repeat (first | exact Gr.refl _ | refine Gr.setCell ?_ _ _ (by first | exact Nat.le_refl _ | (simp; omega) | (simp; done)) | refine Gr.grown ?_ _ _ | refine Gr.drewN ?_ _ | refine Gr.drew ?_ | refine Gr.alloc ?_ _ | refine Gr.grow ?_ _ | (refine Gr.trans ?_ (by assumption))))⟩

end Go.Proofs.YtbalbkkimlbecaaDoor.Walks
