/- Walks of the reference of layer 1: what its functions answer, for whole numbers of 64 bits. -/
import Derived.Test.YtegkbjpcgelomaaGreatDoorZ14
import Derived.Test.YtegkbjpcgelomaaGreatDoorZ15
import Derived.Test.YtegkbjpcgelomaaGreatDoorZ18
import Derived.Test.YtegkbjpcgelomaaGreatDoorZ17
import Derived.Test.YtegkbjpcgelomaaGreatDoorZ21
import Derived.Test.YtegkbjpcgelomaaGreatDoorZ16
import Derived.Test.YtegkbjpcgelomaaGreatDoorVWholeOmer0
set_option linter.unusedVariables false
set_option linter.unusedSimpArgs false
section
namespace Go.Proofs.YtegkbjpcgelomaaGreatDoor.Walks
open Go Go.RowKit Go.Sort Go.Proofs.YtegkbjpcgelomaaGreatDoor.Base Go.Proofs.YtegkbjpcgelomaaGreatDoor.Plain

theorem rleft_c (a b : Int) (w : World) (hb : 0 < b) (h0 : -9223372036854775808 ≤ a) (h1 : a ≤ 9223372036854775807) (hb1 : b ≤ 9223372036854775807) :
    Calls Tryq.prog 71 #[.int .i64 a, .int .i64 b] w fun e w' => e = .returned (.int .i64 (a % b)) ∧ Gr w w' := by
  have f := floor_both a b hb
  have m0 := Int.emod_nonneg a (b := b) (by omega)
  have m1 := Int.emod_lt_of_pos a hb
  have z : (b == 0) = false := beq_eq_false_iff_ne.2 (by omega)
  by_cases h : Int.tmod a b < 0
  · rw [if_pos h, if_pos h] at f
    have E1 : RowKit.Hid (wrap64 (Int.tmod a b + b) = a % b) := Lib.hid (by rw [f.2, w64 (by omega) (by omega)])
    have hd : decide (Int.tmod a b < 0) = true := decide_eq_true h
    clear f m0 m1 h
    go_enter Tryq.func71, Tryq.ntmps71
    go_wp2
    go_ret
    exact ⟨ret1 E1.out, (by repeat (first | exact Gr.refl _ | refine Gr.setCell ?_ _ _ (by first | exact Nat.le_refl _ | (simp; omega) | (simp; done)) | refine Gr.grown ?_ _ _ | refine Gr.drewN ?_ _ | refine Gr.drew ?_ | refine Gr.alloc ?_ _ | refine Gr.grow ?_ _ | (refine Gr.trans ?_ (by assumption))))⟩
  · rw [if_neg h, if_neg h] at f
    have E1 : RowKit.Hid (Int.tmod a b = a % b) := Lib.hid f.2
    have hd : decide (Int.tmod a b < 0) = false := decide_eq_false h
    clear f m0 m1 h
    go_enter Tryq.func71, Tryq.ntmps71
    go_wp2
    go_ret
    exact ⟨ret1 E1.out, (by repeat (first | exact Gr.refl _ | refine Gr.setCell ?_ _ _ (by first | exact Nat.le_refl _ | (simp; omega) | (simp; done)) | refine Gr.grown ?_ _ _ | refine Gr.drewN ?_ _ | refine Gr.drew ?_ | refine Gr.alloc ?_ _ | refine Gr.grow ?_ _ | (refine Gr.trans ?_ (by assumption))))⟩

end Go.Proofs.YtegkbjpcgelomaaGreatDoor.Walks
end
/- Walks of package molad, of what it uses of package halak, and of their references. -/
section
namespace Go.Proofs.YtegkbjpcgelomaaGreatDoor.Walks
open Go Go.RowKit Go.Sort Go.Proofs.YtegkbjpcgelomaaGreatDoor.Base Go.Proofs.YtegkbjpcgelomaaGreatDoor.Plain Go.Proofs.YtegkbjpcgelomaaGreatDoor.Math

/-! ### the references -/
theorem rwd_c (d : Int) (w : World) (h0 : -9223372036854775808 ≤ d) (h1 : d ≤ 9223372036854775807) : Calls Tryq.prog 34 #[.int .i64 d] w fun e w' => e = .returned (.int .i64 (d % 7)) ∧ Gr w w' := by
  go_enter Tryq.func34, Tryq.ntmps34
  go_wp2_with (go_at_call 71; (with_reducible refine (rleft_c d 7 _ (by omega) h0 h1 (by omega)).mono ?_); rintro e w1 ⟨rfl, hg⟩)
  go_ret
  exact ⟨rfl, (by repeat (first | exact Gr.refl _ | refine Gr.setCell ?_ _ _ (by first | exact Nat.le_refl _ | (simp; omega) | (simp; done)) | refine Gr.grown ?_ _ _ | refine Gr.drewN ?_ _ | refine Gr.drew ?_ | refine Gr.alloc ?_ _ | refine Gr.grow ?_ _ | (refine Gr.trans ?_ (by assumption))))⟩

end Go.Proofs.YtegkbjpcgelomaaGreatDoor.Walks
end
/- The days of RoshChodesh in plain numbers: the list that comes month by month. No program in sight. -/
section
namespace Go.Proofs.YtegkbjpcgelomaaGreatDoor.Math
open Go Go.RowKit Go.Proofs.YtegkbjpcgelomaaGreatDoor.Plain Go.Proofs.YtegkbjpcgelomaaGreatDoor.Walks

/-- What months p adds: its first day (but for the year's first), its thirtieth. -/
def chA (kd : Int) (l : Bool) (F : Int) (p : Nat) : List Int := (if p = 0 then [] else [F + mah kd l p]) ++ (if mlen kd l p = 30 then [F + mah kd l p + 29] else [])
/-- The days of the first p months. -/
def chL (kd : Int) (l : Bool) (F : Int) : Nat → List Int
  | 0 => []
  | p + 1 => chL kd l F p ++ chA kd l F p
theorem chA_len (kd : Int) (l : Bool) (F : Int) (p : Nat) : (chA kd l F p).length ≤ 2 := by
  unfold chA
  split <;> split <;> simp
theorem chL_len (kd : Int) (l : Bool) (F : Int) (p : Nat) : (chL kd l F p).length ≤ 2 * p := by
  induction p with
  | zero => simp [chL]
  | succ p ih =>
    have := chA_len kd l F p
    simp only [chL, List.length_append]
    omega
theorem chA_map (kd : Int) (l : Bool) (F : Int) (p : Nat) : chA kd l F p = (chA kd l 0 p).map (fun x => F + x) := by
  unfold chA
  split <;> split <;> simp <;> omega
theorem chL_map (kd : Int) (l : Bool) (F : Int) (p : Nat) : chL kd l F p = (chL kd l 0 p).map (fun x => F + x) := by
  induction p with
  | zero => rfl
  | succ p ih => simp only [chL]; rw [List.map_append, ← ih, ← chA_map]
/-- Event cells: the kind, the day. -/
def evx : List Int → List Value
  | [] => []
  | d :: r => .int .i64 29 :: .int .i64 d :: evx r
theorem evx_append (a b : List Int) : evx (a ++ b) = evx a ++ evx b := by
  induction a with
  | nil => rfl
  | cons x r ih => simp [evx, ih]
theorem evx_len (a : List Int) : (evx a).length = a.length * 2 := by
  induction a with
  | nil => rfl
  | cons x r ih => simp only [evx, List.length_cons, ih]; omega
/-- A cell of a list of events. -/
def evf (L : List Int) (j : Nat) : Value := if j % 2 = 0 then .int .i64 29 else .int .i64 (L.getD (j / 2) 0)
theorem evx_at (L : List Int) (j : Nat) (h : j < L.length * 2) : (evx L)[j]? = some (evf L j) := by
  induction L generalizing j with
  | nil => simp at h
  | cons x r ih =>
    match j, h with
    | 0, _ => rfl
    | 1, _ => rfl
    | j + 2, h =>
      have := ih j (by simp only [List.length_cons] at h; omega)
      show (evx r)[j]? = _
      rw [this]
      unfold evf
      rw [show (j + 2) % 2 = j % 2 by omega, show (j + 2) / 2 = j / 2 + 1 by omega]
      rfl
theorem chL_day {kd : Int} {l : Bool} {F : Int} {p i : Nat} (h : i < (chL kd l 0 p).length) : (chL kd l F p).getD i 0 = F + (chL kd l 0 p).getD i 0 := by
  rw [chL_map]
  simp [List.getD, List.getElem?_map, List.getElem?_eq_getElem h]
theorem chL_size (kd : Int) (l : Bool) (F : Int) (p : Nat) : (chL kd l F p).length = (chL kd l 0 p).length := by rw [chL_map, List.length_map]

/-- What is said of the list of a type's days: each is the first or the thirtieth of a month .. -/
def chOK (kd : Int) (l : Bool) : Bool :=
  let L := chL kd l 0 (mct l)
  decide (11 ≤ L.length) && (decide (L.length ≤ 26) && (List.range L.length).all fun i => (List.range (mct l)).any fun j =>
    (decide (0 < i → L.getD (i - 1) 0 < L.getD i 0)) && ((decide (1 ≤ j) && decide (L.getD i 0 = mah kd l j)) || (decide (mlen kd l j = 30) && (decide (L.getD i 0 = mah kd l j + 29) && (decide (i + 1 < L.length) && decide (L.getD (i + 1) 0 = L.getD i 0 + 1))))))
theorem chOK_all : ∀ l : Bool, chOK 0 l = true ∧ chOK 1 l = true ∧ chOK 2 l = true := by decide +kernel
theorem chOK_of {kd : Int} (l : Bool) (h0 : 0 ≤ kd) (h1 : kd ≤ 2) : chOK kd l = true := by
  have := chOK_all l
  have : kd = 0 ∨ kd = 1 ∨ kd = 2 := by omega
  rcases this with rfl | rfl | rfl
  · exact (chOK_all l).1
  · exact (chOK_all l).2.1
  · exact (chOK_all l).2.2
theorem chL_count {kd : Int} (l : Bool) (F : Int) (h0 : 0 ≤ kd) (h1 : kd ≤ 2) : 11 ≤ (chL kd l F (mct l)).length ∧ (chL kd l F (mct l)).length ≤ 26 := by
  have := chOK_of l h0 h1
  unfold chOK at this
  simp only [Bool.and_eq_true, decide_eq_true_eq] at this
  rw [chL_size]
  exact ⟨this.1, this.2.1⟩
/-- A day of the list: the first (behind the year's first month) or the thirtieth of a month. -/
theorem chL_at {y : Int} (h0 : 1 ≤ y) (h1 : y ≤ 9999) {i : Nat} (h : i < (chL (kk y) (lp y) (fy y) (mct (lp y))).length) : ∃ (j : Nat) (d : Int), HV y j d ∧ (chL (kk y) (lp y) (fy y) (mct (lp y))).getD i 0 = hd y j d ∧
    (0 < i → (chL (kk y) (lp y) (fy y) (mct (lp y))).getD (i - 1) 0 < hd y j d) ∧ ((d = 1 ∧ 1 ≤ j) ∨ (d = 30 ∧ i + 1 < (chL (kk y) (lp y) (fy y) (mct (lp y))).length ∧ (chL (kk y) (lp y) (fy y) (mct (lp y))).getD (i + 1) 0 = hd y j d + 1)) := by
  obtain ⟨-, b, c⟩ := kk_leap h0 h1
  have k := chOK_of (lp y) b c
  unfold chOK at k
  simp only [Bool.and_eq_true, List.all_eq_true, List.mem_range, List.any_eq_true] at k
  rw [chL_size] at h
  obtain ⟨j, hj, m, k⟩ := k.2.2 i h
  have m := of_decide_eq_true m
  simp only [Bool.or_eq_true, Bool.and_eq_true, decide_eq_true_eq] at k
  have lr := mlen_range (kk y) (lp y) j
  have mono : 0 < i → (chL (kk y) (lp y) (fy y) (mct (lp y))).getD (i - 1) 0 < (chL (kk y) (lp y) (fy y) (mct (lp y))).getD i 0 := fun z => by
    have := m z
    rw [chL_day h, chL_day (i := i - 1) (by omega)]
    omega
  rcases k with ⟨k1, k2⟩ | ⟨k1, k2, k3, k4⟩
  · have e : (chL (kk y) (lp y) (fy y) (mct (lp y))).getD i 0 = hd y j 1 := by
      rw [chL_day h, k2]
      unfold hd
      omega
    exact ⟨j, 1, ⟨h0, h1, hj, by decide, by omega⟩, e, fun z => e ▸ mono z, .inl ⟨rfl, k1⟩⟩
  · have e : (chL (kk y) (lp y) (fy y) (mct (lp y))).getD i 0 = hd y j 30 := by
      rw [chL_day h, k2]
      unfold hd
      omega
    refine ⟨j, 30, ⟨h0, h1, hj, by decide, by omega⟩, e, fun z => e ▸ mono z, .inr ⟨rfl, by rw [chL_size]; exact k3, ?_⟩⟩
    rw [← e, chL_day h, chL_day k3]
    omega

end Go.Proofs.YtegkbjpcgelomaaGreatDoor.Math
end
/- Walks of chodesh.ahead, Omer, Counted and of the document's answers. -/
section
namespace Go.Proofs.YtegkbjpcgelomaaGreatDoor.Walks
open Go Go.RowKit Go.Sort Go.Proofs.YtegkbjpcgelomaaGreatDoor.Base Go.Proofs.YtegkbjpcgelomaaGreatDoor.Plain Go.Proofs.YtegkbjpcgelomaaGreatDoor.Math

/-- The place of the seventh month. -/
def p7 (l : Bool) : Nat := if l = true then 7 else 6
theorem p7_at (l : Bool) : p7 l < mct l ∧ cN l (p7 l) = 7 ∧ cL l (p7 l) = false := by cases l <;> decide
theorem hv_15 {y : Int} (h0 : 1 ≤ y) (h1 : y ≤ 9999) : HV y (p7 (lp y)) 15 := ⟨h0, h1, (p7_at (lp y)).1, by decide, by have := mlen_range (kk y) (lp y) (p7 (lp y)); omega⟩
/-- The day ahead of the first that is counted. -/
def omS (y : Int) : Int := hd y (p7 (lp y)) 15
theorem omS_range {y : Int} (h0 : 1 ≤ y) (h1 : y ≤ 9999) : -1373427 ≤ omS y ∧ omS y ≤ 2278650 := hd_range (hv_15 h0 h1)
theorem htoday_7 (y : Int) (w : World) (G : GT w) (h0 : 1 ≤ y) (h1 : y ≤ 9999) : Calls Tryq.prog 24 #[.agg #[.int .i64 y, .int .i64 7, .bool false, .int .i64 15]] w fun e w' => e = .returned (.tuple #[.int .i64 (omS y), .int .i64 0]) ∧ Gr w w' := by
  have := htoday_in y (p7 (lp y)) 15 w G (hv_15 h0 h1)
  rwa [(p7_at (lp y)).2.1, (p7_at (lp y)).2.2] at this
set_option maxHeartbeats 1000000 in
theorem chahead_c (y S E : Int) (w : World) (c1 : ∀ W, Gr w W → Calls Tryq.prog 24 #[.agg #[.int .i64 y, .int .i64 7, .bool false, .int .i64 15]] W fun e w' => e = .returned (.tuple #[.int .i64 S, .int .i64 E]) ∧ Gr W w') :
    Calls Tryq.prog 106 #[.int .i64 y] w fun e w' => e = .returned (.tuple #[.int .i64 S, .int .i64 E]) ∧ Gr w w' := by
  have C1 := Lib.hid c1
  clear c1
  go_enter Tryq.func106, Tryq.ntmps106
  go_wp2_with (first | (go_at_call 24; (with_reducible refine (C1.out _ ((by repeat (first | exact Gr.refl _ | refine Gr.setCell ?_ _ _ (by first | exact Nat.le_refl _ | (simp; omega) | (simp; done)) | refine Gr.grown ?_ _ _ | refine Gr.drewN ?_ _ | refine Gr.drew ?_ | refine Gr.alloc ?_ _ | refine Gr.grow ?_ _ | (refine Gr.trans ?_ (by assumption)))))).mono ?_); rintro e wA ⟨rfl, hgwA⟩))
  go_ret2
  exact ⟨rfl, (by repeat (first | exact Gr.refl _ | refine Gr.setCell ?_ _ _ (by first | exact Nat.le_refl _ | (simp; omega) | (simp; done)) | refine Gr.grown ?_ _ _ | refine Gr.drewN ?_ _ | refine Gr.drew ?_ | refine Gr.alloc ?_ _ | refine Gr.grow ?_ _ | (refine Gr.trans ?_ (by assumption))))⟩
theorem chahead_in (y : Int) (w : World) (G : GT w) (h0 : 1 ≤ y) (h1 : y ≤ 9999) : Calls Tryq.prog 106 #[.int .i64 y] w fun e w' => e = .returned (.tuple #[.int .i64 (omS y), .int .i64 0]) ∧ Gr w w' :=
  chahead_c y _ _ w fun W hW => htoday_7 y W (G.gr hW) h0 h1
/-- What a day is counted as. -/
def omN (n : Int) : Int := if 0 < n ∧ n ≤ 49 then n else 0
set_option maxHeartbeats 2000000 in
theorem omer_core (day y n d S : Int) (c : Bool) (w : World) (s0 : -1373427 ≤ S) (s1 : S ≤ 2278650) (d0 : -1373427 ≤ day) (d1 : day ≤ 2278650)
    (c1 : ∀ W, Gr w W → Calls Tryq.prog 22 #[.int .i64 day] W fun e w' => e = .returned (.tuple #[.agg #[.int .i64 y, .int .i64 n, .bool c, .int .i64 d], .int .i64 0]) ∧ Gr W w')
    (c2 : ∀ W, Gr w W → Calls Tryq.prog 106 #[.int .i64 y] W fun e w' => e = .returned (.tuple #[.int .i64 S, .int .i64 0]) ∧ Gr W w') :
    Calls Tryq.prog 72 #[.int .i64 day] w fun e w' => e = .returned (.tuple #[.int .i64 (omN (day - S)), .int .i64 0]) ∧ Gr w w' := by
  have C1 := Lib.hid c1
  have C2 := Lib.hid c2
  clear c1 c2
  by_cases a : 0 < day - S
  · by_cases b : day - S ≤ 49
    · rw [show omN (day - S) = day - S by unfold omN; rw [if_pos ⟨a, b⟩]]
      go_enter Tryq.func72, Tryq.ntmps72
      go_wp2_with (first | (go_at_call 22; (with_reducible refine (C1.out _ ((by repeat (first | exact Gr.refl _ | refine Gr.setCell ?_ _ _ (by first | exact Nat.le_refl _ | (simp; omega) | (simp; done)) | refine Gr.grown ?_ _ _ | refine Gr.drewN ?_ _ | refine Gr.drew ?_ | refine Gr.alloc ?_ _ | refine Gr.grow ?_ _ | (refine Gr.trans ?_ (by assumption)))))).mono ?_); rintro e wA ⟨rfl, hgwA⟩) | (go_at_call 106; (with_reducible refine (C2.out _ ((by repeat (first | exact Gr.refl _ | refine Gr.setCell ?_ _ _ (by first | exact Nat.le_refl _ | (simp; omega) | (simp; done)) | refine Gr.grown ?_ _ _ | refine Gr.drewN ?_ _ | refine Gr.drew ?_ | refine Gr.alloc ?_ _ | refine Gr.grow ?_ _ | (refine Gr.trans ?_ (by assumption)))))).mono ?_); rintro e wB ⟨rfl, hgwB⟩))
      go_ret2
      exact ⟨rfl, (by repeat (first | exact Gr.refl _ | refine Gr.setCell ?_ _ _ (by first | exact Nat.le_refl _ | (simp; omega) | (simp; done)) | refine Gr.grown ?_ _ _ | refine Gr.drewN ?_ _ | refine Gr.drew ?_ | refine Gr.alloc ?_ _ | refine Gr.grow ?_ _ | (refine Gr.trans ?_ (by assumption))))⟩
    · rw [show omN (day - S) = 0 by unfold omN; rw [if_neg (by omega)]]
      go_enter Tryq.func72, Tryq.ntmps72
      go_wp2_with (first | (go_at_call 22; (with_reducible refine (C1.out _ ((by repeat (first | exact Gr.refl _ | refine Gr.setCell ?_ _ _ (by first | exact Nat.le_refl _ | (simp; omega) | (simp; done)) | refine Gr.grown ?_ _ _ | refine Gr.drewN ?_ _ | refine Gr.drew ?_ | refine Gr.alloc ?_ _ | refine Gr.grow ?_ _ | (refine Gr.trans ?_ (by assumption)))))).mono ?_); rintro e wA ⟨rfl, hgwA⟩) | (go_at_call 106; (with_reducible refine (C2.out _ ((by repeat (first | exact Gr.refl _ | refine Gr.setCell ?_ _ _ (by first | exact Nat.le_refl _ | (simp; omega) | (simp; done)) | refine Gr.grown ?_ _ _ | refine Gr.drewN ?_ _ | refine Gr.drew ?_ | refine Gr.alloc ?_ _ | refine Gr.grow ?_ _ | (refine Gr.trans ?_ (by assumption)))))).mono ?_); rintro e wB ⟨rfl, hgwB⟩))
      go_ret2
      exact ⟨rfl, (by repeat (first | exact Gr.refl _ | refine Gr.setCell ?_ _ _ (by first | exact Nat.le_refl _ | (simp; omega) | (simp; done)) | refine Gr.grown ?_ _ _ | refine Gr.drewN ?_ _ | refine Gr.drew ?_ | refine Gr.alloc ?_ _ | refine Gr.grow ?_ _ | (refine Gr.trans ?_ (by assumption))))⟩
  · rw [show omN (day - S) = 0 by unfold omN; rw [if_neg (by omega)]]
    go_enter Tryq.func72, Tryq.ntmps72
    go_wp2_with (first | (go_at_call 22; (with_reducible refine (C1.out _ ((by repeat (first | exact Gr.refl _ | refine Gr.setCell ?_ _ _ (by first | exact Nat.le_refl _ | (simp; omega) | (simp; done)) | refine Gr.grown ?_ _ _ | refine Gr.drewN ?_ _ | refine Gr.drew ?_ | refine Gr.alloc ?_ _ | refine Gr.grow ?_ _ | (refine Gr.trans ?_ (by assumption)))))).mono ?_); rintro e wA ⟨rfl, hgwA⟩) | (go_at_call 106; (with_reducible refine (C2.out _ ((by repeat (first | exact Gr.refl _ | refine Gr.setCell ?_ _ _ (by first | exact Nat.le_refl _ | (simp; omega) | (simp; done)) | refine Gr.grown ?_ _ _ | refine Gr.drewN ?_ _ | refine Gr.drew ?_ | refine Gr.alloc ?_ _ | refine Gr.grow ?_ _ | (refine Gr.trans ?_ (by assumption)))))).mono ?_); rintro e wB ⟨rfl, hgwB⟩))
    go_ret2
    exact ⟨rfl, (by repeat (first | exact Gr.refl _ | refine Gr.setCell ?_ _ _ (by first | exact Nat.le_refl _ | (simp; omega) | (simp; done)) | refine Gr.grown ?_ _ _ | refine Gr.drewN ?_ _ | refine Gr.drew ?_ | refine Gr.alloc ?_ _ | refine Gr.grow ?_ _ | (refine Gr.trans ?_ (by assumption))))⟩
theorem omer_in {y : Int} {j : Nat} {d day : Int} (h : HV y j d) (e : hd y j d = day) (w : World) (G : GT w) : Calls Tryq.prog 72 #[.int .i64 day] w fun e w' => e = .returned (.tuple #[.int .i64 (omN (day - omS y)), .int .i64 0]) ∧ Gr w w' := by
  have r := hd_range h
  have s := omS_range h.y0 h.y1
  exact omer_core day y _ d _ _ w s.1 s.2 (by omega) (by omega) (fun W hW => hfrom_in y j d day W (G.gr hW) h e) (fun W hW => chahead_in y W (G.gr hW) h.y0 h.y1)
end Go.Proofs.YtegkbjpcgelomaaGreatDoor.Walks
end
/- Walks of chodesh.Of and of the document's answer: the list of a year's days of RoshChodesh; are two lists the same. -/
section
namespace Go.Proofs.YtegkbjpcgelomaaGreatDoor.Walks
open Go Go.RowKit Go.Sort Go.Proofs.YtegkbjpcgelomaaGreatDoor.Base Go.Proofs.YtegkbjpcgelomaaGreatDoor.Plain Go.Proofs.YtegkbjpcgelomaaGreatDoor.Math

/-- What comes of Of: a slice that holds the events. -/
def EvL (L : List Int) (w : World) (e : Ending) (w' : World) : Prop :=
  ∃ g cap, e = .returned (.tuple #[.slice (some ⟨g, 0, none⟩) L.length cap, .int .i64 0]) ∧ Row w' 2 L.length g (evf L) ∧ Gr w w'
theorem chA_30 {kd : Int} {l : Bool} (F : Int) {p : Nat} (h : p ≠ 0) (g : mlen kd l p = 30) : chL kd l F (p + 1) = chL kd l F p ++ [F + mah kd l p] ++ [F + mah kd l p + 29] := by
  simp [chL, chA, h, g]
theorem chA_29 {kd : Int} {l : Bool} (F : Int) {p : Nat} (h : p ≠ 0) (g : mlen kd l p = 29) : chL kd l F (p + 1) = chL kd l F p ++ [F + mah kd l p] := by
  simp [chL, chA, h, g]
theorem chA_0 {kd : Int} {l : Bool} (F : Int) (g : mlen kd l 0 = 30) : chL kd l F (0 + 1) = chL kd l F 0 ++ [F + mah kd l 0 + 29] := by
  simp [chL, chA, g]
theorem mlen_0 (kd : Int) (l : Bool) : mlen kd l 0 = 30 := by simp [mlen]
theorem ev_snoc {L : List Int} {xs : List Int} {x : Int} (h : xs = L ++ [x]) : xs.length = L.length + 1 ∧ evx xs = evx L ++ [.int .i64 29, .int .i64 x] := by
  subst h
  exact ⟨by simp, by rw [evx_append]; rfl⟩
theorem ev_snoc2 {L : List Int} {xs : List Int} {x y : Int} (h : xs = L ++ [x] ++ [y]) : xs.length = L.length + 1 + 1 ∧ evx xs = evx L ++ [.int .i64 29, .int .i64 x] ++ [.int .i64 29, .int .i64 y] := by
  subst h
  exact ⟨by simp, by rw [evx_append, evx_append]; rfl⟩

set_option maxRecDepth 20000 in
set_option maxHeartbeats 8000000 in
theorem chof_in (y : Int) (w : World) (G : GT w) (h0 : 1 ≤ y) (h1 : y ≤ 9999) : Calls Tryq.prog 66 #[.int .i64 y] w (EvL (chL (kk y) (lp y) (fy y) (mct (lp y))) w) := by
  have C1 := Lib.hid fun w => kof_in y w h0 h1
  have C2 := Lib.hid fun w => first_in y w (by omega) (by omega)
  have C3 : RowKit.Hid (∀ W, Gr w W → Calls Tryq.prog 58 #[.agg #[.int .i64 (kb y), .int .i64 (kk y), .bool (lp y)]] W fun e w' => e = .returned (.int .i64 (mct (lp y) : Int)) ∧ Gr W w') := Lib.hid fun W hW => by
    have := mcount_c (kb y) (kk y) (lp y) W (G.gr hW)
    rwa [mN_year h0 h1] at this
  have C4 := Lib.hid fun W (hW : Gr w W) (j : Nat) (hj : j < mct (lp y)) => mdays_in (kb y) (kk y) (lp y) j W (G.gr hW) (by rw [mN_year h0 h1]; exact hj)
  have rF := fy_range (y := y) (by omega) (by omega)
  have rk := kk_leap h0 h1
  have hc := chL_count (lp y) (fy y) rk.2.1 rk.2.2
  clear rk h0 h1 G
  obtain ⟨F, hF⟩ : ∃ F, fy y = F := ⟨_, rfl⟩
  obtain ⟨l, hl⟩ : ∃ l, lp y = l := ⟨_, rfl⟩
  obtain ⟨b, hb⟩ : ∃ b, kb y = b := ⟨_, rfl⟩
  obtain ⟨kd, hk⟩ : ∃ kd, kk y = kd := ⟨_, rfl⟩
  rw [hF] at C2 rF hc ⊢
  rw [hl] at C1 C3 C4 hc ⊢
  rw [hb] at C1 C3 C4
  rw [hk] at C1 C3 C4 hc ⊢
  clear hF hl hb hk
  have hN : mct l ≤ 13 := (mct_le l).2
  go_enter Tryq.func66, Tryq.ntmps66
  go_wp2_with (first | (go_at_call 14; (with_reducible refine (C1.out _).mono ?_); rintro e wA ⟨rfl, hgwA⟩) | (go_at_call 15; (with_reducible refine (C2.out _).mono ?_); rintro e wB ⟨rfl, hgB⟩; have KB := (K3.at wA b kd l).gr hgB; have GB : Gr w wB := (by repeat (first | exact Gr.refl _ | refine Gr.setCell ?_ _ _ (by first | exact Nat.le_refl _ | (simp; omega) | (simp; done)) | refine Gr.grown ?_ _ _ | refine Gr.drewN ?_ _ | refine Gr.drew ?_ | refine Gr.alloc ?_ _ | refine Gr.grow ?_ _ | (refine Gr.trans ?_ (by assumption)))); clear hgB; obtain ⟨lk, e0, e1, e2, i0, i1, i2⟩ := KB) | ((go_at_call 58; (with_reducible refine (C3.out _ ((by repeat (first | exact Gr.refl _ | refine Gr.setCell ?_ _ _ (by first | exact Nat.le_refl _ | (simp; omega) | (simp; done)) | refine Gr.grown ?_ _ _ | refine Gr.drewN ?_ _ | refine Gr.drew ?_ | refine Gr.alloc ?_ _ | refine Gr.grow ?_ _ | (refine Gr.trans ?_ (by assumption)))))).mono ?_); rintro e wC ⟨rfl, hgwC⟩); have KC := (K3.mk lk e0 e1 e2 i0 i1 i2).gr hgwC; have GC : Gr w wC := GB.trans hgwC; clear lk e0 e1 e2 i0 i1 i2 hgwC))
  go_loopg [6, 7, 28] (mct l) (fun kx s6 s7 s28 wr => ∃ (p : Nat) (v : Value), p ≤ mct l ∧ mct l - p ≤ kx ∧ s6 = .int .i64 (F + mah kd l p) ∧ v = s7 ∧ s28 = .int .i64 (p : Int) ∧ wr.ownsRow wC.heap.size 67 2 v (chL kd l F p).length (evx (chL kd l F p)) ∧ Gr wC wr)
  case atStart => exact ⟨0, _, by omega, by omega, by simp [mah], rfl, rfl, World.ownsRow_nil _ _ _ _, Gr.refl _⟩
  case round =>
    obtain ⟨p, v, hp, hm, rfl, rfl, rfl, ho, hg⟩ := hrel
    have hle := chL_len kd l F p
    have rm := mah_range kd l p
    by_cases e : p < mct l
    · have e' : (p : Int) < (mct l : Int) := by omega
      obtain ⟨lk, e0, e1, e2, i0, i1, i2⟩ := KC.gr hg
      have CD := Lib.hid fun W (hW : Gr w W) => C4.out W hW p e
      have EM : F + mah kd l (p + 1) = F + mah kd l p + mlen kd l p := by simp only [mah]; omega
      by_cases ez : p = 0
      · subst ez
        have CD : RowKit.Hid (∀ W, Gr w W → Calls Tryq.prog 21 #[.agg #[.int .i64 b, .int .i64 kd, .bool l], .int .i64 1] W fun e w' => e = .returned (.int .i64 30) ∧ Gr W w') := Lib.hid fun W hW => by
          have := CD.out W hW
          rw [mlen_0] at this
          exact this
        rw [mlen_0] at EM
        have EM := Lib.hid EM
        have E1 := Lib.hid (ev_snoc (chA_0 F (mlen_0 kd l)))
        go_wp2_with (first | ((go_at_call 21; (with_reducible refine (CD.out _ ((by repeat (first | exact Gr.refl _ | refine Gr.setCell ?_ _ _ (by first | exact Nat.le_refl _ | (simp; omega) | (simp; done)) | refine Gr.grown ?_ _ _ | refine Gr.drewN ?_ _ | refine Gr.drew ?_ | refine Gr.alloc ?_ _ | refine Gr.grow ?_ _ | (refine Gr.trans ?_ (by assumption)))))).mono ?_); rintro e wD ⟨rfl, hgwD⟩); have OD := own_gr ho hgwD; have GD : Gr wC wD := Gr.trans hg hgwD; have hsD := GD.size; clear ho hgwD lk e0 e1 e2 i0 i1 i2) | (at_builtin; refine append_evs _ rfl _ _ rfl wC.heap.size v _ _ rfl (OD.alloc _) _ 1 [.int .i64 29, .int .i64 (F + mah kd l 0 + 29)] rfl rfl (news2 rfl _ _ _) (by simp [Value.oneCell']) (by omega) (by simp; omega) ?_; intro g1 c1 wX OX kX bX GX_; have GX : Gr wC wX := GX_ wC ((by repeat (first | exact Gr.refl _ | refine Gr.setCell ?_ _ _ (by first | exact Nat.le_refl _ | (simp; omega) | (simp; done)) | refine Gr.grown ?_ _ _ | refine Gr.drewN ?_ _ | refine Gr.drew ?_ | refine Gr.alloc ?_ _ | refine Gr.grow ?_ _ | (refine Gr.trans ?_ (by assumption))))) (Nat.le_refl _); have hsX := GX.size; clear OD))
        go_roundg (mct l - (0 + 1))
        case measure => omega
        case rel => exact ⟨0 + 1, _, by omega, Nat.le_refl _, by rw [EM.out], rfl, by go_num, by rw [E1.out.1, E1.out.2]; exact OX, GX⟩
      · have q0 : (0 : Int) < (p : Int) := by omega
        have q1 : 0 < p := by omega
        by_cases z : mlen kd l p = 30
        · have E1 := Lib.hid (ev_snoc2 (chA_30 F ez z))
          rw [z] at CD EM
          have EM := Lib.hid EM
          clear z ez
          go_wp2_with (first | ((go_at_call 21; (with_reducible refine (CD.out _ ((by repeat (first | exact Gr.refl _ | refine Gr.setCell ?_ _ _ (by first | exact Nat.le_refl _ | (simp; omega) | (simp; done)) | refine Gr.grown ?_ _ _ | refine Gr.drewN ?_ _ | refine Gr.drew ?_ | refine Gr.alloc ?_ _ | refine Gr.grow ?_ _ | (refine Gr.trans ?_ (by assumption)))))).mono ?_); rintro e wD ⟨rfl, hgwD⟩); have OD := own_gr ho hgwD; have GD : Gr wC wD := Gr.trans hg hgwD; have hsD := GD.size; clear ho hgwD lk e0 e1 e2 i0 i1 i2) | (at_builtin; refine append_evs _ rfl _ _ rfl wC.heap.size v _ _ rfl (OD.alloc _) _ 1 [.int .i64 29, .int .i64 (F + mah kd l p)] rfl rfl (news2 rfl _ _ _) (by simp [Value.oneCell']) (by omega) (by simp; omega) ?_; intro g1 c1 wX OX kX bX GX_; have GX : Gr wC wX := GX_ wC ((by repeat (first | exact Gr.refl _ | refine Gr.setCell ?_ _ _ (by first | exact Nat.le_refl _ | (simp; omega) | (simp; done)) | refine Gr.grown ?_ _ _ | refine Gr.drewN ?_ _ | refine Gr.drew ?_ | refine Gr.alloc ?_ _ | refine Gr.grow ?_ _ | (refine Gr.trans ?_ (by assumption))))) (Nat.le_refl _); have hsX := GX.size; clear OD) | (at_builtin; refine append_evs _ rfl _ _ rfl wC.heap.size _ _ _ rfl (OX.alloc _) _ 1 [.int .i64 29, .int .i64 (F + mah kd l p + 29)] rfl rfl (news2 rfl _ _ _) (by simp [Value.oneCell']) (by omega) (by simp; omega) ?_; intro g2 c2 wY OY kY bY GY_; have GY : Gr wC wY := GY_ wC ((by repeat (first | exact Gr.refl _ | refine Gr.setCell ?_ _ _ (by first | exact Nat.le_refl _ | (simp; omega) | (simp; done)) | refine Gr.grown ?_ _ _ | refine Gr.drewN ?_ _ | refine Gr.drew ?_ | refine Gr.alloc ?_ _ | refine Gr.grow ?_ _ | (refine Gr.trans ?_ (by assumption))))) (Nat.le_refl _); have hsY := GY.size; clear OX))
          go_roundg (mct l - (p + 1))
          case measure => omega
          case rel => exact ⟨p + 1, _, by omega, Nat.le_refl _, by rw [EM.out], rfl, by go_num, by rw [E1.out.1, E1.out.2]; exact OY, GY⟩
        · have z2 : mlen kd l p = 29 := by have := mlen_range kd l p; omega
          have E1 := Lib.hid (ev_snoc (chA_29 F ez z2))
          rw [z2] at CD EM
          have EM := Lib.hid EM
          clear z z2 ez
          go_wp2_with (first | ((go_at_call 21; (with_reducible refine (CD.out _ ((by repeat (first | exact Gr.refl _ | refine Gr.setCell ?_ _ _ (by first | exact Nat.le_refl _ | (simp; omega) | (simp; done)) | refine Gr.grown ?_ _ _ | refine Gr.drewN ?_ _ | refine Gr.drew ?_ | refine Gr.alloc ?_ _ | refine Gr.grow ?_ _ | (refine Gr.trans ?_ (by assumption)))))).mono ?_); rintro e wD ⟨rfl, hgwD⟩); have OD := own_gr ho hgwD; have GD : Gr wC wD := Gr.trans hg hgwD; have hsD := GD.size; clear ho hgwD lk e0 e1 e2 i0 i1 i2) | (at_builtin; refine append_evs _ rfl _ _ rfl wC.heap.size v _ _ rfl (OD.alloc _) _ 1 [.int .i64 29, .int .i64 (F + mah kd l p)] rfl rfl (news2 rfl _ _ _) (by simp [Value.oneCell']) (by omega) (by simp; omega) ?_; intro g1 c1 wX OX kX bX GX_; have GX : Gr wC wX := GX_ wC ((by repeat (first | exact Gr.refl _ | refine Gr.setCell ?_ _ _ (by first | exact Nat.le_refl _ | (simp; omega) | (simp; done)) | refine Gr.grown ?_ _ _ | refine Gr.drewN ?_ _ | refine Gr.drew ?_ | refine Gr.alloc ?_ _ | refine Gr.grow ?_ _ | (refine Gr.trans ?_ (by assumption))))) (Nat.le_refl _); have hsX := GX.size; clear OD))
          go_roundg (mct l - (p + 1))
          case measure => omega
          case rel => exact ⟨p + 1, _, by omega, Nat.le_refl _, by rw [EM.out], rfl, by go_num, by rw [E1.out.1, E1.out.2]; exact OX, GX⟩
    · obtain rfl : p = mct l := by omega
      have hp : 0 < (chL kd l F (mct l)).length := by omega
      obtain ⟨g, cap, rfl⟩ : ∃ g cap, v = .slice (some ⟨g, 0, none⟩) (chL kd l F (mct l)).length cap := by
        rcases ho.2 with ⟨-, z⟩ | ⟨g, cap, -, rfl, -⟩
        · omega
        · exact ⟨g, cap, rfl⟩
      have HO := Lib.hid (row_of ho hp (evx_at _))
      clear ho
      go_wp2
      go_ret2
      exact ⟨g, cap, rfl, HO.out, (by repeat (first | exact Gr.refl _ | refine Gr.setCell ?_ _ _ (by first | exact Nat.le_refl _ | (simp; omega) | (simp; done)) | refine Gr.grown ?_ _ _ | refine Gr.drewN ?_ _ | refine Gr.drew ?_ | refine Gr.alloc ?_ _ | refine Gr.grow ?_ _ | (refine Gr.trans ?_ (by assumption))))⟩

end Go.Proofs.YtegkbjpcgelomaaGreatDoor.Walks
end
/- WholeNineteen, walked. -/
section
namespace Go.Proofs.YtegkbjpcgelomaaGreatDoor.Walks
open Go Go.RowKit Go.Sort Go.Proofs.YtegkbjpcgelomaaGreatDoor.Base Go.Proofs.YtegkbjpcgelomaaGreatDoor.Plain Go.Proofs.YtegkbjpcgelomaaGreatDoor.Math

theorem mo_far (n : Int) : 25920 * (moD (n + 235) - moD n) + moP (n + 235) - moP n = 179876755 := by unfold moD moP; omega
theorem bf_far (k : Int) : bf (k + 19) + 1 - 1 = (bf k + 1 - 1) + 235 := by unfold bf; omega
theorem mo_range {k : Int} (h0 : 0 ≤ k) (h1 : k ≤ 10001) : -10000000 ≤ moD (bf k + 1 - 1) ∧ moD (bf k + 1 - 1) ≤ 10000000 ∧ 0 ≤ moP (bf k + 1 - 1) ∧ moP (bf k + 1 - 1) ≤ 25920 := by
  have := bf_range h0 h1
  unfold moD moP
  omega
set_option maxHeartbeats 4000000 in
theorem nineteen_c (y : Int) (w : World) (G : GT w) (p : PT w) (y0 : 0 ≤ y) (y1 : y ≤ 65535) : Calls Tryq.prog 3 #[.int .u16 y] w fun e w' => e = .returned (.bool true) ∧ Gr w w' := by
  obtain ⟨k, hk⟩ : ∃ k, 1 + y % 9980 = k := ⟨_, rfl⟩
  have k0 : 1 ≤ k := by omega
  have k1 : k ≤ 9980 := by omega
  have m1 := ml_range k
  have m2 := ml_range (k + 19)
  have C1 := Lib.hid fun W => of_in k 1 W (by omega) (by omega) (by omega) (by omega)
  have C2 := Lib.hid fun W => of_in (k + 19) 1 W (by omega) (by omega) (by omega) (by omega)
  have C3 := Lib.hid fun W (hW : Gr w W) => awake_c W (G.gr hW) (p.gr hW)
  have hf := mo_far (bf k + 1 - 1)
  rw [← bf_far] at hf
  have r1 := mo_range (k := k) (by omega) (by omega)
  have r2 := mo_range (k := k + 19) (by omega) (by omega)
  obtain ⟨D, hD⟩ : ∃ D, moD (bf k + 1 - 1) = D := ⟨_, rfl⟩
  obtain ⟨P, hP⟩ : ∃ D, moP (bf k + 1 - 1) = D := ⟨_, rfl⟩
  obtain ⟨A, hA⟩ : ∃ D, moD (bf (k + 19) + 1 - 1) = D := ⟨_, rfl⟩
  obtain ⟨B, hB⟩ : ∃ D, moP (bf (k + 19) + 1 - 1) = D := ⟨_, rfl⟩
  rw [hD, hP] at C1 r1
  rw [hA, hB] at C2 r2
  rw [hA, hB, hD, hP] at hf
  clear hD hP hA hB m1 m2 G p
  obtain ⟨a0, a1, a2, a3⟩ := r1
  obtain ⟨b0, b1, b2, b3⟩ := r2
  have hb : (25920 * (A - D) + B - P == 179876755) = true := beq_iff_eq.2 hf
  go_enter Tryq.func3, Tryq.ntmps3
  go_wp2_with (first | (go_at_call 10; (with_reducible refine (C1.out _).mono ?_); rintro e wA ⟨rfl, hgA⟩; have lA : 0 < wA.heap.size + 1 := Nat.succ_pos _) | (go_at_call 10; (with_reducible refine (C2.out _).mono ?_); rintro e wB ⟨rfl, hgB⟩; have lB : wA.heap.size < wB.heap.size := (by have h := hgB.size; simp at h; omega); have k0 := hgB.keep (b := wA.heap.size) (o := 0) (v := .int .i64 D) (by first | (simp; done) | (simp; omega)) (by simp [go_sem]); have k1 := hgB.keep (b := wA.heap.size) (o := 1) (v := .int .i64 P) (by first | (simp; done) | (simp; omega)) (by simp [go_sem])) | (go_at_call 11; (with_reducible refine (C3.out _ ((by repeat (first | exact Gr.refl _ | refine Gr.setCell ?_ _ _ (by first | exact Nat.le_refl _ | (simp; omega) | (simp; done)) | refine Gr.grown ?_ _ _ | refine Gr.drewN ?_ _ | refine Gr.drew ?_ | refine Gr.alloc ?_ _ | refine Gr.grow ?_ _ | (refine Gr.trans ?_ (by assumption)))))).mono ?_); rintro e wC ⟨rfl, hgC⟩))

  go_ret
  exact ⟨rfl, (by repeat (first | exact Gr.refl _ | refine Gr.setCell ?_ _ _ (by first | exact Nat.le_refl _ | (simp; omega) | (simp; done)) | refine Gr.grown ?_ _ _ | refine Gr.drewN ?_ _ | refine Gr.drew ?_ | refine Gr.alloc ?_ _ | refine Gr.grow ?_ _ | (refine Gr.trans ?_ (by assumption))))⟩
theorem u16_of {a : Int} (h : (Lit.int .u16 a).wf = true) : 0 ≤ a ∧ a ≤ 65535 := by
  have e0 : IntKind.u16.min = 0 := rfl
  have e1 : IntKind.u16.max = 65535 := rfl
  simpa only [Lit.wf, e0, e1, Bool.and_eq_true, decide_eq_true_eq] using h
theorem wholeNineteen_t (y : Int) (w : World) (G : GT w) (p : PT w) (h : (Lit.int .u16 y).wf = true) : Calls Tryq.prog 3 #[.int .u16 y] w fun e w' => e = .returned (.bool true) ∧ Gr w w' :=
  nineteen_c y w G p (u16_of h).1 (u16_of h).2
end Go.Proofs.YtegkbjpcgelomaaGreatDoor.Walks
end
/- WholeYears, walked. -/
section
namespace Go.Proofs.YtegkbjpcgelomaaGreatDoor.Walks
open Go Go.RowKit Go.Sort Go.Proofs.YtegkbjpcgelomaaGreatDoor.Base Go.Proofs.YtegkbjpcgelomaaGreatDoor.Plain Go.Proofs.YtegkbjpcgelomaaGreatDoor.Math

theorem tnum_all : allB (fun k => knum (kB k) (kK k) (kL k) == (k : Int) + 1) 14 = true := by decide
theorem tnum_at {k : Nat} (hk : k < 14) : knum (kB k) (kK k) (kL k) = (k : Int) + 1 := beq_iff_eq.1 (allB_at tnum_all k hk)
theorem topyear_c (y : Int) (w : World) (y0 : 0 ≤ y) (y1 : y ≤ 65535) : Calls Tryq.prog 13 #[.int .u16 y] w fun e w' => e = .returned (.int .i64 (1 + y % 9999)) ∧ Gr w w' := by
  go_enter Tryq.func13, Tryq.ntmps13
  go_wp2
  exact bodyPost_ret (v := .int .i64 (1 + y % 9999)) (by simp [results, Tryz.results13, go_sem, *]) rfl ⟨rfl, (by repeat (first | exact Gr.refl _ | refine Gr.setCell ?_ _ _ (by first | exact Nat.le_refl _ | (simp; omega) | (simp; done)) | refine Gr.grown ?_ _ _ | refine Gr.drewN ?_ _ | refine Gr.drew ?_ | refine Gr.alloc ?_ _ | refine Gr.grow ?_ _ | (refine Gr.trans ?_ (by assumption))))⟩
set_option maxRecDepth 20000 in
set_option maxHeartbeats 4000000 in
theorem years_core_f (y A L B K D P N d1 d2 : Int) (w : World) (y0 : 0 ≤ y) (y1 : y ≤ 65535) (a0 : -7300000 ≤ A) (a1 : A ≤ 4540000) (l0 : 353 ≤ L) (l1 : L ≤ 355) (n0 : 1 ≤ N) (n1 : N ≤ 14) (D0 : D ≤ A) (D1 : A - D ≤ 2)
    (c0 : ∀ W, Calls Tryq.prog 13 #[.int .u16 y] W fun e w' => e = .returned (.int .i64 (1 + y % 9999)) ∧ Gr W w')
    (c1 : ∀ W, Calls Tryq.prog 15 #[.int .i64 (1 + y % 9999)] W fun e w' => e = .returned (.tuple #[.int .i64 A, .int .i64 0]) ∧ Gr W w')
    (c2 : ∀ W, Calls Tryq.prog 16 #[.int .i64 (1 + y % 9999)] W fun e w' => e = .returned (.tuple #[.int .i64 A, .int .i64 0]) ∧ Gr W w')
    (c3 : ∀ W, Calls Tryq.prog 17 #[.int .i64 (1 + y % 9999)] W fun e w' => e = .returned (.tuple #[.int .i64 L, .int .i64 0]) ∧ Gr W w')
    (c4 : ∀ W, Calls Tryq.prog 14 #[.int .i64 (1 + y % 9999)] W fun e w' => e = .returned (.tuple #[.agg #[.int .i64 B, .int .i64 K, .bool false], .int .i64 0]) ∧ Gr W w')
    (c5 : ∀ W, Calls Tryq.prog 18 #[.int .i64 (1 + y % 9999)] W fun e w' => e = .returned (.tuple #[.bool false, .int .i64 0]) ∧ Gr W w')
    (c6 : ∀ W, Calls Tryq.prog 10 #[.int .i64 (1 + y % 9999), .int .i64 1] W fun e w' => e = .returned (.tuple #[.agg #[.int .i64 D, .int .i64 P], .int .i64 0]) ∧ Gr W w')
    (c7 : ∀ W, Calls Tryq.prog 19 #[.int .i64 A] W fun e w' => e = .returned (.int .i64 B) ∧ Gr W w')
    (c8 : ∀ W, Gr w W → Calls Tryq.prog 11 #[] W fun e w' => e = .returned (.bool true) ∧ Gr W w')
    (c9 : ∀ W, Gr w W → Calls Tryq.prog 20 #[.agg #[.int .i64 B, .int .i64 K, .bool false]] W fun e w' => e = .returned (.int .i64 N) ∧ Gr W w')
    (cA : ∀ W, Gr w W → Calls Tryq.prog 21 #[.agg #[.int .i64 B, .int .i64 K, .bool false], .int .i64 2] W fun e w' => e = .returned (.int .i64 d1) ∧ Gr W w')
    (cB : ∀ W, Gr w W → Calls Tryq.prog 21 #[.agg #[.int .i64 B, .int .i64 K, .bool false], .int .i64 3] W fun e w' => e = .returned (.int .i64 d2) ∧ Gr W w')
    (w1 : (B == 0) = false) (w2 : (B == 3) = false) (w3 : (B == 5) = false) (v1 : ¬ B = 0) (v2 : ¬ B = 3) (v3 : ¬ B = 5) (u1 : (B != 0) = true) (u2 : (B != 3) = true) (u3 : (B != 5) = true)
    (q1 : (K == L - 353) = true) (q2 : ((d1 == 30) == (L == 355)) = true) (q3 : ((d2 == 29) == (L == 353)) = true) :
    Calls Tryq.prog 5 #[.int .u16 y] w fun e w' => e = .returned (.bool true) ∧ Gr w w' := by
  have C0 := Lib.hid c0
  have C1 := Lib.hid c1
  have C2 := Lib.hid c2
  have C3 := Lib.hid c3
  have C4 := Lib.hid c4
  have C5 := Lib.hid c5
  have C6 := Lib.hid c6
  have C7 := Lib.hid c7
  have C8 := Lib.hid c8
  have C9 := Lib.hid c9
  have CA := Lib.hid cA
  have CB := Lib.hid cB
  clear c0 c1 c2 c3 c4 c5 c6 c7 c8 c9 cA cB
  go_enter Tryq.func5, Tryq.ntmps5
  go_wp2_with (first | (go_at_call 13; (with_reducible refine (C0.out _).mono ?_); rintro e wY ⟨rfl, hgwY⟩; obtain ⟨hclwY, hfzwY, hszwY⟩ := gcell hgwY; (try simp [Nat.add_one_le_iff] at hszwY)) | (go_at_call 15; (with_reducible refine (C1.out _).mono ?_); rintro e wA ⟨rfl, hgwA⟩; obtain ⟨hclwA, hfzwA, hszwA⟩ := gcell hgwA; (try simp [Nat.add_one_le_iff] at hszwA)) | (go_at_call 16; (with_reducible refine (C2.out _).mono ?_); rintro e wB ⟨rfl, hgwB⟩; obtain ⟨hclwB, hfzwB, hszwB⟩ := gcell hgwB; (try simp [Nat.add_one_le_iff] at hszwB)) | (go_at_call 17; (with_reducible refine (C3.out _).mono ?_); rintro e wC ⟨rfl, hgwC⟩; obtain ⟨hclwC, hfzwC, hszwC⟩ := gcell hgwC; (try simp [Nat.add_one_le_iff] at hszwC)) | (go_at_call 14; (with_reducible refine (C4.out _).mono ?_); rintro e wD ⟨rfl, hgwD⟩; obtain ⟨hclwD, hfzwD, hszwD⟩ := gcell hgwD; (try simp [Nat.add_one_le_iff] at hszwD)) | (go_at_call 18; (with_reducible refine (C5.out _).mono ?_); rintro e wE ⟨rfl, hgwE⟩; obtain ⟨hclwE, hfzwE, hszwE⟩ := gcell hgwE; (try simp [Nat.add_one_le_iff] at hszwE); have hlwE_wD : wD.heap.size < wE.heap.size := (by omega)) | (go_at_call 10; (with_reducible refine (C6.out _).mono ?_); rintro e wF ⟨rfl, hgwF⟩; obtain ⟨hclwF, hfzwF, hszwF⟩ := gcell hgwF; (try simp [Nat.add_one_le_iff] at hszwF); have hlwF_wD : wD.heap.size < wF.heap.size := (by omega)) | (go_at_call 19; (with_reducible refine (C7.out _).mono ?_); rintro e wG ⟨rfl, hgwG⟩; obtain ⟨hclwG, hfzwG, hszwG⟩ := gcell hgwG; (try simp [Nat.add_one_le_iff] at hszwG); have hlwG_wD : wD.heap.size < wG.heap.size := (by omega); have hlwG_wF : wF.heap.size < wG.heap.size := (by omega)) | (go_at_call 11; (with_reducible refine (C8.out _ ((by repeat (first | exact Gr.refl _ | refine Gr.setCell ?_ _ _ (by first | exact Nat.le_refl _ | (simp; omega) | (simp; done)) | refine Gr.grown ?_ _ _ | refine Gr.drewN ?_ _ | refine Gr.drew ?_ | refine Gr.alloc ?_ _ | refine Gr.grow ?_ _ | (refine Gr.trans ?_ (by assumption)))))).mono ?_); rintro e wH ⟨rfl, hgwH⟩; obtain ⟨hclwH, hfzwH, hszwH⟩ := gcell hgwH; (try simp [Nat.add_one_le_iff] at hszwH); have hlwH_wD : wD.heap.size < wH.heap.size := (by omega); have hlwH_wF : wF.heap.size < wH.heap.size := (by omega)) | (go_at_call 20; (with_reducible refine (C9.out _ ((by repeat (first | exact Gr.refl _ | refine Gr.setCell ?_ _ _ (by first | exact Nat.le_refl _ | (simp; omega) | (simp; done)) | refine Gr.grown ?_ _ _ | refine Gr.drewN ?_ _ | refine Gr.drew ?_ | refine Gr.alloc ?_ _ | refine Gr.grow ?_ _ | (refine Gr.trans ?_ (by assumption)))))).mono ?_); rintro e wI ⟨rfl, hgwI⟩; obtain ⟨hclwI, hfzwI, hszwI⟩ := gcell hgwI; (try simp [Nat.add_one_le_iff] at hszwI); have hlwI_wD : wD.heap.size < wI.heap.size := (by omega); have hlwI_wF : wF.heap.size < wI.heap.size := (by omega)) | (go_at_call 21; (with_reducible refine (CA.out _ ((by repeat (first | exact Gr.refl _ | refine Gr.setCell ?_ _ _ (by first | exact Nat.le_refl _ | (simp; omega) | (simp; done)) | refine Gr.grown ?_ _ _ | refine Gr.drewN ?_ _ | refine Gr.drew ?_ | refine Gr.alloc ?_ _ | refine Gr.grow ?_ _ | (refine Gr.trans ?_ (by assumption)))))).mono ?_); rintro e wJ ⟨rfl, hgwJ⟩; obtain ⟨hclwJ, hfzwJ, hszwJ⟩ := gcell hgwJ; (try simp [Nat.add_one_le_iff] at hszwJ); have hlwJ_wD : wD.heap.size < wJ.heap.size := (by omega); have hlwJ_wF : wF.heap.size < wJ.heap.size := (by omega)) | (go_at_call 21; (with_reducible refine (CB.out _ ((by repeat (first | exact Gr.refl _ | refine Gr.setCell ?_ _ _ (by first | exact Nat.le_refl _ | (simp; omega) | (simp; done)) | refine Gr.grown ?_ _ _ | refine Gr.drewN ?_ _ | refine Gr.drew ?_ | refine Gr.alloc ?_ _ | refine Gr.grow ?_ _ | (refine Gr.trans ?_ (by assumption)))))).mono ?_); rintro e wK ⟨rfl, hgwK⟩; obtain ⟨hclwK, hfzwK, hszwK⟩ := gcell hgwK; (try simp [Nat.add_one_le_iff] at hszwK); have hlwK_wD : wD.heap.size < wK.heap.size := (by omega); have hlwK_wF : wF.heap.size < wK.heap.size := (by omega)))
  go_ret
  exact ⟨rfl, (by repeat (first | exact Gr.refl _ | refine Gr.setCell ?_ _ _ (by first | exact Nat.le_refl _ | (simp; omega) | (simp; done)) | refine Gr.grown ?_ _ _ | refine Gr.drewN ?_ _ | refine Gr.drew ?_ | refine Gr.alloc ?_ _ | refine Gr.grow ?_ _ | (refine Gr.trans ?_ (by assumption))))⟩

set_option maxRecDepth 20000 in
set_option maxHeartbeats 4000000 in
theorem years_core_t (y A L B K D P N d1 d2 : Int) (w : World) (y0 : 0 ≤ y) (y1 : y ≤ 65535) (a0 : -7300000 ≤ A) (a1 : A ≤ 4540000) (l0 : 353 ≤ L - 30) (l1 : L - 30 ≤ 355) (n0 : 1 ≤ N) (n1 : N ≤ 14) (D0 : D ≤ A) (D1 : A - D ≤ 2)
    (c0 : ∀ W, Calls Tryq.prog 13 #[.int .u16 y] W fun e w' => e = .returned (.int .i64 (1 + y % 9999)) ∧ Gr W w')
    (c1 : ∀ W, Calls Tryq.prog 15 #[.int .i64 (1 + y % 9999)] W fun e w' => e = .returned (.tuple #[.int .i64 A, .int .i64 0]) ∧ Gr W w')
    (c2 : ∀ W, Calls Tryq.prog 16 #[.int .i64 (1 + y % 9999)] W fun e w' => e = .returned (.tuple #[.int .i64 A, .int .i64 0]) ∧ Gr W w')
    (c3 : ∀ W, Calls Tryq.prog 17 #[.int .i64 (1 + y % 9999)] W fun e w' => e = .returned (.tuple #[.int .i64 L, .int .i64 0]) ∧ Gr W w')
    (c4 : ∀ W, Calls Tryq.prog 14 #[.int .i64 (1 + y % 9999)] W fun e w' => e = .returned (.tuple #[.agg #[.int .i64 B, .int .i64 K, .bool true], .int .i64 0]) ∧ Gr W w')
    (c5 : ∀ W, Calls Tryq.prog 18 #[.int .i64 (1 + y % 9999)] W fun e w' => e = .returned (.tuple #[.bool true, .int .i64 0]) ∧ Gr W w')
    (c6 : ∀ W, Calls Tryq.prog 10 #[.int .i64 (1 + y % 9999), .int .i64 1] W fun e w' => e = .returned (.tuple #[.agg #[.int .i64 D, .int .i64 P], .int .i64 0]) ∧ Gr W w')
    (c7 : ∀ W, Calls Tryq.prog 19 #[.int .i64 A] W fun e w' => e = .returned (.int .i64 B) ∧ Gr W w')
    (c8 : ∀ W, Gr w W → Calls Tryq.prog 11 #[] W fun e w' => e = .returned (.bool true) ∧ Gr W w')
    (c9 : ∀ W, Gr w W → Calls Tryq.prog 20 #[.agg #[.int .i64 B, .int .i64 K, .bool true]] W fun e w' => e = .returned (.int .i64 N) ∧ Gr W w')
    (cA : ∀ W, Gr w W → Calls Tryq.prog 21 #[.agg #[.int .i64 B, .int .i64 K, .bool true], .int .i64 2] W fun e w' => e = .returned (.int .i64 d1) ∧ Gr W w')
    (cB : ∀ W, Gr w W → Calls Tryq.prog 21 #[.agg #[.int .i64 B, .int .i64 K, .bool true], .int .i64 3] W fun e w' => e = .returned (.int .i64 d2) ∧ Gr W w')
    (w1 : (B == 0) = false) (w2 : (B == 3) = false) (w3 : (B == 5) = false) (v1 : ¬ B = 0) (v2 : ¬ B = 3) (v3 : ¬ B = 5) (u1 : (B != 0) = true) (u2 : (B != 3) = true) (u3 : (B != 5) = true)
    (q1 : (K == L - 30 - 353) = true) (q2 : ((d1 == 30) == (L - 30 == 355)) = true) (q3 : ((d2 == 29) == (L - 30 == 353)) = true) :
    Calls Tryq.prog 5 #[.int .u16 y] w fun e w' => e = .returned (.bool true) ∧ Gr w w' := by
  have C0 := Lib.hid c0
  have C1 := Lib.hid c1
  have C2 := Lib.hid c2
  have C3 := Lib.hid c3
  have C4 := Lib.hid c4
  have C5 := Lib.hid c5
  have C6 := Lib.hid c6
  have C7 := Lib.hid c7
  have C8 := Lib.hid c8
  have C9 := Lib.hid c9
  have CA := Lib.hid cA
  have CB := Lib.hid cB
  clear c0 c1 c2 c3 c4 c5 c6 c7 c8 c9 cA cB
  go_enter Tryq.func5, Tryq.ntmps5
  go_wp2_with (first | (go_at_call 13; (with_reducible refine (C0.out _).mono ?_); rintro e wY ⟨rfl, hgwY⟩; obtain ⟨hclwY, hfzwY, hszwY⟩ := gcell hgwY; (try simp [Nat.add_one_le_iff] at hszwY)) | (go_at_call 15; (with_reducible refine (C1.out _).mono ?_); rintro e wA ⟨rfl, hgwA⟩; obtain ⟨hclwA, hfzwA, hszwA⟩ := gcell hgwA; (try simp [Nat.add_one_le_iff] at hszwA)) | (go_at_call 16; (with_reducible refine (C2.out _).mono ?_); rintro e wB ⟨rfl, hgwB⟩; obtain ⟨hclwB, hfzwB, hszwB⟩ := gcell hgwB; (try simp [Nat.add_one_le_iff] at hszwB)) | (go_at_call 17; (with_reducible refine (C3.out _).mono ?_); rintro e wC ⟨rfl, hgwC⟩; obtain ⟨hclwC, hfzwC, hszwC⟩ := gcell hgwC; (try simp [Nat.add_one_le_iff] at hszwC)) | (go_at_call 14; (with_reducible refine (C4.out _).mono ?_); rintro e wD ⟨rfl, hgwD⟩; obtain ⟨hclwD, hfzwD, hszwD⟩ := gcell hgwD; (try simp [Nat.add_one_le_iff] at hszwD)) | (go_at_call 18; (with_reducible refine (C5.out _).mono ?_); rintro e wE ⟨rfl, hgwE⟩; obtain ⟨hclwE, hfzwE, hszwE⟩ := gcell hgwE; (try simp [Nat.add_one_le_iff] at hszwE); have hlwE_wD : wD.heap.size < wE.heap.size := (by omega)) | (go_at_call 10; (with_reducible refine (C6.out _).mono ?_); rintro e wF ⟨rfl, hgwF⟩; obtain ⟨hclwF, hfzwF, hszwF⟩ := gcell hgwF; (try simp [Nat.add_one_le_iff] at hszwF); have hlwF_wD : wD.heap.size < wF.heap.size := (by omega)) | (go_at_call 19; (with_reducible refine (C7.out _).mono ?_); rintro e wG ⟨rfl, hgwG⟩; obtain ⟨hclwG, hfzwG, hszwG⟩ := gcell hgwG; (try simp [Nat.add_one_le_iff] at hszwG); have hlwG_wD : wD.heap.size < wG.heap.size := (by omega); have hlwG_wF : wF.heap.size < wG.heap.size := (by omega)) | (go_at_call 11; (with_reducible refine (C8.out _ ((by repeat (first | exact Gr.refl _ | refine Gr.setCell ?_ _ _ (by first | exact Nat.le_refl _ | (simp; omega) | (simp; done)) | refine Gr.grown ?_ _ _ | refine Gr.drewN ?_ _ | refine Gr.drew ?_ | refine Gr.alloc ?_ _ | refine Gr.grow ?_ _ | (refine Gr.trans ?_ (by assumption)))))).mono ?_); rintro e wH ⟨rfl, hgwH⟩; obtain ⟨hclwH, hfzwH, hszwH⟩ := gcell hgwH; (try simp [Nat.add_one_le_iff] at hszwH); have hlwH_wD : wD.heap.size < wH.heap.size := (by omega); have hlwH_wF : wF.heap.size < wH.heap.size := (by omega)) | (go_at_call 20; (with_reducible refine (C9.out _ ((by repeat (first | exact Gr.refl _ | refine Gr.setCell ?_ _ _ (by first | exact Nat.le_refl _ | (simp; omega) | (simp; done)) | refine Gr.grown ?_ _ _ | refine Gr.drewN ?_ _ | refine Gr.drew ?_ | refine Gr.alloc ?_ _ | refine Gr.grow ?_ _ | (refine Gr.trans ?_ (by assumption)))))).mono ?_); rintro e wI ⟨rfl, hgwI⟩; obtain ⟨hclwI, hfzwI, hszwI⟩ := gcell hgwI; (try simp [Nat.add_one_le_iff] at hszwI); have hlwI_wD : wD.heap.size < wI.heap.size := (by omega); have hlwI_wF : wF.heap.size < wI.heap.size := (by omega)) | (go_at_call 21; (with_reducible refine (CA.out _ ((by repeat (first | exact Gr.refl _ | refine Gr.setCell ?_ _ _ (by first | exact Nat.le_refl _ | (simp; omega) | (simp; done)) | refine Gr.grown ?_ _ _ | refine Gr.drewN ?_ _ | refine Gr.drew ?_ | refine Gr.alloc ?_ _ | refine Gr.grow ?_ _ | (refine Gr.trans ?_ (by assumption)))))).mono ?_); rintro e wJ ⟨rfl, hgwJ⟩; obtain ⟨hclwJ, hfzwJ, hszwJ⟩ := gcell hgwJ; (try simp [Nat.add_one_le_iff] at hszwJ); have hlwJ_wD : wD.heap.size < wJ.heap.size := (by omega); have hlwJ_wF : wF.heap.size < wJ.heap.size := (by omega)) | (go_at_call 21; (with_reducible refine (CB.out _ ((by repeat (first | exact Gr.refl _ | refine Gr.setCell ?_ _ _ (by first | exact Nat.le_refl _ | (simp; omega) | (simp; done)) | refine Gr.grown ?_ _ _ | refine Gr.drewN ?_ _ | refine Gr.drew ?_ | refine Gr.alloc ?_ _ | refine Gr.grow ?_ _ | (refine Gr.trans ?_ (by assumption)))))).mono ?_); rintro e wK ⟨rfl, hgwK⟩; obtain ⟨hclwK, hfzwK, hszwK⟩ := gcell hgwK; (try simp [Nat.add_one_le_iff] at hszwK); have hlwK_wD : wD.heap.size < wK.heap.size := (by omega); have hlwK_wF : wF.heap.size < wK.heap.size := (by omega)))
  go_ret
  exact ⟨rfl, (by repeat (first | exact Gr.refl _ | refine Gr.setCell ?_ _ _ (by first | exact Nat.le_refl _ | (simp; omega) | (simp; done)) | refine Gr.grown ?_ _ _ | refine Gr.drewN ?_ _ | refine Gr.drew ?_ | refine Gr.alloc ?_ _ | refine Gr.grow ?_ _ | (refine Gr.trans ?_ (by assumption))))⟩

theorem wholeYears_t (y : Int) (w : World) (G : GT w) (p : PT w) (w0 : (Lit.int .u16 y).wf = true) : Calls Tryq.prog 5 #[.int .u16 y] w fun e w' => e = .returned (.bool true) ∧ Gr w w' := by
  have h0 := u16_of w0
  obtain ⟨n, hn⟩ : ∃ n, 1 + y % 9999 = n := ⟨_, rfl⟩
  have n0 : 1 ≤ n := by omega
  have n1 : n ≤ 9999 := by omega
  obtain ⟨i, hi, e1, e2, e3⟩ := ky_in n0 n1
  have rA := fy_range (y := n) (by omega) (by omega)
  have rL := kln_range n0 n1
  have rk := kk_leap n0 n1
  have hK : knum (kb n) (kk n) (lp n) = (i : Int) + 1 := by rw [e1, e2, e3]; exact tnum_at hi
  have hN : mN (kb n) (kk n) (lp n) = mct (lp n) := by unfold mN; rw [if_pos (by omega)]
  have hm := mct_le (lp n)
  have hB : kb n = 1 ∨ kb n = 2 ∨ kb n = 4 ∨ kb n = 6 := by
    rw [e1]
    have : i = 0 ∨ i = 1 ∨ i = 2 ∨ i = 3 ∨ i = 4 ∨ i = 5 ∨ i = 6 ∨ i = 7 ∨ i = 8 ∨ i = 9 ∨ i = 10 ∨ i = 11 ∨ i = 12 ∨ i = 13 := by omega
    rcases this with rfl | rfl | rfl | rfl | rfl | rfl | rfl | rfl | rfl | rfl | rfl | rfl | rfl | rfl <;> decide
  have hD : moD (bf n + 1 - 1) ≤ fy n ∧ fy n - moD (bf n + 1 - 1) ≤ 2 := by
    have := dly_range (moD (bf n)) (moP (bf n)) (lp n) (lp (n - 1))
    rw [show bf n + 1 - 1 = bf n from by omega]
    unfold fy
    omega
  have m1 : 1 ≤ ml n := by have := ml_range n; omega
  have C1 : ∀ W, Calls Tryq.prog 15 #[.int .i64 (1 + y % 9999)] W fun e w' => e = .returned (.tuple #[.int .i64 (fy n), .int .i64 0]) ∧ Gr W w' := fun W => by rw [hn]; exact first_in n W (by omega) (by omega)
  have C2 : ∀ W, Calls Tryq.prog 16 #[.int .i64 (1 + y % 9999)] W fun e w' => e = .returned (.tuple #[.int .i64 (fy n), .int .i64 0]) ∧ Gr W w' := fun W => by
    have h := cFirst_c n W
    rw [hn]
    rwa [show fyN n = fy n from fyN_in (by omega) (by omega), show yE n = 0 from yE_in (by omega) (by omega)] at h
  have C3 : ∀ W, Calls Tryq.prog 17 #[.int .i64 (1 + y % 9999)] W fun e w' => e = .returned (.tuple #[.int .i64 (kln n), .int .i64 0]) ∧ Gr W w' := fun W => by rw [hn]; exact klong_in n W n0 n1
  have C4 : ∀ W, Calls Tryq.prog 14 #[.int .i64 (1 + y % 9999)] W fun e w' => e = .returned (.tuple #[.agg #[.int .i64 (kb n), .int .i64 (kk n), .bool (lp n)], .int .i64 0]) ∧ Gr W w' := fun W => by rw [hn]; exact kof_in n W n0 n1
  have C5 : ∀ W, Calls Tryq.prog 18 #[.int .i64 (1 + y % 9999)] W fun e w' => e = .returned (.tuple #[.bool (lp n), .int .i64 0]) ∧ Gr W w' := fun W => by rw [hn]; exact leap_in n W (by omega) (by omega)
  have C6 : ∀ W, Calls Tryq.prog 10 #[.int .i64 (1 + y % 9999), .int .i64 1] W fun e w' => e = .returned (.tuple #[.agg #[.int .i64 (moD (bf n + 1 - 1)), .int .i64 (moP (bf n + 1 - 1))], .int .i64 0]) ∧ Gr W w' := fun W => by rw [hn]; exact of_in n 1 W (by omega) (by omega) (by omega) m1
  have C7 : ∀ W, Calls Tryq.prog 19 #[.int .i64 (fy n)] W fun e w' => e = .returned (.int .i64 (kb n)) ∧ Gr W w' := fun W => wd_c (fy n) W (by omega) (by omega)
  have C8 : ∀ W, Gr w W → Calls Tryq.prog 11 #[] W fun e w' => e = .returned (.bool true) ∧ Gr W w' := fun W hW => awake_c W (G.gr hW) (p.gr hW)
  have C9 : ∀ W, Gr w W → Calls Tryq.prog 20 #[.agg #[.int .i64 (kb n), .int .i64 (kk n), .bool (lp n)]] W fun e w' => e = .returned (.int .i64 ((i : Int) + 1)) ∧ Gr W w' := fun W hW => by
    have := knumber_c (kb n) (kk n) (lp n) W (G.gr hW).t; rwa [hK] at this
  have CA : ∀ W, Gr w W → Calls Tryq.prog 21 #[.agg #[.int .i64 (kb n), .int .i64 (kk n), .bool (lp n)], .int .i64 2] W fun e w' => e = .returned (.int .i64 (mlen (kk n) (lp n) 1)) ∧ Gr W w' := fun W hW => mdays_in (kb n) (kk n) (lp n) 1 W (G.gr hW) (by omega)
  have CB : ∀ W, Gr w W → Calls Tryq.prog 21 #[.agg #[.int .i64 (kb n), .int .i64 (kk n), .bool (lp n)], .int .i64 3] W fun e w' => e = .returned (.int .i64 (mlen (kk n) (lp n) 2)) ∧ Gr W w' := fun W hW => mdays_in (kb n) (kk n) (lp n) 2 W (G.gr hW) (by omega)
  clear hn hK hN e1 e2 e3 G p
  obtain ⟨k1, k2, k3⟩ := rk
  have nb : ∀ {x : Int}, ¬ kb n = x → (kb n == x) = false ∧ (kb n != x) = true := fun h => ⟨by simpa using h, by simpa using h⟩
  have z0 : ¬ kb n = 0 := by omega
  have z3 : ¬ kb n = 3 := by omega
  have z5 : ¬ kb n = 5 := by omega
  have hk : kk n = 0 ∨ kk n = 1 ∨ kk n = 2 := by omega
  generalize hl : lp n = l at *
  generalize kb n = B at *
  generalize kk n = K at *
  generalize kln n = L at *
  cases l
  · simp only [Bool.false_eq_true, if_false, Int.add_zero] at k1
    refine years_core_f y (fy n) L B K _ _ _ _ _ w h0.1 h0.2 rA.1 rA.2 (by omega) (by omega) (by omega) (by omega) hD.1 hD.2 (fun W => topyear_c y W h0.1 h0.2) C1 C2 C3 C4 C5 C6 C7 C8 C9 CA CB (nb z0).1 (nb z3).1 (nb z5).1 z0 z3 z5 (nb z0).2 (nb z3).2 (nb z5).2 (by rw [beq_iff_eq]; omega) ?_ ?_
    · obtain rfl : L = K + 353 := by omega
      rcases hk with rfl | rfl | rfl <;> decide
    · obtain rfl : L = K + 353 := by omega
      rcases hk with rfl | rfl | rfl <;> decide
  · simp only [if_true] at k1
    refine years_core_t y (fy n) L B K _ _ _ _ _ w h0.1 h0.2 rA.1 rA.2 (by omega) (by omega) (by omega) (by omega) hD.1 hD.2 (fun W => topyear_c y W h0.1 h0.2) C1 C2 C3 C4 C5 C6 C7 C8 C9 CA CB (nb z0).1 (nb z3).1 (nb z5).1 z0 z3 z5 (nb z0).2 (nb z3).2 (nb z5).2 (by rw [beq_iff_eq]; omega) ?_ ?_
    · obtain rfl : L = K + 383 := by omega
      rcases hk with rfl | rfl | rfl <;> decide
    · obtain rfl : L = K + 383 := by omega
      rcases hk with rfl | rfl | rfl <;> decide
end Go.Proofs.YtegkbjpcgelomaaGreatDoor.Walks
end
/- feast.Sort: what it hands back is a row of its own. -/
section
namespace Go.Proofs.YtegkbjpcgelomaaGreatDoor.Walks
open Go Go.RowKit Go.Sort Go.Proofs.YtegkbjpcgelomaaGreatDoor.Base Go.Proofs.YtegkbjpcgelomaaGreatDoor.Plain Go.Proofs.YtegkbjpcgelomaaGreatDoor.Math

theorem cells_take {w : World} {g : Nat} {cur : Array Value} {e : TypeId} {f : Nat × Nat} (hh : w.heap[g]? = some (.cells cur e f)) (xs : List Value) (k : Nat) (hk : xs.length = k) (hc : ∀ j u, xs[j]? = some u → w.cell? ((⟨g, 0, none⟩ : Addr).add j) = some u) : cur.toList.take k = xs := by
  refine List.ext_getElem? fun j => ?_
  by_cases hj : j < k
  · have hx : j < xs.length := by omega
    have h := hc j _ (List.getElem?_eq_getElem hx)
    have h2 : w.cell? ⟨g, j, none⟩ = some xs[j] := by
      by_cases z : j = 0
      · subst z; simpa [Addr.add] using h
      · simpa [Addr.add, z] using h
    rw [Lib.cell_of_heap hh] at h2
    rw [List.getElem?_take_of_lt hj, List.getElem?_eq_getElem hx, Array.getElem?_toList]
    exact h2
  · rw [List.getElem?_eq_none (by rw [List.length_take]; omega), List.getElem?_eq_none (by omega)]
theorem own_sort {w : World} {base g n cap : Nat} {L M : List (Int × Int)} (h : w.ownsRow base 67 2 (.slice (some ⟨g, 0, none⟩) n cap) n (cel L)) (hl : L.length = n) (hM : M.length = n) (hn : 0 < n) (m : Nat) (os : Array Obj) :
    (sortWorldK evE 2 w g 0 m M.toArray os).ownsRow base 67 2 (.slice (some ⟨g, 0, none⟩) n cap) n (cel M) := by
  have hE := evs_of h hn hl
  rcases h.2 with ⟨q, -⟩ | ⟨g', cap', cur, q, hb, hh, h1, h2, h3, -⟩
  · cases q
  · injection q with q1 q2 q3
    injection q1 with q4
    injection q4 with q5
    subst q5 q3
    have hE2 : Evs (sortWorldK evE 2 w g 0 m M.toArray os) g M := by
      refine evs_holds (holdsK_sortWorldK_c evE 2 w g 0 L.toArray _ m os (holds_of h hl) hE.lt (by simp [hl, hM])) ?_
      have := (Gr.sortK (Gr.refl w) evE 2 w.heap.size 0 m M.toArray os (Nat.le_refl _)).size
      have h2 := hE.lt
      simp [sortWorldK, putRowK, putRow, mapBlock, Sort.ahead, Go.Sort.grow] at *
      omega
    have hh' : (sortWorldK evE 2 w g 0 m M.toArray os).heap[g]? = some (.cells (putCells id 0 (flatK evE 2 M.toArray) cur) 67 (0, 0)) := by
      have hs := hE.lt
      unfold sortWorldK Go.Sort.grow putRowK putRow mapBlock
      simp only
      rw [Array.getElem?_append_left (by simpa [Sort.ahead] using hs), Array.getElem?_modify, if_pos rfl]
      simp only [Sort.ahead]
      rw [hh]
      rfl
    refine ⟨by rw [cel_len, hM], .inr ⟨g, cap, _, rfl, hb, hh', h1, h2, ?_, ?_⟩⟩
    · rw [← h3]; simp [putCells, size_setMany]
    · exact cells_take hh' (cel M) _ (by rw [cel_len, hM]) (evs_cell hE2)
/-- What is asked of Sort, its own row said. -/
def SortO (w : World) (L : List (Int × Int)) (e : Ending) (w' : World) : Prop :=
  ∃ g cap M, e = .returned (.slice (some ⟨g, 0, none⟩) M.length cap) ∧ M.Perm L ∧ w'.ownsRow w.heap.size 67 2 (.slice (some ⟨g, 0, none⟩) M.length cap) M.length (cel M) ∧ Gr w w'
set_option maxHeartbeats 4000000 in
theorem sortO_c (g cap : Nat) (L : List (Int × Int)) (w : World) (hL : 0 < L.length) (hL2 : L.length ≤ 1000) (E : Evs w g L) :
    Calls Tryq.prog 67 #[.slice (some ⟨g, 0, none⟩) L.length cap] w (SortO w L) := by
  have C1 := Lib.hid (clone_c g cap L w hL hL2 E)
  have C2 : RowKit.Hid (∀ (g2 cap2 : Nat) (W : World), W.ownsRow w.heap.size 67 2 (.slice (some ⟨g2, 0, none⟩) L.length cap2) L.length (cel L) → Calls Tryq.prog 99 #[.slice (some ⟨g2, 0, none⟩) L.length cap2, .func (.func 100) #[] #[]] W fun e w' => e = .returned (.tuple #[]) ∧ ∃ n os, w' = sortWorldK evE 2 W g2 0 n (L.mergeSort fun x y => !(ltOf evc) y x).toArray os) := Lib.hid fun g2 cap2 W hW => by
    have hg2 : g2 < W.heap.size := by
      have := evs_of hW hL rfl
      exact this.lt
    have hS := AnyQ.slices_SortFunc_total Tryq.lays99 2 ev_agg ev_size evE (fun _ => rfl) (fun x v hv => by simp [evE] at hv; rcases hv with rfl | rfl <;> rfl) evc evc_swo 100 #[] g2 0 cap2 L.toArray W (fun _ _ => Tryq.call100 _ _)
      (fun m os dk _ x y => (sort1_c x y _).mono fun e w' ⟨h, k⟩ => ⟨h, k.out⟩) (holds_of hW rfl) hg2 (by simp; omega) evc_tot
    change Calls Tryq.prog 99 _ _ _ at hS
    simpa using hS
  clear E
  go_enter Tryq.func67, Tryq.ntmps67
  go_wp2_with (first | (go_at_call 98; refine (C1.out).mono ?_; rintro e w1 ⟨g2, cap2, rfl, HO, hg⟩) | (go_at_call 99; refine (C2.out _ _ _ HO).mono ?_; rintro e w2 ⟨rfl, n, os, rfl⟩))
  go_ret
  have hb : w.heap.size ≤ g2 := by
    rcases HO.2 with ⟨q, -⟩ | ⟨g', cap', cur, q, hb, -⟩
    · cases q
    · injection q with q1 q2 q3
      injection q1 with q4
      injection q4 with q5
      rw [q5]; exact hb
  have hm : (L.mergeSort fun x y => !(ltOf evc) y x).length = L.length := List.length_mergeSort _
  refine ⟨g2, cap2, L.mergeSort fun x y => !(ltOf evc) y x, by rw [hm]; rfl, List.mergeSort_perm _ _, ?_, Gr.sortK hg _ _ _ _ _ _ _ hb⟩
  rw [hm]
  exact own_sort HO rfl hm hL n os
end Go.Proofs.YtegkbjpcgelomaaGreatDoor.Walks
end
