/- The days of RoshChodesh in plain numbers: the list that comes month by month. No program in sight. -/
import Derived.Test.YtbalbkkimlbecaaDoorShMath
import Derived.Test.YtbalbkkimlbecaaDoorOwn
set_option linter.unusedVariables false
set_option linter.unusedSimpArgs false
namespace Go.Proofs.YtbalbkkimlbecaaDoor.Math
open Go Go.RowKit Go.Proofs.YtbalbkkimlbecaaDoor.Plain Go.Proofs.YtbalbkkimlbecaaDoor.Walks

/-- What months p adds: its first day (but for the year's first), its thirtieth. -/
def chA (kd : Int) (l : Bool) (F : Int) (p : Nat) : List Int := (if p = 0 then [] else [F + mah kd l p]) ++ (if mlen kd l p = 30 then [F + mah kd l p + 29] else [])
/-- The days of the first p months. -/
def chL (kd : Int) (l : Bool) (F : Int) : Nat → List Int
  | 0 => []
  | p + 1 => chL kd l F p ++ chA kd l F p
theorem chA_len (kd : Int) (l : Bool) (F : Int) (p : Nat) : (chA kd l F p).length ≤ 2 := by
  unfold chA
  split <;> split <;> simp
theorem chL_len (kd : Int) (l : Bool) (F : Int) (p : Nat) : (chL kd l F p).length ≤ 2 * p := by
  induction p with
  | zero => simp [chL]
  | succ p ih =>
    have := chA_len kd l F p
    simp only [chL, List.length_append]
    omega
theorem chA_map (kd : Int) (l : Bool) (F : Int) (p : Nat) : chA kd l F p = (chA kd l 0 p).map (fun x => F + x) := by
  unfold chA
  split <;> split <;> simp <;> omega
theorem chL_map (kd : Int) (l : Bool) (F : Int) (p : Nat) : chL kd l F p = (chL kd l 0 p).map (fun x => F + x) := by
  induction p with
  | zero => rfl
  | succ p ih => simp only [chL]; rw [List.map_append, ← ih, ← chA_map]
/-- Event cells: the kind, the day. -/
def evx : List Int → List Value
  | [] => []
  | d :: r => .int .i64 29 :: .int .i64 d :: evx r
theorem evx_append (a b : List Int) : evx (a ++ b) = evx a ++ evx b := by
  induction a with
  | nil => rfl
  | cons x r ih => simp [evx, ih]
theorem evx_len (a : List Int) : (evx a).length = a.length * 2 := by
  induction a with
  | nil => rfl
  | cons x r ih => simp only [evx, List.length_cons, ih]; omega
/-- A cell of a list of events. -/
def evf (L : List Int) (j : Nat) : Value := if j % 2 = 0 then .int .i64 29 else .int .i64 (L.getD (j / 2) 0)
theorem evf_k (L : List Int) (j : Nat) : evf L (j * 2) = .int .i64 29 := by unfold evf; rw [if_pos (by omega)]
theorem evf_d (L : List Int) (j : Nat) : evf L (j * 2 + 1) = .int .i64 (L.getD j 0) := by unfold evf; rw [if_neg (by omega), show (j * 2 + 1) / 2 = j by omega]
theorem evx_at (L : List Int) (j : Nat) (h : j < L.length * 2) : (evx L)[j]? = some (evf L j) := by
  induction L generalizing j with
  | nil => simp at h
  | cons x r ih =>
    match j, h with
    | 0, _ => rfl
    | 1, _ => rfl
    | j + 2, h =>
      have := ih j (by simp only [List.length_cons] at h; omega)
      show (evx r)[j]? = _
      rw [this]
      unfold evf
      rw [show (j + 2) % 2 = j % 2 by omega, show (j + 2) / 2 = j / 2 + 1 by omega]
      rfl
theorem chL_day {kd : Int} {l : Bool} {F : Int} {p i : Nat} (h : i < (chL kd l 0 p).length) : (chL kd l F p).getD i 0 = F + (chL kd l 0 p).getD i 0 := by
  rw [chL_map]
  simp [List.getD, List.getElem?_map, List.getElem?_eq_getElem h]
theorem chL_size (kd : Int) (l : Bool) (F : Int) (p : Nat) : (chL kd l F p).length = (chL kd l 0 p).length := by rw [chL_map, List.length_map]

/-- What is said of the list of a type's days: each is the first or the thirtieth of a month .. -/
def chOK (kd : Int) (l : Bool) : Bool :=
  let L := chL kd l 0 (mct l)
  decide (11 ≤ L.length) && (decide (L.length ≤ 26) && (List.range L.length).all fun i => (List.range (mct l)).any fun j =>
    (decide (0 < i → L.getD (i - 1) 0 < L.getD i 0)) && ((decide (1 ≤ j) && decide (L.getD i 0 = mah kd l j)) || (decide (mlen kd l j = 30) && (decide (L.getD i 0 = mah kd l j + 29) && (decide (i + 1 < L.length) && decide (L.getD (i + 1) 0 = L.getD i 0 + 1))))))
theorem chOK_all : ∀ l : Bool, chOK 0 l = true ∧ chOK 1 l = true ∧ chOK 2 l = true := by decide +kernel
theorem chOK_of {kd : Int} (l : Bool) (h0 : 0 ≤ kd) (h1 : kd ≤ 2) : chOK kd l = true := by
  have := chOK_all l
  have : kd = 0 ∨ kd = 1 ∨ kd = 2 := by omega
  rcases this with rfl | rfl | rfl
  · exact (chOK_all l).1
  · exact (chOK_all l).2.1
  · exact (chOK_all l).2.2
theorem chL_count {kd : Int} (l : Bool) (F : Int) (h0 : 0 ≤ kd) (h1 : kd ≤ 2) : 11 ≤ (chL kd l F (mct l)).length ∧ (chL kd l F (mct l)).length ≤ 26 := by
  have := chOK_of l h0 h1
  unfold chOK at this
  simp only [Bool.and_eq_true, decide_eq_true_eq] at this
  rw [chL_size]
  exact ⟨this.1, this.2.1⟩
/-- A day of the list: the first (behind the year's first month) or the thirtieth of a month. -/
theorem chL_at {y : Int} (h0 : 1 ≤ y) (h1 : y ≤ 9999) {i : Nat} (h : i < (chL (kk y) (lp y) (fy y) (mct (lp y))).length) : ∃ (j : Nat) (d : Int), HV y j d ∧ (chL (kk y) (lp y) (fy y) (mct (lp y))).getD i 0 = hd y j d ∧
    (0 < i → (chL (kk y) (lp y) (fy y) (mct (lp y))).getD (i - 1) 0 < hd y j d) ∧ ((d = 1 ∧ 1 ≤ j) ∨ (d = 30 ∧ i + 1 < (chL (kk y) (lp y) (fy y) (mct (lp y))).length ∧ (chL (kk y) (lp y) (fy y) (mct (lp y))).getD (i + 1) 0 = hd y j d + 1)) := by
  obtain ⟨-, b, c⟩ := kk_leap h0 h1
  have k := chOK_of (lp y) b c
  unfold chOK at k
  simp only [Bool.and_eq_true, List.all_eq_true, List.mem_range, List.any_eq_true] at k
  rw [chL_size] at h
  obtain ⟨j, hj, m, k⟩ := k.2.2 i h
  have m := of_decide_eq_true m
  simp only [Bool.or_eq_true, Bool.and_eq_true, decide_eq_true_eq] at k
  have lr := mlen_range (kk y) (lp y) j
  have mono : 0 < i → (chL (kk y) (lp y) (fy y) (mct (lp y))).getD (i - 1) 0 < (chL (kk y) (lp y) (fy y) (mct (lp y))).getD i 0 := fun z => by
    have := m z
    rw [chL_day h, chL_day (i := i - 1) (by omega)]
    omega
  rcases k with ⟨k1, k2⟩ | ⟨k1, k2, k3, k4⟩
  · have e : (chL (kk y) (lp y) (fy y) (mct (lp y))).getD i 0 = hd y j 1 := by
      rw [chL_day h, k2]
      unfold hd
      omega
    exact ⟨j, 1, ⟨h0, h1, hj, by decide, by omega⟩, e, fun z => e ▸ mono z, .inl ⟨rfl, k1⟩⟩
  · have e : (chL (kk y) (lp y) (fy y) (mct (lp y))).getD i 0 = hd y j 30 := by
      rw [chL_day h, k2]
      unfold hd
      omega
    refine ⟨j, 30, ⟨h0, h1, hj, by decide, by omega⟩, e, fun z => e ▸ mono z, .inr ⟨rfl, by rw [chL_size]; exact k3, ?_⟩⟩
    rw [← e, chL_day h, chL_day k3]
    omega

end Go.Proofs.YtbalbkkimlbecaaDoor.Math
