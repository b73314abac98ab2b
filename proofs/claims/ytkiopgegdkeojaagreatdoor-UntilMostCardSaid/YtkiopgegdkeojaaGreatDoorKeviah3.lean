/- Walks of keviah.Type and Number over the laid table of types. -/
import Derived.Test.YtkiopgegdkeojaaGreatDoorKeviah2
set_option linter.unusedVariables false
set_option linter.unusedSimpArgs false
namespace Go.Proofs.YtkiopgegdkeojaaGreatDoor.Walks
open Go Go.RowKit Go.Sort Go.Proofs.YtkiopgegdkeojaaGreatDoor.Base Go.Proofs.YtkiopgegdkeojaaGreatDoor.Plain Go.Proofs.YtkiopgegdkeojaaGreatDoor.Math

/-- The fourteen types: weekday, kind, leap year. -/
def kB (k : Nat) : Int := ([1, 1, 2, 4, 4, 6, 6, 1, 1, 2, 4, 4, 6, 6] : List Int).getD k 0
def kK (k : Nat) : Int := ([0, 2, 1, 1, 2, 0, 2, 0, 2, 1, 0, 2, 0, 2] : List Int).getD k 0
def kL (k : Nat) : Bool := decide (7 ≤ k)
/-- The variable holds the table. -/
structure TT (w : World) : Prop where
  b : ∀ k, k < 14 → w.cell? ⟨1, k * 3, none⟩ = some (.int .i64 (kB k))
  k : ∀ k, k < 14 → w.cell? ⟨1, k * 3 + 1, none⟩ = some (.int .i64 (kK k))
  l : ∀ k, k < 14 → w.cell? ⟨1, k * 3 + 2, none⟩ = some (.bool (kL k))
theorem TT.lt {w : World} (h : TT w) : 1 < w.heap.size := World.block_lt_of_cell? w _ (h.b 0 (by omega))
theorem TT.gr {w w' : World} (h : TT w) (g : Gr w w') : TT w' := ⟨fun k hk => g.keep h.lt (h.b k hk), fun k hk => g.keep h.lt (h.k k hk), fun k hk => g.keep h.lt (h.l k hk)⟩


/-- Is it the type with that number (from 0 on)? -/
def kmt (b k : Int) (l : Bool) (j : Nat) : Bool := decide (b = kB j ∧ k = kK j ∧ l = kL j)
/-- The first of the fourteen that it is; 14: none. -/
def kix (b k : Int) (l : Bool) : Nat := (List.range 14).findIdx (kmt b k l)
theorem kix_le (b k : Int) (l : Bool) : kix b k l ≤ 14 := by
  have := List.findIdx_le_length (p := kmt b k l) (xs := List.range 14)
  simpa [kix] using this
theorem kix_at {b k : Int} {l : Bool} (h : kix b k l < 14) : b = kB (kix b k l) ∧ k = kK (kix b k l) ∧ l = kL (kix b k l) := by
  have := List.findIdx_getElem (p := kmt b k l) (xs := List.range 14) (w := by simpa [kix] using h)
  rw [List.getElem_range] at this
  exact of_decide_eq_true this
theorem kix_no {b k : Int} {l : Bool} {j : Nat} (h : j < kix b k l) : ¬ (b = kB j ∧ k = kK j ∧ l = kL j) := by
  have := List.not_of_lt_findIdx (p := kmt b k l) (xs := List.range 14) h
  rw [List.getElem_range] at this
  have h2 : kmt b k l j = false := by simpa using this
  exact of_decide_eq_false h2
def kixI (b k : Int) (l : Bool) : Int := if kix b k l < 14 then (kix b k l : Int) else -1
/-- A type's number. -/
def knum (b k : Int) (l : Bool) : Int := if kix b k l < 14 then (kix b k l : Int) + 1 else 0

set_option maxHeartbeats 4000000 in
theorem kindex_c (b kd : Int) (l : Bool) (w : World) (T : TT w) : Calls Tryz.prog 113 #[.slice (some ⟨1, 0, none⟩) 14 14, .agg #[.int .i64 b, .int .i64 kd, .bool l]] w fun e w' => e = .returned (.int .i64 (kixI b kd l)) ∧ Gr w w' := by
  obtain ⟨N, hN⟩ : ∃ N, kix b kd l = N := ⟨_, rfl⟩
  have n1 := kix_le b kd l
  have HA := Lib.hid (fun h => @kix_at b kd l h)
  have HO := Lib.hid (fun j h => @kix_no b kd l j h)
  rw [hN] at n1 HA HO
  have E1 : RowKit.Hid (N < 14 → (N : Int) = kixI b kd l) := Lib.hid fun h => by unfold kixI; rw [hN, if_pos h]
  have E2 : RowKit.Hid (N = 14 → (-1 : Int) = kixI b kd l) := Lib.hid fun h => by unfold kixI; rw [hN, if_neg (by omega)]
  have TT0 := Lib.hid T
  have lt0 := T.lt
  obtain ⟨R, hR⟩ : ∃ R, kixI b kd l = R := ⟨_, rfl⟩
  rw [hR] at E1 E2 ⊢
  clear hN hR T
  go_enter Tryz.func113, Tryz.ntmps113
  go_wp2
  go_loopg [8] N (fun kx s8 wr => ∃ k : Nat, k ≤ N ∧ N - k ≤ kx ∧ s8 = .int .i64 (k : Int) ∧ wr.cell? ⟨w.heap.size, 0, none⟩ = some (.int .i64 b) ∧ wr.cell? ⟨w.heap.size, 1, none⟩ = some (.int .i64 kd) ∧ wr.cell? ⟨w.heap.size, 2, none⟩ = some (.bool l) ∧ Gr w wr)
  case atStart => exact ⟨0, by omega, by omega, rfl, by simp [go_sem], by simp [go_sem], by simp [go_sem], (by repeat (first | exact Gr.refl _ | refine Gr.setCell ?_ _ _ (by first | exact Nat.le_refl _ | (simp; omega) | (simp; done)) | refine Gr.grown ?_ _ _ | refine Gr.drewN ?_ _ | refine Gr.drew ?_ | refine Gr.alloc ?_ _ | refine Gr.grow ?_ _ | (refine Gr.trans ?_ (by assumption))))⟩
  case round =>
    obtain ⟨k, hk, hm, rfl, c0, c1, c2, hg⟩ := hrel
    by_cases z : k < 14
    · have T1 := TT0.out.gr hg
      have t0 := T1.b k z
      have t1 := T1.k k z
      have t2 := T1.l k z
      clear T1
      by_cases y : k = N
      · subst y
        obtain ⟨rfl, rfl, rfl⟩ := HA.out z
        have HR := Lib.hid (E1.out z)
        clear E1 E2 HA HO
        go_wp2
        go_quiet (fail)
        go_wp2
        go_ret
        exact ⟨ret1 HR.out, (by repeat (first | exact Gr.refl _ | refine Gr.setCell ?_ _ _ (by first | exact Nat.le_refl _ | (simp; omega) | (simp; done)) | refine Gr.grown ?_ _ _ | refine Gr.drewN ?_ _ | refine Gr.drew ?_ | refine Gr.alloc ?_ _ | refine Gr.grow ?_ _ | (refine Gr.trans ?_ (by assumption))))⟩
      · have hno := HO.out k (by omega)
        have hk2 : k < N := by omega
        clear E1 E2 HA HO
        by_cases q1 : b = kB k
        · subst q1
          by_cases q2 : kd = kK k
          · subst q2
            have q3 : (l == kL k) = false := beq_eq_false_iff_ne.2 fun h => hno ⟨rfl, rfl, h⟩
            clear hno
            go_wp2
            go_quiet (fail)
            go_wp2
            go_roundg (N - (k + 1))
            case measure => omega
            case rel => exact ⟨k + 1, by omega, Nat.le_refl _, by go_num, c0, c1, c2, (by repeat (first | exact Gr.refl _ | refine Gr.setCell ?_ _ _ (by first | exact Nat.le_refl _ | (simp; omega) | (simp; done)) | refine Gr.grown ?_ _ _ | refine Gr.drewN ?_ _ | refine Gr.drew ?_ | refine Gr.alloc ?_ _ | refine Gr.grow ?_ _ | (refine Gr.trans ?_ (by assumption))))⟩
          · have q3 : (kd == kK k) = false := beq_eq_false_iff_ne.2 q2
            clear hno q2
            go_wp2
            go_quiet (fail)
            go_wp2
            go_roundg (N - (k + 1))
            case measure => omega
            case rel => exact ⟨k + 1, by omega, Nat.le_refl _, by go_num, c0, c1, c2, (by repeat (first | exact Gr.refl _ | refine Gr.setCell ?_ _ _ (by first | exact Nat.le_refl _ | (simp; omega) | (simp; done)) | refine Gr.grown ?_ _ _ | refine Gr.drewN ?_ _ | refine Gr.drew ?_ | refine Gr.alloc ?_ _ | refine Gr.grow ?_ _ | (refine Gr.trans ?_ (by assumption))))⟩
        · have q3 : (b == kB k) = false := beq_eq_false_iff_ne.2 q1
          clear hno q1
          go_wp2
          go_quiet (fail)
          go_wp2
          go_roundg (N - (k + 1))
          case measure => omega
          case rel => exact ⟨k + 1, by omega, Nat.le_refl _, by go_num, c0, c1, c2, (by repeat (first | exact Gr.refl _ | refine Gr.setCell ?_ _ _ (by first | exact Nat.le_refl _ | (simp; omega) | (simp; done)) | refine Gr.grown ?_ _ _ | refine Gr.drewN ?_ _ | refine Gr.drew ?_ | refine Gr.alloc ?_ _ | refine Gr.grow ?_ _ | (refine Gr.trans ?_ (by assumption))))⟩
    · have y : k = N := by omega
      have HR := Lib.hid (E2.out (by omega))
      clear E1 E2 HA HO
      go_wp2
      go_ret
      exact ⟨ret1 HR.out, (by repeat (first | exact Gr.refl _ | refine Gr.setCell ?_ _ _ (by first | exact Nat.le_refl _ | (simp; omega) | (simp; done)) | refine Gr.grown ?_ _ _ | refine Gr.drewN ?_ _ | refine Gr.drew ?_ | refine Gr.alloc ?_ _ | refine Gr.grow ?_ _ | (refine Gr.trans ?_ (by assumption))))⟩

end Go.Proofs.YtkiopgegdkeojaaGreatDoor.Walks
