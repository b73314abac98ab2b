/- Walks of add.Right: the library's search of a row of four numbers for one that may not be. -/
import Derived.Test.YtkiopgegdkeojaaGreatDoorShift3
import Derived.Test.YtkiopgegdkeojaaGreatDoorHeb2
import Derived.Test.YtkiopgegdkeojaaGreatDoorRef10
set_option linter.unusedVariables false
set_option linter.unusedSimpArgs false
namespace Go.Proofs.YtkiopgegdkeojaaGreatDoor.Walks
open Go Go.RowKit Go.Sort Go.Proofs.YtkiopgegdkeojaaGreatDoor.Base Go.Proofs.YtkiopgegdkeojaaGreatDoor.Plain Go.Proofs.YtkiopgegdkeojaaGreatDoor.Math

/-- May a field of a duration be? -/
def spF (n : Int) : Bool := decide (-4000000 ≤ n ∧ n ≤ 4000000)
/-- May a duration be? -/
def spR (a b c d : Int) : Bool := spF a && (spF b && (spF c && spF d))
theorem right1_c (n : Int) (w : World) : Calls Tryz.prog 29 #[.int .i64 n] w fun e w' => e = .returned (.bool (!spF n)) ∧ Gr w w' := by
  by_cases a : n < -4000000
  · rw [show (!spF n) = true by unfold spF; simp; omega]
    go_enter Tryz.func29, Tryz.ntmps29
    go_wp2
    go_ret
    exact ⟨rfl, (by repeat (first | exact Gr.refl _ | refine Gr.setCell ?_ _ _ (by first | exact Nat.le_refl _ | (simp; omega) | (simp; done)) | refine Gr.grown ?_ _ _ | refine Gr.drewN ?_ _ | refine Gr.drew ?_ | refine Gr.alloc ?_ _ | refine Gr.grow ?_ _ | (refine Gr.trans ?_ (by assumption))))⟩
  · by_cases b : 4000000 < n
    · rw [show (!spF n) = true by unfold spF; simp; omega]
      go_enter Tryz.func29, Tryz.ntmps29
      go_wp2
      go_ret
      exact ⟨rfl, (by repeat (first | exact Gr.refl _ | refine Gr.setCell ?_ _ _ (by first | exact Nat.le_refl _ | (simp; omega) | (simp; done)) | refine Gr.grown ?_ _ _ | refine Gr.drewN ?_ _ | refine Gr.drew ?_ | refine Gr.alloc ?_ _ | refine Gr.grow ?_ _ | (refine Gr.trans ?_ (by assumption))))⟩
    · rw [show (!spF n) = false by unfold spF; simp; omega]
      go_enter Tryz.func29, Tryz.ntmps29
      go_wp2
      go_ret
      exact ⟨rfl, (by repeat (first | exact Gr.refl _ | refine Gr.setCell ?_ _ _ (by first | exact Nat.le_refl _ | (simp; omega) | (simp; done)) | refine Gr.grown ?_ _ _ | refine Gr.drewN ?_ _ | refine Gr.drew ?_ | refine Gr.alloc ?_ _ | refine Gr.grow ?_ _ | (refine Gr.trans ?_ (by assumption))))⟩
set_option maxRecDepth 20000 in
set_option maxHeartbeats 4000000 in
theorem idx4_c (f : Nat → Int) (g1 : Nat) (K : Nat) (w : World) (hl : g1 < w.heap.size) (hc : ∀ j, j < 4 → w.cell? ⟨g1, j, none⟩ = some (.int .i64 (f j))) (hK : K ≤ 4) (hno : ∀ k, k < K → spF (f k) = true) (hy : K < 4 → spF (f K) = false) (R : Int) (hR : (K < 4 ∧ R = K) ∨ (K = 4 ∧ R = -1)) :
    Calls Tryz.prog 54 #[.slice (some ⟨g1, 0, none⟩) 4 4, .func (.func 29) #[] #[]] w fun e w' => e = .returned (.int .i64 R) ∧ Gr w w' := by
  have HC := Lib.hid hc
  have HN := Lib.hid hno
  have HY := Lib.hid hy
  clear hc hno hy
  go_enter Tryz.func54, Tryz.ntmps54
  go_wp2
  go_loopg [8] K (fun kx s8 wr => ∃ k : Nat, k ≤ K ∧ K - k ≤ kx ∧ s8 = .int .i64 (k : Int) ∧ Gr w wr)
  case atStart => exact ⟨0, by omega, by omega, rfl, Gr.refl _⟩
  case round =>
    obtain ⟨k, hk, hm, rfl, hg⟩ := hrel
    by_cases e : k < 4
    · have ck := hg.keep hl (HC.out k e)
      have k2 : (k : Int) < 4 := by omega
      have C1 := Lib.hid fun W => right1_c (f k) W
      by_cases z : k < K
      · have s1 := HN.out k z
        rw [s1] at C1
        clear s1
        go_wp2_with (first | (go_at_call 29; (with_reducible refine (C1.out _).mono ?_); rintro e wB ⟨rfl, hgwB⟩))
        go_roundg (K - (k + 1))
        case measure => omega
        case rel => exact ⟨k + 1, by omega, Nat.le_refl _, by go_num, hg.trans ((by repeat (first | exact Gr.refl _ | refine Gr.setCell ?_ _ _ (by first | exact Nat.le_refl _ | (simp; omega) | (simp; done)) | refine Gr.grown ?_ _ _ | refine Gr.drewN ?_ _ | refine Gr.drew ?_ | refine Gr.alloc ?_ _ | refine Gr.grow ?_ _ | (refine Gr.trans ?_ (by assumption)))))⟩
      · obtain rfl : k = K := by omega
        have s1 := HY.out e
        rw [s1] at C1
        clear s1
        rcases hR with ⟨-, rfl⟩ | ⟨h, -⟩
        · go_wp2_with (first | (go_at_call 29; (with_reducible refine (C1.out _).mono ?_); rintro e wB ⟨rfl, hgwB⟩))
          go_ret
          exact ⟨rfl, (by repeat (first | exact Gr.refl _ | refine Gr.setCell ?_ _ _ (by first | exact Nat.le_refl _ | (simp; omega) | (simp; done)) | refine Gr.grown ?_ _ _ | refine Gr.drewN ?_ _ | refine Gr.drew ?_ | refine Gr.alloc ?_ _ | refine Gr.grow ?_ _ | (refine Gr.trans ?_ (by assumption))))⟩
        · omega
    · obtain rfl : k = 4 := by omega
      rcases hR with ⟨h, -⟩ | ⟨-, rfl⟩
      · omega
      · go_wp2
        go_ret
        exact ⟨rfl, hg⟩
theorem cont4_c (f : Nat → Int) (g1 : Nat) (K : Nat) (w : World) (hl : g1 < w.heap.size) (hc : ∀ j, j < 4 → w.cell? ⟨g1, j, none⟩ = some (.int .i64 (f j))) (hK : K ≤ 4) (hno : ∀ k, k < K → spF (f k) = true) (hy : K < 4 → spF (f K) = false) :
    Calls Tryz.prog 28 #[.slice (some ⟨g1, 0, none⟩) 4 4, .func (.func 29) #[] #[]] w fun e w' => e = .returned (.bool (decide (K < 4))) ∧ Gr w w' := by
  by_cases k4 : K < 4
  · have C1 := Lib.hid (idx4_c f g1 K w hl hc hK hno hy K (.inl ⟨k4, rfl⟩))
    rw [decide_eq_true k4]
    clear hl hc hno hy
    go_enter Tryz.func28, Tryz.ntmps28
    go_wp2_with (first | (go_at_call 54; (with_reducible refine (C1.out).mono ?_); rintro e wA ⟨rfl, hgwA⟩))
    go_ret
    exact ⟨rfl, (by repeat (first | exact Gr.refl _ | refine Gr.setCell ?_ _ _ (by first | exact Nat.le_refl _ | (simp; omega) | (simp; done)) | refine Gr.grown ?_ _ _ | refine Gr.drewN ?_ _ | refine Gr.drew ?_ | refine Gr.alloc ?_ _ | refine Gr.grow ?_ _ | (refine Gr.trans ?_ (by assumption))))⟩
  · have C1 := Lib.hid (idx4_c f g1 K w hl hc hK hno hy (-1) (.inr ⟨by omega, rfl⟩))
    rw [decide_eq_false k4]
    clear hl hc hno hy
    go_enter Tryz.func28, Tryz.ntmps28
    go_wp2_with (first | (go_at_call 54; (with_reducible refine (C1.out).mono ?_); rintro e wA ⟨rfl, hgwA⟩))
    go_ret
    exact ⟨rfl, (by repeat (first | exact Gr.refl _ | refine Gr.setCell ?_ _ _ (by first | exact Nat.le_refl _ | (simp; omega) | (simp; done)) | refine Gr.grown ?_ _ _ | refine Gr.drewN ?_ _ | refine Gr.drew ?_ | refine Gr.alloc ?_ _ | refine Gr.grow ?_ _ | (refine Gr.trans ?_ (by assumption))))⟩
set_option maxRecDepth 20000 in
set_option maxHeartbeats 4000000 in
theorem right_c (a b c d : Int) (w : World) : Calls Tryz.prog 10 #[.agg #[.int .i64 a, .int .i64 b, .int .i64 c, .int .i64 d]] w fun e w' => e = .returned (.bool (spR a b c d)) ∧ Gr w w' := by
  obtain ⟨f, hf⟩ : ∃ f : Nat → Int, f = fun j => if j = 0 then a else if j = 1 then b else if j = 2 then c else d := ⟨_, rfl⟩
  have k : ∃ K, K ≤ 4 ∧ (∀ k, k < K → spF (f k) = true) ∧ (K < 4 → spF (f K) = false) ∧ spR a b c d = !decide (K < 4) := by
    unfold spR
    cases ha : spF a
    · exact ⟨0, by omega, fun k h => by omega, fun _ => by rw [hf]; exact ha, by simp⟩
    · cases hb : spF b
      · exact ⟨1, by omega, fun k h => by have : k = 0 := by omega
                                          subst this; rw [hf]; exact ha, fun _ => by rw [hf]; exact hb, by simp⟩
      · cases hc : spF c
        · exact ⟨2, by omega, fun k h => by have : k = 0 ∨ k = 1 := by omega
                                            rcases this with rfl | rfl <;> rw [hf]
                                            · exact ha
                                            · exact hb, fun _ => by rw [hf]; exact hc, by simp⟩
        · cases hd : spF d
          · exact ⟨3, by omega, fun k h => by have : k = 0 ∨ k = 1 ∨ k = 2 := by omega
                                              rcases this with rfl | rfl | rfl <;> rw [hf]
                                              · exact ha
                                              · exact hb
                                              · exact hc, fun _ => by rw [hf]; exact hd, by simp⟩
          · exact ⟨4, by omega, fun k h => by have : k = 0 ∨ k = 1 ∨ k = 2 ∨ k = 3 := by omega
                                              rcases this with rfl | rfl | rfl | rfl <;> rw [hf]
                                              · exact ha
                                              · exact hb
                                              · exact hc
                                              · exact hd, fun h => by omega, by simp⟩
  obtain ⟨K, hK, hno, hy, he⟩ := k
  have C1 : RowKit.Hid (∀ W g1, g1 < W.heap.size → W.cell? ⟨g1, 0, none⟩ = some (.int .i64 a) → W.cell? ⟨g1, 1, none⟩ = some (.int .i64 b) → W.cell? ⟨g1, 2, none⟩ = some (.int .i64 c) → W.cell? ⟨g1, 3, none⟩ = some (.int .i64 d) →
      Calls Tryz.prog 28 #[.slice (some ⟨g1, 0, none⟩) 4 4, .func (.func 29) #[] #[]] W fun e w' => e = .returned (.bool (decide (K < 4))) ∧ Gr W w') := Lib.hid fun W g1 hl c0 c1 c2 c3 =>
    cont4_c f g1 K W hl (fun j hj => by
      have : j = 0 ∨ j = 1 ∨ j = 2 ∨ j = 3 := by omega
      rcases this with rfl | rfl | rfl | rfl <;> rw [hf]
      · exact c0
      · exact c1
      · exact c2
      · exact c3) hK hno hy
  rw [he]
  clear he hno hy hf
  go_enter Tryz.func10, Tryz.ntmps10
  go_wp2_with (first | (go_at_call 28; (with_reducible refine (C1.out _ _ (by simp) (by simp [go_sem]) (by simp [go_sem]) (by simp [go_sem]) (by simp [go_sem])).mono ?_); rintro e wA ⟨rfl, hgwA⟩))
  go_ret
  exact ⟨rfl, (by repeat (first | exact Gr.refl _ | refine Gr.setCell ?_ _ _ (by first | exact Nat.le_refl _ | (simp; omega) | (simp; done)) | refine Gr.grown ?_ _ _ | refine Gr.drewN ?_ _ | refine Gr.drew ?_ | refine Gr.alloc ?_ _ | refine Gr.grow ?_ _ | (refine Gr.trans ?_ (by assumption))))⟩

end Go.Proofs.YtkiopgegdkeojaaGreatDoor.Walks
