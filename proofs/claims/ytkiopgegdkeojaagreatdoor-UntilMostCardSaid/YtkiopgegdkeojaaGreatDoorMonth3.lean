/- Walks of package month: how many months, a month's days, the days ahead of it, the month of a day. -/
import Derived.Test.YtkiopgegdkeojaaGreatDoorMonth2
set_option linter.unusedVariables false
set_option linter.unusedSimpArgs false
namespace Go.Proofs.YtkiopgegdkeojaaGreatDoor.Walks
open Go Go.RowKit Go.Sort Go.Proofs.YtkiopgegdkeojaaGreatDoor.Base Go.Proofs.YtkiopgegdkeojaaGreatDoor.Plain Go.Proofs.YtkiopgegdkeojaaGreatDoor.Math

/-- How many months there are, of a type or of none. -/
def mN (b kd : Int) (l : Bool) : Nat := if 0 < knum b kd l then mct l else 0
theorem mN_le (b kd : Int) (l : Bool) : mN b kd l ≤ 13 := by have := mct_le l; unfold mN; split <;> omega
theorem mN_in {b kd : Int} {l : Bool} (h : 0 < knum b kd l) : mN b kd l = mct l := by unfold mN; rw [if_pos h]
theorem mN_out {b kd : Int} {l : Bool} (h : knum b kd l = 0) : mN b kd l = 0 := by unfold mN; rw [if_neg (by omega)]

set_option maxRecDepth 20000 in
set_option maxHeartbeats 4000000 in
theorem mof_out (b kd : Int) (l : Bool) (w : World) (G : GT w) (hk : knum b kd l = 0) :
    Calls Tryz.prog 89 #[.agg #[.int .i64 b, .int .i64 kd, .bool l]] w fun e w' => e = .returned (.agg #[.int .i64 0, .int .i64 0, .int .i64 0, .int .i64 0, .int .i64 0, .int .i64 0, .int .i64 0, .int .i64 0, .int .i64 0, .int .i64 0, .int .i64 0, .int .i64 0, .int .i64 0, .int .i64 0]) ∧ Gr w w' := by
  have C1 : RowKit.Hid (∀ W, Gr w W → Calls Tryz.prog 104 #[.agg #[.int .i64 b, .int .i64 kd, .bool l]] W fun e w' => e = .returned (.int .i64 0) ∧ Gr W w') := Lib.hid fun W hW => by
    have := knumber_c b kd l W (G.t.gr hW); rwa [hk] at this
  clear hk G
  have TZ := Lib.hid (fun W => tab_zero (fun _ => 0) false W)
  go_enter Tryz.func89, Tryz.ntmps89
  go_wp2_with (first | ((go_at_call 104; (with_reducible refine (C1.out _ ((by repeat (first | exact Gr.refl _ | refine Gr.setCell ?_ _ _ (by first | exact Nat.le_refl _ | (simp; omega) | (simp; done)) | refine Gr.grown ?_ _ _ | refine Gr.drewN ?_ _ | refine Gr.drew ?_ | refine Gr.alloc ?_ _ | refine Gr.grow ?_ _ | (refine Gr.trans ?_ (by assumption)))))).mono ?_); rintro e wA ⟨rfl, hgwA⟩); obtain ⟨r0, r1, r2, r3, r4, r5, r6, r7, r8, r9, r10, r11, r12, r13⟩ := ((TZ.out (w.alloc (.cells #[.int .i64 b, .int .i64 kd, .bool l] 61))).gr hgwA).cs; obtain ⟨f0, f1, f2, f3, f4, f5, f6, f7, f8, f9, f10, f11, f12, f13⟩ := ((TZ.out (w.alloc (.cells #[.int .i64 b, .int .i64 kd, .bool l] 61))).gr hgwA).fs; rw [World.size_alloc] at r0 r1 r2 r3 r4 r5 r6 r7 r8 r9 r10 r11 r12 r13 f0 f1 f2 f3 f4 f5 f6 f7 f8 f9 f10 f11 f12 f13))
  change bodyPost _ _ _ _ _ (stores wA (w.heap.size + 1) [.int .i64 0, .int .i64 0, .int .i64 0, .int .i64 0, .int .i64 0, .int .i64 0, .int .i64 0, .int .i64 0, .int .i64 0, .int .i64 0, .int .i64 0, .int .i64 0, .int .i64 0, .int .i64 0] 0)
  have gA : Gr w wA := (by repeat (first | exact Gr.refl _ | refine Gr.setCell ?_ _ _ (by first | exact Nat.le_refl _ | (simp; omega) | (simp; done)) | refine Gr.grown ?_ _ _ | refine Gr.drewN ?_ _ | refine Gr.drew ?_ | refine Gr.alloc ?_ _ | refine Gr.grow ?_ _ | (refine Gr.trans ?_ (by assumption))))
  have hF : Gr w (stores wA (w.heap.size + 1) [.int .i64 0, .int .i64 0, .int .i64 0, .int .i64 0, .int .i64 0, .int .i64 0, .int .i64 0, .int .i64 0, .int .i64 0, .int .i64 0, .int .i64 0, .int .i64 0, .int .i64 0, .int .i64 0] 0) := stores_gr gA (by omega)
  have cF := stores_cell (w := wA) (b := w.heap.size + 1) (vs := [.int .i64 0, .int .i64 0, .int .i64 0, .int .i64 0, .int .i64 0, .int .i64 0, .int .i64 0, .int .i64 0, .int .i64 0, .int .i64 0, .int .i64 0, .int .i64 0, .int .i64 0, .int .i64 0]) (o := 0) (fun j hj => by
    have T := (TZ.out (w.alloc (.cells #[.int .i64 b, .int .i64 kd, .bool l] 61))).gr hgwA
    rw [World.size_alloc] at T
    by_cases z : j < 13
    · exact ⟨_, by rw [Nat.zero_add]; exact T.c j z⟩
    · simp at hj
      obtain rfl : j = 13 := by omega
      exact ⟨_, T.z⟩)
  obtain ⟨WF, hWF⟩ : ∃ WF, WF = stores wA (w.heap.size + 1) [.int .i64 0, .int .i64 0, .int .i64 0, .int .i64 0, .int .i64 0, .int .i64 0, .int .i64 0, .int .i64 0, .int .i64 0, .int .i64 0, .int .i64 0, .int .i64 0, .int .i64 0, .int .i64 0] 0 := ⟨_, rfl⟩
  rw [← hWF] at cF hF ⊢
  have s0 := cF 0 (by simp)
  have s1 := cF 1 (by simp)
  have s2 := cF 2 (by simp)
  have s3 := cF 3 (by simp)
  have s4 := cF 4 (by simp)
  have s5 := cF 5 (by simp)
  have s6 := cF 6 (by simp)
  have s7 := cF 7 (by simp)
  have s8 := cF 8 (by simp)
  have s9 := cF 9 (by simp)
  have s10 := cF 10 (by simp)
  have s11 := cF 11 (by simp)
  have s12 := cF 12 (by simp)
  have s13 := cF 13 (by simp)
  simp only [Nat.zero_add, List.getElem?_cons_zero, List.getElem?_cons_succ] at s0 s1 s2 s3 s4 s5 s6 s7 s8 s9 s10 s11 s12 s13
  clear cF hWF r0 r1 r2 r3 r4 r5 r6 r7 r8 r9 r10 r11 r12 r13 f0 f1 f2 f3 f4 f5 f6 f7 f8 f9 f10 f11 f12 f13 TZ C1 gA hgwA
  exact bodyPost_ret (v := .agg #[.int .i64 0, .int .i64 0, .int .i64 0, .int .i64 0, .int .i64 0, .int .i64 0, .int .i64 0, .int .i64 0, .int .i64 0, .int .i64 0, .int .i64 0, .int .i64 0, .int .i64 0, .int .i64 0]) (by simp [results, Tryz.results89, go_sem, s0, s1, s2, s3, s4, s5, s6, s7, s8, s9, s10, s11, s12, s13]) rfl ⟨rfl, hF⟩
theorem mof_c (b kd : Int) (l : Bool) (w : World) (G : GT w) :
    Calls Tryz.prog 89 #[.agg #[.int .i64 b, .int .i64 kd, .bool l]] w fun e w' => e = .returned (.agg #[.int .i64 (tf (mlen kd l) (mN b kd l) 0), .int .i64 (tf (mlen kd l) (mN b kd l) 1), .int .i64 (tf (mlen kd l) (mN b kd l) 2), .int .i64 (tf (mlen kd l) (mN b kd l) 3), .int .i64 (tf (mlen kd l) (mN b kd l) 4), .int .i64 (tf (mlen kd l) (mN b kd l) 5), .int .i64 (tf (mlen kd l) (mN b kd l) 6), .int .i64 (tf (mlen kd l) (mN b kd l) 7), .int .i64 (tf (mlen kd l) (mN b kd l) 8), .int .i64 (tf (mlen kd l) (mN b kd l) 9), .int .i64 (tf (mlen kd l) (mN b kd l) 10), .int .i64 (tf (mlen kd l) (mN b kd l) 11), .int .i64 (tf (mlen kd l) (mN b kd l) 12), .int .i64 ((mN b kd l) : Int)]) ∧ Gr w w' := by
  have := knum_range b kd l
  by_cases h : 0 < knum b kd l
  · rw [mN_in h]; exact mof_in b kd l w G h
  · rw [mN_out (by omega)]; simpa [tf] using mof_out b kd l w G (by omega)

theorem tab_new (M : Nat → Int) (n : Nat) (w : World) : Tab (w.alloc (.cells #[.int .i64 (tf M n 0), .int .i64 (tf M n 1), .int .i64 (tf M n 2), .int .i64 (tf M n 3), .int .i64 (tf M n 4), .int .i64 (tf M n 5), .int .i64 (tf M n 6), .int .i64 (tf M n 7), .int .i64 (tf M n 8), .int .i64 (tf M n 9), .int .i64 (tf M n 10), .int .i64 (tf M n 11), .int .i64 (tf M n 12), .int .i64 (n : Int)] 100)) w.heap.size (tf M n) n := by
  refine ⟨by simp, fun j hj => ?_, by simp [go_sem], fun j hj => by simp [go_sem]⟩
  have : j = 0 ∨ j = 1 ∨ j = 2 ∨ j = 3 ∨ j = 4 ∨ j = 5 ∨ j = 6 ∨ j = 7 ∨ j = 8 ∨ j = 9 ∨ j = 10 ∨ j = 11 ∨ j = 12 := by omega
  rcases this with rfl | rfl | rfl | rfl | rfl | rfl | rfl | rfl | rfl | rfl | rfl | rfl | rfl <;> simp [go_sem]

set_option maxRecDepth 20000 in
set_option maxHeartbeats 1000000 in
theorem thas_c (M : Nat → Int) (n : Nat) (m : Int) (w : World) : Calls Tryz.prog 90 #[.agg #[.int .i64 (tf M n 0), .int .i64 (tf M n 1), .int .i64 (tf M n 2), .int .i64 (tf M n 3), .int .i64 (tf M n 4), .int .i64 (tf M n 5), .int .i64 (tf M n 6), .int .i64 (tf M n 7), .int .i64 (tf M n 8), .int .i64 (tf M n 9), .int .i64 (tf M n 10), .int .i64 (tf M n 11), .int .i64 (tf M n 12), .int .i64 (n : Int)], .int .i64 m] w fun e w' => e = .returned (.bool (decide (0 < m ∧ m ≤ n))) ∧ Gr w w' := by
  obtain ⟨B, hB⟩ : ∃ B, decide (0 < m ∧ m ≤ (n : Int)) = B := ⟨_, rfl⟩
  rw [hB]
  by_cases h : 0 < m
  · have E : RowKit.Hid (decide (m ≤ (n : Int)) = B) := Lib.hid (by rw [← hB]; simp [h])
    clear hB
    go_enter Tryz.func90, Tryz.ntmps90
    go_wp2
    go_ret
    exact ⟨retb E.out, (by repeat (first | exact Gr.refl _ | refine Gr.setCell ?_ _ _ (by first | exact Nat.le_refl _ | (simp; omega) | (simp; done)) | refine Gr.grown ?_ _ _ | refine Gr.drewN ?_ _ | refine Gr.drew ?_ | refine Gr.alloc ?_ _ | refine Gr.grow ?_ _ | (refine Gr.trans ?_ (by assumption))))⟩
  · have E : RowKit.Hid (false = B) := Lib.hid (by rw [← hB]; simp [h])
    clear hB
    have h2 : m ≤ 0 := by omega
    clear h
    go_enter Tryz.func90, Tryz.ntmps90
    go_wp2
    go_ret
    exact ⟨retb E.out, (by repeat (first | exact Gr.refl _ | refine Gr.setCell ?_ _ _ (by first | exact Nat.le_refl _ | (simp; omega) | (simp; done)) | refine Gr.grown ?_ _ _ | refine Gr.drewN ?_ _ | refine Gr.drew ?_ | refine Gr.alloc ?_ _ | refine Gr.grow ?_ _ | (refine Gr.trans ?_ (by assumption))))⟩

set_option maxRecDepth 20000 in
theorem field_tab (M : Nat → Int) (n : Nat) : ∀ w, (Instr.field 100 (.agg #[.int .i64 (tf M n 0), .int .i64 (tf M n 1), .int .i64 (tf M n 2), .int .i64 (tf M n 3), .int .i64 (tf M n 4), .int .i64 (tf M n 5), .int .i64 (tf M n 6), .int .i64 (tf M n 7), .int .i64 (tf M n 8), .int .i64 (tf M n 9), .int .i64 (tf M n 10), .int .i64 (tf M n 11), .int .i64 (tf M n 12), .int .i64 (n : Int)]) 1).run Tryz.prog w = .ok (.int .i64 (n : Int)) w := fun w => by
  have hs : ∀ w, (sizeOf 3).run Tryz.prog w = .ok 1 w := fun _ => rfl
  simp [Instr.field, run_underlying Tryz.underlying100, asAgg, go_sem]

set_option maxRecDepth 20000 in
set_option maxHeartbeats 1000000 in
theorem mdays_in (b kd : Int) (l : Bool) (j : Nat) (w : World) (G : GT w) (hj : j < mN b kd l) : Calls Tryz.prog 70 #[.agg #[.int .i64 b, .int .i64 kd, .bool l], .int .i64 ((j : Int) + 1)] w fun e w' => e = .returned (.int .i64 (mlen kd l j)) ∧ Gr w w' := by
  have hN := mN_le b kd l
  have C1 : RowKit.Hid (∀ W, Gr w W → Calls Tryz.prog 89 #[.agg #[.int .i64 b, .int .i64 kd, .bool l]] W fun e w' => e = .returned (.agg #[.int .i64 (tf (mlen kd l) (mN b kd l) 0), .int .i64 (tf (mlen kd l) (mN b kd l) 1), .int .i64 (tf (mlen kd l) (mN b kd l) 2), .int .i64 (tf (mlen kd l) (mN b kd l) 3), .int .i64 (tf (mlen kd l) (mN b kd l) 4), .int .i64 (tf (mlen kd l) (mN b kd l) 5), .int .i64 (tf (mlen kd l) (mN b kd l) 6), .int .i64 (tf (mlen kd l) (mN b kd l) 7), .int .i64 (tf (mlen kd l) (mN b kd l) 8), .int .i64 (tf (mlen kd l) (mN b kd l) 9), .int .i64 (tf (mlen kd l) (mN b kd l) 10), .int .i64 (tf (mlen kd l) (mN b kd l) 11), .int .i64 (tf (mlen kd l) (mN b kd l) 12), .int .i64 ((mN b kd l) : Int)]) ∧ Gr W w') := Lib.hid fun W hW => mof_c b kd l W (G.gr hW)
  obtain ⟨N, hN2⟩ : ∃ N, mN b kd l = N := ⟨_, rfl⟩
  obtain ⟨M, hM⟩ : ∃ M, mlen kd l = M := ⟨_, rfl⟩
  rw [hN2, hM] at C1
  rw [hN2] at hj hN
  rw [hM]
  have EJ : RowKit.Hid (tf M N j = M j) := Lib.hid (by unfold tf; rw [if_pos hj])
  have EB : RowKit.Hid (decide (0 < (j : Int) + 1 ∧ (j : Int) + 1 ≤ N) = true) := Lib.hid (decide_eq_true (by omega))
  have j13 : j < 13 := by omega
  have ji : (j : Int) < 13 := by omega
  have CH := Lib.hid (fun W => thas_c M N ((j : Int) + 1) W)
  rw [EB.out] at CH
  clear G hN2 hM hj hN EB
  go_enter Tryz.func70, Tryz.ntmps70
  go_wp2_with (first | (go_at_call 89; (with_reducible refine (C1.out _ ((by repeat (first | exact Gr.refl _ | refine Gr.setCell ?_ _ _ (by first | exact Nat.le_refl _ | (simp; omega) | (simp; done)) | refine Gr.grown ?_ _ _ | refine Gr.drewN ?_ _ | refine Gr.drew ?_ | refine Gr.alloc ?_ _ | refine Gr.grow ?_ _ | (refine Gr.trans ?_ (by assumption)))))).mono ?_); rintro e wA ⟨rfl, hgwA⟩) | ((go_at_call 90; (with_reducible refine (CH.out _).mono ?_); rintro e wB ⟨rfl, hgwB⟩); have cj := ((tab_new M N wA).gr hgwB).c j j13; rw [EJ.out] at cj))
  go_ret
  exact ⟨rfl, (by repeat (first | exact Gr.refl _ | refine Gr.setCell ?_ _ _ (by first | exact Nat.le_refl _ | (simp; omega) | (simp; done)) | refine Gr.grown ?_ _ _ | refine Gr.drewN ?_ _ | refine Gr.drew ?_ | refine Gr.alloc ?_ _ | refine Gr.grow ?_ _ | (refine Gr.trans ?_ (by assumption))))⟩
set_option maxRecDepth 20000 in
set_option maxHeartbeats 1000000 in
theorem mdays_out (b kd : Int) (l : Bool) (m : Int) (w : World) (G : GT w) (hm : m < 1 ∨ mN b kd l < m) : Calls Tryz.prog 70 #[.agg #[.int .i64 b, .int .i64 kd, .bool l], .int .i64 m] w fun e w' => e = .returned (.int .i64 0) ∧ Gr w w' := by
  have C1 : RowKit.Hid (∀ W, Gr w W → Calls Tryz.prog 89 #[.agg #[.int .i64 b, .int .i64 kd, .bool l]] W fun e w' => e = .returned (.agg #[.int .i64 (tf (mlen kd l) (mN b kd l) 0), .int .i64 (tf (mlen kd l) (mN b kd l) 1), .int .i64 (tf (mlen kd l) (mN b kd l) 2), .int .i64 (tf (mlen kd l) (mN b kd l) 3), .int .i64 (tf (mlen kd l) (mN b kd l) 4), .int .i64 (tf (mlen kd l) (mN b kd l) 5), .int .i64 (tf (mlen kd l) (mN b kd l) 6), .int .i64 (tf (mlen kd l) (mN b kd l) 7), .int .i64 (tf (mlen kd l) (mN b kd l) 8), .int .i64 (tf (mlen kd l) (mN b kd l) 9), .int .i64 (tf (mlen kd l) (mN b kd l) 10), .int .i64 (tf (mlen kd l) (mN b kd l) 11), .int .i64 (tf (mlen kd l) (mN b kd l) 12), .int .i64 ((mN b kd l) : Int)]) ∧ Gr W w') := Lib.hid fun W hW => mof_c b kd l W (G.gr hW)
  have CH := Lib.hid (fun W => thas_c (mlen kd l) (mN b kd l) m W)
  rw [decide_eq_false (by omega)] at CH
  clear G hm
  go_enter Tryz.func70, Tryz.ntmps70
  go_wp2_with (first | (go_at_call 89; (with_reducible refine (C1.out _ ((by repeat (first | exact Gr.refl _ | refine Gr.setCell ?_ _ _ (by first | exact Nat.le_refl _ | (simp; omega) | (simp; done)) | refine Gr.grown ?_ _ _ | refine Gr.drewN ?_ _ | refine Gr.drew ?_ | refine Gr.alloc ?_ _ | refine Gr.grow ?_ _ | (refine Gr.trans ?_ (by assumption)))))).mono ?_); rintro e wA ⟨rfl, hgwA⟩) | (go_at_call 90; (with_reducible refine (CH.out _).mono ?_); rintro e wB ⟨rfl, hgwB⟩))
  go_ret
  exact ⟨rfl, (by repeat (first | exact Gr.refl _ | refine Gr.setCell ?_ _ _ (by first | exact Nat.le_refl _ | (simp; omega) | (simp; done)) | refine Gr.grown ?_ _ _ | refine Gr.drewN ?_ _ | refine Gr.drew ?_ | refine Gr.alloc ?_ _ | refine Gr.grow ?_ _ | (refine Gr.trans ?_ (by assumption))))⟩

end Go.Proofs.YtkiopgegdkeojaaGreatDoor.Walks
