/- A month's last day is the day ahead of the next month's first, or of the next year's: the walk of the law; every input. -/
import Derived.Test.YtgjgkldkdmohjaaDoorHebTells
set_option linter.unusedVariables false
set_option linter.unusedSimpArgs false
namespace Go.Proofs.YtgjgkldkdmohjaaDoor.Walks
open Go Go.RowKit Go.Sort Go.Proofs.YtgjgkldkdmohjaaDoor.Base Go.Proofs.YtgjgkldkdmohjaaDoor.Plain Go.Proofs.YtgjgkldkdmohjaaDoor.Math

set_option maxRecDepth 20000 in
set_option maxHeartbeats 8000000 in
theorem hmonths_core (y n L A x1 x2 x4 H : Int) (c x3 : Bool) (w : World) (G : GT w) (l0 : 29 ≤ L) (l1 : L ≤ 30) (a0 : -1373427 ≤ A) (a1 : A ≤ 2278650)
    (c1 : ∀ W, Gr w W → Calls Tryd.prog 47 #[.int .i64 y, .agg #[.int .i64 n, .bool c]] W fun e w' => e = .returned (.tuple #[.int .i64 L, .int .i64 0]) ∧ Gr W w')
    (c2 : ∀ W, Gr w W → Calls Tryd.prog 43 #[.agg #[.int .i64 y, .int .i64 n, .bool c, .int .i64 L]] W fun e w' => e = .returned (.tuple #[.int .i64 A, .int .i64 0]) ∧ Gr W w')
    (c3 : ∀ W, Gr w W → Calls Tryd.prog 43 #[.agg #[.int .i64 y, .int .i64 n, .bool c, .int .i64 (L + 1)]] W fun e w' => e = .returned (.tuple #[.int .i64 0, .int .i64 4]) ∧ Gr W w')
    (c4 : ∀ W, Gr w W → Calls Tryd.prog 45 #[.int .i64 (A + 1)] W fun e w' => e = .returned (.tuple #[.agg #[.int .i64 x1, .int .i64 x2, .bool x3, .int .i64 x4], .int .i64 H]) ∧ Gr W w')
    (hq : (H = 0 ∧ x4 = 1 ∧ ¬ (x2 = n ∧ x3 = c)) ∨ (H = 2 ∧ y = 9999 ∧ n = 12)) :
    Calls Tryd.prog 12 #[.int .i64 y, .agg #[.int .i64 n, .bool c]] w fun e w' => e = .returned (.bool true) ∧ Gr w w' := by
  have C1 := Lib.hid c1
  have C2 := Lib.hid c2
  have C3 := Lib.hid c3
  have C4 := Lib.hid c4
  have C9 := Lib.hid fun W (hW : Gr w W) => awake10_c W (G.gr hW)
  clear c1 c2 c3 c4 G
  rcases hq with ⟨rfl, rfl, hq⟩ | ⟨rfl, rfl, rfl⟩
  · by_cases q1 : x2 = n
    · subst q1
      have q2 : (x3 == c) = false := beq_eq_false_iff_ne.2 fun z => hq ⟨rfl, z⟩
      clear hq
      go_enter Tryd.func12, Tryd.ntmps12
      go_wp2_with (first | (go_at_call 47; (with_reducible refine (C1.out _ ((by repeat (first | exact Gr.refl _ | refine Gr.setCell ?_ _ _ (by first | exact Nat.le_refl _ | (simp; omega) | (simp; done)) | refine Gr.grown ?_ _ _ | refine Gr.drewN ?_ _ | refine Gr.drew ?_ | refine Gr.alloc ?_ _ | refine Gr.grow ?_ _ | (refine Gr.trans ?_ (by assumption)))))).mono ?_); rintro e wA ⟨rfl, hgwA⟩; obtain ⟨hclwA, hfzwA, hszwA⟩ := gcell hgwA; (try simp [Nat.add_one_le_iff] at hszwA); have hlwA_w : w.heap.size < wA.heap.size := (by omega)) | (go_at_call 43; (with_reducible refine (C2.out _ ((by repeat (first | exact Gr.refl _ | refine Gr.setCell ?_ _ _ (by first | exact Nat.le_refl _ | (simp; omega) | (simp; done)) | refine Gr.grown ?_ _ _ | refine Gr.drewN ?_ _ | refine Gr.drew ?_ | refine Gr.alloc ?_ _ | refine Gr.grow ?_ _ | (refine Gr.trans ?_ (by assumption)))))).mono ?_); rintro e wB ⟨rfl, hgwB⟩; obtain ⟨hclwB, hfzwB, hszwB⟩ := gcell hgwB; (try simp [Nat.add_one_le_iff] at hszwB); have hlwB_w : w.heap.size < wB.heap.size := (by omega)) | (go_at_call 43; (with_reducible refine (C3.out _ ((by repeat (first | exact Gr.refl _ | refine Gr.setCell ?_ _ _ (by first | exact Nat.le_refl _ | (simp; omega) | (simp; done)) | refine Gr.grown ?_ _ _ | refine Gr.drewN ?_ _ | refine Gr.drew ?_ | refine Gr.alloc ?_ _ | refine Gr.grow ?_ _ | (refine Gr.trans ?_ (by assumption)))))).mono ?_); rintro e wC ⟨rfl, hgwC⟩; obtain ⟨hclwC, hfzwC, hszwC⟩ := gcell hgwC; (try simp [Nat.add_one_le_iff] at hszwC); have hlwC_w : w.heap.size < wC.heap.size := (by omega)) | (go_at_call 45; (with_reducible refine (C4.out _ ((by repeat (first | exact Gr.refl _ | refine Gr.setCell ?_ _ _ (by first | exact Nat.le_refl _ | (simp; omega) | (simp; done)) | refine Gr.grown ?_ _ _ | refine Gr.drewN ?_ _ | refine Gr.drew ?_ | refine Gr.alloc ?_ _ | refine Gr.grow ?_ _ | (refine Gr.trans ?_ (by assumption)))))).mono ?_); rintro e wD ⟨rfl, hgwD⟩; obtain ⟨hclwD, hfzwD, hszwD⟩ := gcell hgwD; (try simp [Nat.add_one_le_iff] at hszwD); have hlwD_w : w.heap.size < wD.heap.size := (by omega)) | (go_at_call 46; (with_reducible refine (C9.out _ ((by repeat (first | exact Gr.refl _ | refine Gr.setCell ?_ _ _ (by first | exact Nat.le_refl _ | (simp; omega) | (simp; done)) | refine Gr.grown ?_ _ _ | refine Gr.drewN ?_ _ | refine Gr.drew ?_ | refine Gr.alloc ?_ _ | refine Gr.grow ?_ _ | (refine Gr.trans ?_ (by assumption)))))).mono ?_); rintro e wE ⟨rfl, hgwE⟩; obtain ⟨hclwE, hfzwE, hszwE⟩ := gcell hgwE; (try simp [Nat.add_one_le_iff] at hszwE); have hlwE_w : w.heap.size < wE.heap.size := (by omega); have hlwE_wD : wD.heap.size < wE.heap.size := (by omega)))
      go_ret
      exact ⟨rfl, (by repeat (first | exact Gr.refl _ | refine Gr.setCell ?_ _ _ (by first | exact Nat.le_refl _ | (simp; omega) | (simp; done)) | refine Gr.grown ?_ _ _ | refine Gr.drewN ?_ _ | refine Gr.drew ?_ | refine Gr.alloc ?_ _ | refine Gr.grow ?_ _ | (refine Gr.trans ?_ (by assumption))))⟩
    · have q2 : (x2 == n) = false := beq_eq_false_iff_ne.2 q1
      clear hq q1
      go_enter Tryd.func12, Tryd.ntmps12
      go_wp2_with (first | (go_at_call 47; (with_reducible refine (C1.out _ ((by repeat (first | exact Gr.refl _ | refine Gr.setCell ?_ _ _ (by first | exact Nat.le_refl _ | (simp; omega) | (simp; done)) | refine Gr.grown ?_ _ _ | refine Gr.drewN ?_ _ | refine Gr.drew ?_ | refine Gr.alloc ?_ _ | refine Gr.grow ?_ _ | (refine Gr.trans ?_ (by assumption)))))).mono ?_); rintro e wA ⟨rfl, hgwA⟩; obtain ⟨hclwA, hfzwA, hszwA⟩ := gcell hgwA; (try simp [Nat.add_one_le_iff] at hszwA); have hlwA_w : w.heap.size < wA.heap.size := (by omega)) | (go_at_call 43; (with_reducible refine (C2.out _ ((by repeat (first | exact Gr.refl _ | refine Gr.setCell ?_ _ _ (by first | exact Nat.le_refl _ | (simp; omega) | (simp; done)) | refine Gr.grown ?_ _ _ | refine Gr.drewN ?_ _ | refine Gr.drew ?_ | refine Gr.alloc ?_ _ | refine Gr.grow ?_ _ | (refine Gr.trans ?_ (by assumption)))))).mono ?_); rintro e wB ⟨rfl, hgwB⟩; obtain ⟨hclwB, hfzwB, hszwB⟩ := gcell hgwB; (try simp [Nat.add_one_le_iff] at hszwB); have hlwB_w : w.heap.size < wB.heap.size := (by omega)) | (go_at_call 43; (with_reducible refine (C3.out _ ((by repeat (first | exact Gr.refl _ | refine Gr.setCell ?_ _ _ (by first | exact Nat.le_refl _ | (simp; omega) | (simp; done)) | refine Gr.grown ?_ _ _ | refine Gr.drewN ?_ _ | refine Gr.drew ?_ | refine Gr.alloc ?_ _ | refine Gr.grow ?_ _ | (refine Gr.trans ?_ (by assumption)))))).mono ?_); rintro e wC ⟨rfl, hgwC⟩; obtain ⟨hclwC, hfzwC, hszwC⟩ := gcell hgwC; (try simp [Nat.add_one_le_iff] at hszwC); have hlwC_w : w.heap.size < wC.heap.size := (by omega)) | (go_at_call 45; (with_reducible refine (C4.out _ ((by repeat (first | exact Gr.refl _ | refine Gr.setCell ?_ _ _ (by first | exact Nat.le_refl _ | (simp; omega) | (simp; done)) | refine Gr.grown ?_ _ _ | refine Gr.drewN ?_ _ | refine Gr.drew ?_ | refine Gr.alloc ?_ _ | refine Gr.grow ?_ _ | (refine Gr.trans ?_ (by assumption)))))).mono ?_); rintro e wD ⟨rfl, hgwD⟩; obtain ⟨hclwD, hfzwD, hszwD⟩ := gcell hgwD; (try simp [Nat.add_one_le_iff] at hszwD); have hlwD_w : w.heap.size < wD.heap.size := (by omega)) | (go_at_call 46; (with_reducible refine (C9.out _ ((by repeat (first | exact Gr.refl _ | refine Gr.setCell ?_ _ _ (by first | exact Nat.le_refl _ | (simp; omega) | (simp; done)) | refine Gr.grown ?_ _ _ | refine Gr.drewN ?_ _ | refine Gr.drew ?_ | refine Gr.alloc ?_ _ | refine Gr.grow ?_ _ | (refine Gr.trans ?_ (by assumption)))))).mono ?_); rintro e wE ⟨rfl, hgwE⟩; obtain ⟨hclwE, hfzwE, hszwE⟩ := gcell hgwE; (try simp [Nat.add_one_le_iff] at hszwE); have hlwE_w : w.heap.size < wE.heap.size := (by omega); have hlwE_wD : wD.heap.size < wE.heap.size := (by omega)))
      go_ret
      exact ⟨rfl, (by repeat (first | exact Gr.refl _ | refine Gr.setCell ?_ _ _ (by first | exact Nat.le_refl _ | (simp; omega) | (simp; done)) | refine Gr.grown ?_ _ _ | refine Gr.drewN ?_ _ | refine Gr.drew ?_ | refine Gr.alloc ?_ _ | refine Gr.grow ?_ _ | (refine Gr.trans ?_ (by assumption))))⟩
  · go_enter Tryd.func12, Tryd.ntmps12
    go_wp2_with (first | (go_at_call 47; (with_reducible refine (C1.out _ ((by repeat (first | exact Gr.refl _ | refine Gr.setCell ?_ _ _ (by first | exact Nat.le_refl _ | (simp; omega) | (simp; done)) | refine Gr.grown ?_ _ _ | refine Gr.drewN ?_ _ | refine Gr.drew ?_ | refine Gr.alloc ?_ _ | refine Gr.grow ?_ _ | (refine Gr.trans ?_ (by assumption)))))).mono ?_); rintro e wA ⟨rfl, hgwA⟩; obtain ⟨hclwA, hfzwA, hszwA⟩ := gcell hgwA; (try simp [Nat.add_one_le_iff] at hszwA); have hlwA_w : w.heap.size < wA.heap.size := (by omega)) | (go_at_call 43; (with_reducible refine (C2.out _ ((by repeat (first | exact Gr.refl _ | refine Gr.setCell ?_ _ _ (by first | exact Nat.le_refl _ | (simp; omega) | (simp; done)) | refine Gr.grown ?_ _ _ | refine Gr.drewN ?_ _ | refine Gr.drew ?_ | refine Gr.alloc ?_ _ | refine Gr.grow ?_ _ | (refine Gr.trans ?_ (by assumption)))))).mono ?_); rintro e wB ⟨rfl, hgwB⟩; obtain ⟨hclwB, hfzwB, hszwB⟩ := gcell hgwB; (try simp [Nat.add_one_le_iff] at hszwB); have hlwB_w : w.heap.size < wB.heap.size := (by omega)) | (go_at_call 43; (with_reducible refine (C3.out _ ((by repeat (first | exact Gr.refl _ | refine Gr.setCell ?_ _ _ (by first | exact Nat.le_refl _ | (simp; omega) | (simp; done)) | refine Gr.grown ?_ _ _ | refine Gr.drewN ?_ _ | refine Gr.drew ?_ | refine Gr.alloc ?_ _ | refine Gr.grow ?_ _ | (refine Gr.trans ?_ (by assumption)))))).mono ?_); rintro e wC ⟨rfl, hgwC⟩; obtain ⟨hclwC, hfzwC, hszwC⟩ := gcell hgwC; (try simp [Nat.add_one_le_iff] at hszwC); have hlwC_w : w.heap.size < wC.heap.size := (by omega)) | (go_at_call 45; (with_reducible refine (C4.out _ ((by repeat (first | exact Gr.refl _ | refine Gr.setCell ?_ _ _ (by first | exact Nat.le_refl _ | (simp; omega) | (simp; done)) | refine Gr.grown ?_ _ _ | refine Gr.drewN ?_ _ | refine Gr.drew ?_ | refine Gr.alloc ?_ _ | refine Gr.grow ?_ _ | (refine Gr.trans ?_ (by assumption)))))).mono ?_); rintro e wD ⟨rfl, hgwD⟩; obtain ⟨hclwD, hfzwD, hszwD⟩ := gcell hgwD; (try simp [Nat.add_one_le_iff] at hszwD); have hlwD_w : w.heap.size < wD.heap.size := (by omega)) | (go_at_call 46; (with_reducible refine (C9.out _ ((by repeat (first | exact Gr.refl _ | refine Gr.setCell ?_ _ _ (by first | exact Nat.le_refl _ | (simp; omega) | (simp; done)) | refine Gr.grown ?_ _ _ | refine Gr.drewN ?_ _ | refine Gr.drew ?_ | refine Gr.alloc ?_ _ | refine Gr.grow ?_ _ | (refine Gr.trans ?_ (by assumption)))))).mono ?_); rintro e wE ⟨rfl, hgwE⟩; obtain ⟨hclwE, hfzwE, hszwE⟩ := gcell hgwE; (try simp [Nat.add_one_le_iff] at hszwE); have hlwE_w : w.heap.size < wE.heap.size := (by omega); have hlwE_wD : wD.heap.size < wE.heap.size := (by omega)))
    go_ret
    exact ⟨rfl, (by repeat (first | exact Gr.refl _ | refine Gr.setCell ?_ _ _ (by first | exact Nat.le_refl _ | (simp; omega) | (simp; done)) | refine Gr.grown ?_ _ _ | refine Gr.drewN ?_ _ | refine Gr.drew ?_ | refine Gr.alloc ?_ _ | refine Gr.grow ?_ _ | (refine Gr.trans ?_ (by assumption))))⟩
set_option maxHeartbeats 2000000 in
theorem hmonths_e (y n E : Int) (c : Bool) (w : World) (G : GT w) (hE : E ≠ 0)
    (c1 : ∀ W, Gr w W → Calls Tryd.prog 47 #[.int .i64 y, .agg #[.int .i64 n, .bool c]] W fun e w' => e = .returned (.tuple #[.int .i64 0, .int .i64 E]) ∧ Gr W w') :
    Calls Tryd.prog 12 #[.int .i64 y, .agg #[.int .i64 n, .bool c]] w fun e w' => e = .returned (.bool true) ∧ Gr w w' := by
  have C1 := Lib.hid c1
  have C9 := Lib.hid fun W (hW : Gr w W) => awake10_c W (G.gr hW)
  have q : (E == 0) = false := beq_eq_false_iff_ne.2 hE
  clear c1 G hE
  go_enter Tryd.func12, Tryd.ntmps12
  go_wp2_with (first | (go_at_call 47; (with_reducible refine (C1.out _ ((by repeat (first | exact Gr.refl _ | refine Gr.setCell ?_ _ _ (by first | exact Nat.le_refl _ | (simp; omega) | (simp; done)) | refine Gr.grown ?_ _ _ | refine Gr.drewN ?_ _ | refine Gr.drew ?_ | refine Gr.alloc ?_ _ | refine Gr.grow ?_ _ | (refine Gr.trans ?_ (by assumption)))))).mono ?_); rintro e wA ⟨rfl, hgwA⟩; obtain ⟨hclwA, hfzwA, hszwA⟩ := gcell hgwA; (try simp [Nat.add_one_le_iff] at hszwA); have hlwA_w : w.heap.size < wA.heap.size := (by omega)) | (go_at_call 46; (with_reducible refine (C9.out _ ((by repeat (first | exact Gr.refl _ | refine Gr.setCell ?_ _ _ (by first | exact Nat.le_refl _ | (simp; omega) | (simp; done)) | refine Gr.grown ?_ _ _ | refine Gr.drewN ?_ _ | refine Gr.drew ?_ | refine Gr.alloc ?_ _ | refine Gr.grow ?_ _ | (refine Gr.trans ?_ (by assumption)))))).mono ?_); rintro e wE ⟨rfl, hgwE⟩; obtain ⟨hclwE, hfzwE, hszwE⟩ := gcell hgwE; (try simp [Nat.add_one_le_iff] at hszwE); have hlwE_w : w.heap.size < wE.heap.size := (by omega)))
  go_ret
  exact ⟨rfl, (by repeat (first | exact Gr.refl _ | refine Gr.setCell ?_ _ _ (by first | exact Nat.le_refl _ | (simp; omega) | (simp; done)) | refine Gr.grown ?_ _ _ | refine Gr.drewN ?_ _ | refine Gr.drew ?_ | refine Gr.alloc ?_ _ | refine Gr.grow ?_ _ | (refine Gr.trans ?_ (by assumption))))⟩
theorem cN_last (l : Bool) : cN l (mct l - 1) = 12 ∧ cL l (mct l - 1) = false := by cases l <;> decide
theorem cN_first (l : Bool) : cN l 0 = 1 ∧ cL l 0 = false := by cases l <;> decide
theorem hebMonths_t (y n : Int) (c : Bool) (w : World) (G : GT w) :
    Calls Tryd.prog 12 #[.int .i64 y, .agg #[.int .i64 n, .bool c]] w fun e w' => e = .returned (.bool true) ∧ Gr w w' := by
  by_cases h : y < 1 ∨ 9999 < y
  · exact hmonths_e y n 2 c w G (by decide) fun W hW => hlast_e _ _ _ _ W (by decide) fun w => find_y y n c w h
  · cases hc : cHas (lp y) n c
    · exact hmonths_e y n 3 c w G (by decide) fun W hW => hlast_e _ _ _ _ W (by decide) fun w => find_m y n c w (by omega) (by omega) hc
    · obtain ⟨j, hj, rfl, rfl⟩ := code_in hc
      have rL := mlen_range (kk y) (lp y) j
      have hv : HV y j (mlen (kk y) (lp y) j) := ⟨by omega, by omega, hj, by omega, by omega⟩
      have rA := hd_range hv
      have c3 : ∀ W, Gr w W → Calls Tryd.prog 43 #[.agg #[.int .i64 y, .int .i64 (cN (lp y) j), .bool (cL (lp y) j), .int .i64 (mlen (kk y) (lp y) j + 1)]] W fun e w' => e = .returned (.tuple #[.int .i64 0, .int .i64 4]) ∧ Gr W w' :=
        fun W hW => htoday_e _ _ _ _ _ W (by decide) fun V hV => look_d y j _ V ((G.gr hW).gr hV) (by omega) (by omega) hj (.inr (by omega))
      by_cases g : j + 1 < mct (lp y)
      · obtain ⟨hn, en⟩ := hd_next_month hv rfl g
        exact hmonths_core y _ _ _ y _ 1 0 _ _ w G rL.1 rL.2 rA.1 rA.2 (fun W hW => hlast_in y j W (G.gr hW) (by omega) (by omega) hj) (fun W hW => htoday_in y j _ W (G.gr hW) hv) c3 (fun W hW => hfrom_in y (j + 1) 1 _ W (G.gr hW) hn en)
          (.inl ⟨rfl, rfl, fun ⟨a, b⟩ => by have := code_inj g hj a b; omega⟩)
      · have e1 : j + 1 = mct (lp y) := by omega
        have en := hd_next_year hv rfl e1
        have ej : j = mct (lp y) - 1 := by omega
        have cn := cN_last (lp y)
        rw [← ej] at cn
        by_cases g9 : y < 9999
        · obtain ⟨hn, ef⟩ := HV_first (y := y + 1) (by omega) (by omega)
          exact hmonths_core y _ _ _ (y + 1) _ 1 0 _ _ w G rL.1 rL.2 rA.1 rA.2 (fun W hW => hlast_in y j W (G.gr hW) (by omega) (by omega) hj) (fun W hW => htoday_in y j _ W (G.gr hW) hv) c3 (fun W hW => hfrom_in (y + 1) 0 1 _ W (G.gr hW) hn (ef.trans en.symm))
            (.inl ⟨rfl, rfl, fun ⟨a, b⟩ => by rw [cn.1, (cN_first (lp (y + 1))).1] at a; omega⟩)
        · have e9 : y = 9999 := by omega
          have l9 := lastD_is
          unfold lastD at l9
          have ef : fy (y + 1) = 2278651 := by rw [e9]; exact (show fy (9999 + 1) = 2278651 by have : (9999 : Int) + 1 = 10000 := rfl; rw [this]; omega)
          exact hmonths_core y _ _ _ 0 0 0 2 _ _ w G rL.1 rL.2 rA.1 rA.2 (fun W hW => hlast_in y j W (G.gr hW) (by omega) (by omega) hj) (fun W hW => htoday_in y j _ W (G.gr hW) hv) c3 (fun W hW => hfrom_out _ W (.inr (by omega)))
            (.inr ⟨rfl, e9, cn.1⟩)

end Go.Proofs.YtgjgkldkdmohjaaDoor.Walks
