/- Each year's type is one of the fourteen, and agrees with the years: the walk of the law, over the laid table; every input. -/
import Derived.Test.YtgjgkldkdmohjaaDoorKeviahNumbers
import Derived.Test.YtgjgkldkdmohjaaDoorKy
set_option linter.unusedVariables false
set_option linter.unusedSimpArgs false
namespace Go.Proofs.YtgjgkldkdmohjaaDoor.Walks
open Go Go.RowKit Go.Sort Go.Proofs.YtgjgkldkdmohjaaDoor.Base Go.Proofs.YtgjgkldkdmohjaaDoor.Plain Go.Proofs.YtgjgkldkdmohjaaDoor.Math

set_option maxRecDepth 20000 in
set_option maxHeartbeats 4000000 in
theorem kyears_core (y A B L b k N : Int) (l : Bool) (w : World) (y0 : 0 ≤ y) (y1 : y ≤ 65535) (a0 : -7300000 ≤ A) (a1 : A ≤ 4540000) (b0 : -7300000 ≤ B) (b1 : B ≤ 4540000) (n0 : 1 ≤ N) (n1 : N ≤ 14) (k0 : 0 ≤ k) (k1 : k ≤ 2) (l0 : 353 ≤ L) (l1 : L ≤ 385) (kb0 : 0 ≤ b) (kb1 : b ≤ 6)
    (c1 : ∀ W, Calls Tryd.prog 27 #[.int .i64 (1 + y % 9999)] W fun e w' => e = .returned (.tuple #[.agg #[.int .i64 b, .int .i64 k, .bool l], .int .i64 0]) ∧ Gr W w')
    (c2 : ∀ W, Calls Tryd.prog 33 #[.int .i64 (1 + y % 9999)] W fun e w' => e = .returned (.tuple #[.int .i64 A, .int .i64 0]) ∧ Gr W w')
    (c3 : ∀ W, Calls Tryd.prog 33 #[.int .i64 (1 + y % 9999 + 1)] W fun e w' => e = .returned (.tuple #[.int .i64 B, .int .i64 0]) ∧ Gr W w')
    (c4 : ∀ W, Calls Tryd.prog 25 #[.int .i64 (1 + y % 9999)] W fun e w' => e = .returned (.tuple #[.int .i64 L, .int .i64 0]) ∧ Gr W w')
    (c5 : ∀ W, Gr w W → Calls Tryd.prog 31 #[.agg #[.int .i64 b, .int .i64 k, .bool l]] W fun e w' => e = .returned (.int .i64 N) ∧ Gr W w')
    (c6 : ∀ W, Gr w W → Calls Tryd.prog 29 #[.int .i64 N] W fun e w' => e = .returned (.tuple #[.agg #[.int .i64 b, .int .i64 k, .bool l], .bool true]) ∧ Gr W w')
    (c7 : ∀ W, Gr w W → Calls Tryd.prog 30 #[] W fun e w' => e = .returned (.bool true) ∧ Gr W w')
    (q1 : (L == B - A) = true) (q2 : (L == 353 + k + (if l = true then 30 else 0)) = true) (q3 : (b == A % 7) = true) (q4 : ((b + L) % 7 == B % 7) = true) :
    Calls Tryd.prog 6 #[.int .u16 y] w fun e w' => e = .returned (.bool true) ∧ Gr w w' := by
  have C1 := Lib.hid c1
  have C2 := Lib.hid c2
  have C3 := Lib.hid c3
  have C4 := Lib.hid c4
  have C5 := Lib.hid c5
  have C6 := Lib.hid c6
  have C7 := Lib.hid c7
  clear c1 c2 c3 c4 c5 c6 c7
  cases l
  · simp only [Bool.false_eq_true, if_false, Int.add_zero] at q2
    go_enter Tryd.func6, Tryd.ntmps6
    go_wp2_with (first | (go_at_call 27; (with_reducible refine (C1.out _).mono ?_); rintro e wA ⟨rfl, hgwA⟩; obtain ⟨hclwA, hfzwA, hszwA⟩ := gcell hgwA; (try simp [Nat.add_one_le_iff] at hszwA)) | (go_at_call 33; (with_reducible refine (C2.out _).mono ?_); rintro e wB ⟨rfl, hgwB⟩; obtain ⟨hclwB, hfzwB, hszwB⟩ := gcell hgwB; (try simp [Nat.add_one_le_iff] at hszwB); have hlwB_wA : wA.heap.size < wB.heap.size := (by omega)) | (go_at_call 33; (with_reducible refine (C3.out _).mono ?_); rintro e wC ⟨rfl, hgwC⟩; obtain ⟨hclwC, hfzwC, hszwC⟩ := gcell hgwC; (try simp [Nat.add_one_le_iff] at hszwC); have hlwC_wA : wA.heap.size < wC.heap.size := (by omega)) | (go_at_call 25; (with_reducible refine (C4.out _).mono ?_); rintro e wD ⟨rfl, hgwD⟩; obtain ⟨hclwD, hfzwD, hszwD⟩ := gcell hgwD; (try simp [Nat.add_one_le_iff] at hszwD); have hlwD_wA : wA.heap.size < wD.heap.size := (by omega)) | (go_at_call 31; (with_reducible refine (C5.out _ ((by repeat (first | exact Gr.refl _ | refine Gr.setCell ?_ _ _ (by first | exact Nat.le_refl _ | (simp; omega) | (simp; done)) | refine Gr.grown ?_ _ _ | refine Gr.drewN ?_ _ | refine Gr.drew ?_ | refine Gr.alloc ?_ _ | refine Gr.grow ?_ _ | (refine Gr.trans ?_ (by assumption)))))).mono ?_); rintro e wE ⟨rfl, hgwE⟩; obtain ⟨hclwE, hfzwE, hszwE⟩ := gcell hgwE; (try simp [Nat.add_one_le_iff] at hszwE); have hlwE_wA : wA.heap.size < wE.heap.size := (by omega)) | (go_at_call 29; (with_reducible refine (C6.out _ ((by repeat (first | exact Gr.refl _ | refine Gr.setCell ?_ _ _ (by first | exact Nat.le_refl _ | (simp; omega) | (simp; done)) | refine Gr.grown ?_ _ _ | refine Gr.drewN ?_ _ | refine Gr.drew ?_ | refine Gr.alloc ?_ _ | refine Gr.grow ?_ _ | (refine Gr.trans ?_ (by assumption)))))).mono ?_); rintro e wF ⟨rfl, hgwF⟩; obtain ⟨hclwF, hfzwF, hszwF⟩ := gcell hgwF; (try simp [Nat.add_one_le_iff] at hszwF); have hlwF_wA : wA.heap.size < wF.heap.size := (by omega)))
    obtain ⟨W5, hW5⟩ : ∃ W5, W5 = wF.alloc (.cells #[.int .i64 b, .int .i64 k, .bool false] 23) := ⟨_, rfl⟩
    rw [← hW5]
    have G1 : Gr (wA.alloc (.cells #[.int .i64 b, .int .i64 k, .bool false] 23)) W5 := by rw [hW5]; exact (by repeat (first | exact Gr.refl _ | refine Gr.setCell ?_ _ _ (by first | exact Nat.le_refl _ | (simp; omega) | (simp; done)) | refine Gr.grown ?_ _ _ | refine Gr.drewN ?_ _ | refine Gr.drew ?_ | refine Gr.alloc ?_ _ | refine Gr.grow ?_ _ | (refine Gr.trans ?_ (by assumption))))
    have GW : Gr w W5 := by rw [hW5]; exact (by repeat (first | exact Gr.refl _ | refine Gr.setCell ?_ _ _ (by first | exact Nat.le_refl _ | (simp; omega) | (simp; done)) | refine Gr.grown ?_ _ _ | refine Gr.drewN ?_ _ | refine Gr.drew ?_ | refine Gr.alloc ?_ _ | refine Gr.grow ?_ _ | (refine Gr.trans ?_ (by assumption))))
    have l1 : wA.heap.size < (wA.alloc (.cells #[.int .i64 b, .int .i64 k, .bool false] 23)).heap.size := by simp
    have l3 : wF.heap.size < W5.heap.size := by rw [hW5]; simp
    have d0 := gcell_in (G1.lt l1) (G1.keep l1 (b := wA.heap.size) (o := 0) (v := .int .i64 b) (by simp [go_sem]))
    have d1 := gcell_in (G1.lt l1) (G1.keep l1 (b := wA.heap.size) (o := 1) (v := .int .i64 k) (by simp [go_sem]))
    have d2 := gcell_in (G1.lt l1) (G1.keep l1 (b := wA.heap.size) (o := 2) (v := .bool false) (by simp [go_sem]))
    have e0 := gcell_in (b := wF.heap.size) (o := 0) (v := .int .i64 b) l3 (by rw [hW5]; simp [go_sem])
    have e1 := gcell_in (b := wF.heap.size) (o := 1) (v := .int .i64 k) l3 (by rw [hW5]; simp [go_sem])
    have e2 := gcell_in (b := wF.heap.size) (o := 2) (v := .bool false) l3 (by rw [hW5]; simp [go_sem])
    clear hW5 G1 l1 l3 hclwA hfzwA hszwA hclwB hfzwB hszwB hclwC hfzwC hszwC hclwD hfzwD hszwD hclwE hfzwE hszwE hclwF hfzwF hszwF hgwA hgwB hgwC hgwD hgwE hgwF
    (refine wp_region_quiet_grown mixed (by kernel_rfl) ?_; (repeat (first | go_big_quiet_step ((first | (go_at_call 30; exact gr_of (C7.out _ ((by repeat (first | exact Gr.refl _ | refine Gr.setCell ?_ _ _ (by first | exact Nat.le_refl _ | (simp; omega) | (simp; done)) | refine Gr.grown ?_ _ _ | refine Gr.drewN ?_ _ | refine Gr.drew ?_ | refine Gr.alloc ?_ _ | refine Gr.grow ?_ _ | (refine Gr.trans ?_ (by assumption))))))) | (go_at_call 34; exact gr_of (rwd_c A _ (by omega) (by omega))) | (go_at_call 34; exact gr_of (rwd_c B _ (by omega) (by omega))))) | quiet_step ((first | (go_at_call 30; exact gr_of (C7.out _ ((by repeat (first | exact Gr.refl _ | refine Gr.setCell ?_ _ _ (by first | exact Nat.le_refl _ | (simp; omega) | (simp; done)) | refine Gr.grown ?_ _ _ | refine Gr.drewN ?_ _ | refine Gr.drew ?_ | refine Gr.alloc ?_ _ | refine Gr.grow ?_ _ | (refine Gr.trans ?_ (by assumption))))))) | (go_at_call 34; exact gr_of (rwd_c A _ (by omega) (by omega))) | (go_at_call 34; exact gr_of (rwd_c B _ (by omega) (by omega))))))); refine wpQuiet_nil ?_; intro _ hw'; obtain ⟨⟨nq, osq⟩, hw''⟩ := hw'; subst hw'')
    go_wp2
    go_ret
    exact ⟨rfl, (by repeat (first | exact Gr.refl _ | refine Gr.setCell ?_ _ _ (by first | exact Nat.le_refl _ | (simp; omega) | (simp; done)) | refine Gr.grown ?_ _ _ | refine Gr.drewN ?_ _ | refine Gr.drew ?_ | refine Gr.alloc ?_ _ | refine Gr.grow ?_ _ | (refine Gr.trans ?_ (by assumption))))⟩
  · simp only [if_true] at q2
    go_enter Tryd.func6, Tryd.ntmps6
    go_wp2_with (first | (go_at_call 27; (with_reducible refine (C1.out _).mono ?_); rintro e wA ⟨rfl, hgwA⟩; obtain ⟨hclwA, hfzwA, hszwA⟩ := gcell hgwA; (try simp [Nat.add_one_le_iff] at hszwA)) | (go_at_call 33; (with_reducible refine (C2.out _).mono ?_); rintro e wB ⟨rfl, hgwB⟩; obtain ⟨hclwB, hfzwB, hszwB⟩ := gcell hgwB; (try simp [Nat.add_one_le_iff] at hszwB); have hlwB_wA : wA.heap.size < wB.heap.size := (by omega)) | (go_at_call 33; (with_reducible refine (C3.out _).mono ?_); rintro e wC ⟨rfl, hgwC⟩; obtain ⟨hclwC, hfzwC, hszwC⟩ := gcell hgwC; (try simp [Nat.add_one_le_iff] at hszwC); have hlwC_wA : wA.heap.size < wC.heap.size := (by omega)) | (go_at_call 25; (with_reducible refine (C4.out _).mono ?_); rintro e wD ⟨rfl, hgwD⟩; obtain ⟨hclwD, hfzwD, hszwD⟩ := gcell hgwD; (try simp [Nat.add_one_le_iff] at hszwD); have hlwD_wA : wA.heap.size < wD.heap.size := (by omega)) | (go_at_call 31; (with_reducible refine (C5.out _ ((by repeat (first | exact Gr.refl _ | refine Gr.setCell ?_ _ _ (by first | exact Nat.le_refl _ | (simp; omega) | (simp; done)) | refine Gr.grown ?_ _ _ | refine Gr.drewN ?_ _ | refine Gr.drew ?_ | refine Gr.alloc ?_ _ | refine Gr.grow ?_ _ | (refine Gr.trans ?_ (by assumption)))))).mono ?_); rintro e wE ⟨rfl, hgwE⟩; obtain ⟨hclwE, hfzwE, hszwE⟩ := gcell hgwE; (try simp [Nat.add_one_le_iff] at hszwE); have hlwE_wA : wA.heap.size < wE.heap.size := (by omega)) | (go_at_call 29; (with_reducible refine (C6.out _ ((by repeat (first | exact Gr.refl _ | refine Gr.setCell ?_ _ _ (by first | exact Nat.le_refl _ | (simp; omega) | (simp; done)) | refine Gr.grown ?_ _ _ | refine Gr.drewN ?_ _ | refine Gr.drew ?_ | refine Gr.alloc ?_ _ | refine Gr.grow ?_ _ | (refine Gr.trans ?_ (by assumption)))))).mono ?_); rintro e wF ⟨rfl, hgwF⟩; obtain ⟨hclwF, hfzwF, hszwF⟩ := gcell hgwF; (try simp [Nat.add_one_le_iff] at hszwF); have hlwF_wA : wA.heap.size < wF.heap.size := (by omega)))
    obtain ⟨W5, hW5⟩ : ∃ W5, W5 = wF.alloc (.cells #[.int .i64 b, .int .i64 k, .bool true] 23) := ⟨_, rfl⟩
    rw [← hW5]
    have G1 : Gr (wA.alloc (.cells #[.int .i64 b, .int .i64 k, .bool true] 23)) W5 := by rw [hW5]; exact (by repeat (first | exact Gr.refl _ | refine Gr.setCell ?_ _ _ (by first | exact Nat.le_refl _ | (simp; omega) | (simp; done)) | refine Gr.grown ?_ _ _ | refine Gr.drewN ?_ _ | refine Gr.drew ?_ | refine Gr.alloc ?_ _ | refine Gr.grow ?_ _ | (refine Gr.trans ?_ (by assumption))))
    have GW : Gr w W5 := by rw [hW5]; exact (by repeat (first | exact Gr.refl _ | refine Gr.setCell ?_ _ _ (by first | exact Nat.le_refl _ | (simp; omega) | (simp; done)) | refine Gr.grown ?_ _ _ | refine Gr.drewN ?_ _ | refine Gr.drew ?_ | refine Gr.alloc ?_ _ | refine Gr.grow ?_ _ | (refine Gr.trans ?_ (by assumption))))
    have l1 : wA.heap.size < (wA.alloc (.cells #[.int .i64 b, .int .i64 k, .bool true] 23)).heap.size := by simp
    have l3 : wF.heap.size < W5.heap.size := by rw [hW5]; simp
    have d0 := gcell_in (G1.lt l1) (G1.keep l1 (b := wA.heap.size) (o := 0) (v := .int .i64 b) (by simp [go_sem]))
    have d1 := gcell_in (G1.lt l1) (G1.keep l1 (b := wA.heap.size) (o := 1) (v := .int .i64 k) (by simp [go_sem]))
    have d2 := gcell_in (G1.lt l1) (G1.keep l1 (b := wA.heap.size) (o := 2) (v := .bool true) (by simp [go_sem]))
    have e0 := gcell_in (b := wF.heap.size) (o := 0) (v := .int .i64 b) l3 (by rw [hW5]; simp [go_sem])
    have e1 := gcell_in (b := wF.heap.size) (o := 1) (v := .int .i64 k) l3 (by rw [hW5]; simp [go_sem])
    have e2 := gcell_in (b := wF.heap.size) (o := 2) (v := .bool true) l3 (by rw [hW5]; simp [go_sem])
    clear hW5 G1 l1 l3 hclwA hfzwA hszwA hclwB hfzwB hszwB hclwC hfzwC hszwC hclwD hfzwD hszwD hclwE hfzwE hszwE hclwF hfzwF hszwF hgwA hgwB hgwC hgwD hgwE hgwF
    (refine wp_region_quiet_grown mixed (by kernel_rfl) ?_; (repeat (first | go_big_quiet_step ((first | (go_at_call 30; exact gr_of (C7.out _ ((by repeat (first | exact Gr.refl _ | refine Gr.setCell ?_ _ _ (by first | exact Nat.le_refl _ | (simp; omega) | (simp; done)) | refine Gr.grown ?_ _ _ | refine Gr.drewN ?_ _ | refine Gr.drew ?_ | refine Gr.alloc ?_ _ | refine Gr.grow ?_ _ | (refine Gr.trans ?_ (by assumption))))))) | (go_at_call 34; exact gr_of (rwd_c A _ (by omega) (by omega))) | (go_at_call 34; exact gr_of (rwd_c B _ (by omega) (by omega))))) | quiet_step ((first | (go_at_call 30; exact gr_of (C7.out _ ((by repeat (first | exact Gr.refl _ | refine Gr.setCell ?_ _ _ (by first | exact Nat.le_refl _ | (simp; omega) | (simp; done)) | refine Gr.grown ?_ _ _ | refine Gr.drewN ?_ _ | refine Gr.drew ?_ | refine Gr.alloc ?_ _ | refine Gr.grow ?_ _ | (refine Gr.trans ?_ (by assumption))))))) | (go_at_call 34; exact gr_of (rwd_c A _ (by omega) (by omega))) | (go_at_call 34; exact gr_of (rwd_c B _ (by omega) (by omega))))))); refine wpQuiet_nil ?_; intro _ hw'; obtain ⟨⟨nq, osq⟩, hw''⟩ := hw'; subst hw'')
    go_wp2
    go_ret
    exact ⟨rfl, (by repeat (first | exact Gr.refl _ | refine Gr.setCell ?_ _ _ (by first | exact Nat.le_refl _ | (simp; omega) | (simp; done)) | refine Gr.grown ?_ _ _ | refine Gr.drewN ?_ _ | refine Gr.drew ?_ | refine Gr.alloc ?_ _ | refine Gr.grow ?_ _ | (refine Gr.trans ?_ (by assumption))))⟩

theorem keviahYears_t (y : Int) (w : World) (T : TT w) (w0 : (Lit.int .u16 y).wf = true) : Calls Tryd.prog 6 #[.int .u16 y] w fun e w' => e = .returned (.bool true) ∧ Gr w w' := by
  have h0 := bounds_u16 w0
  obtain ⟨n, hn⟩ : ∃ n, 1 + y % 9999 = n := ⟨_, rfl⟩
  have n0 : 1 ≤ n := by omega
  have n1 : n ≤ 9999 := by omega
  obtain ⟨i, hi, e1, e2, e3⟩ := ky_in n0 n1
  have rA := fy_range (y := n) (by omega) (by omega)
  have rB := fy_range (y := n + 1) (by omega) (by omega)
  have rL := kln_range n0 n1
  have rk := kk_leap n0 n1
  have hK : knum (kb n) (kk n) (lp n) = (i : Int) + 1 := by rw [e1, e2, e3]; exact knum_at hi
  refine kyears_core y (fy n) (fy (n + 1)) (kln n) (kb n) (kk n) ((i : Int) + 1) (lp n) w h0.1 h0.2 rA.1 rA.2 rB.1 rB.2 (by omega) (by omega) rk.2.1 rk.2.2 rL.1 rL.2 (by unfold kb; omega) (by unfold kb; omega)
    (fun W => by rw [hn]; exact kof_in n W n0 n1) (fun W => by rw [hn]; exact rfirst_in n W (by omega) (by omega)) (fun W => by rw [hn]; exact rfirst_in (n + 1) W (by omega) (by omega)) (fun W => by rw [hn]; exact klong_in n W n0 n1)
    (fun W hW => by have := knumber_c (kb n) (kk n) (lp n) W (T.gr hW); rwa [hK] at this) (fun W hW => by have := ktype_in i W hi (T.gr hW); rw [e1, e2, e3]; exact this) (fun W hW => awake07_c W (T.gr hW)) ?_ ?_ ?_ ?_
  · exact beq_iff_eq.2 rfl
  · refine beq_iff_eq.2 ?_
    have := rk.1
    cases hl : lp n <;> simp only [hl, Bool.false_eq_true, if_false, if_true] at this ⊢ <;> omega
  · exact beq_iff_eq.2 rfl
  · refine beq_iff_eq.2 ?_
    unfold kb kln
    omega

end Go.Proofs.YtgjgkldkdmohjaaDoor.Walks
