/- A number of parts comes back of its moment, and a moment that has parts of them: the walk of the law; every input. -/
import Derived.Test.YtiadghpepnpbgaaHalak3
set_option linter.unusedVariables false
set_option linter.unusedSimpArgs false
namespace Go.Proofs.Ytiadghpepnpbgaa.Walks
open Go Go.RowKit Go.Sort Go.Proofs.Ytiadghpepnpbgaa.Base Go.Proofs.Ytiadghpepnpbgaa.Plain Go.Proofs.Ytiadghpepnpbgaa.Math

theorem jn_split {n : Int} (h : fits n) : jnN (n / 25920) (n % 25920) = n ∧ jnE (n / 25920) (n % 25920) = 0 := by
  unfold fits at h
  have c : ¬ (n % 25920 < 0 ∨ 25920 ≤ n % 25920) := by omega
  unfold jnN jnE
  rw [if_neg c, if_neg c]
  by_cases g : 0 ≤ n / 25920
  · have q : pf (n / 25920) 0 (n % 25920) := ⟨⟨by omega, by omega⟩, ⟨by omega, by omega⟩, ⟨by omega, by omega⟩, ⟨by omega, by omega⟩⟩
    rw [if_pos g, if_pos g, ptN_of q, ptE_of q]
    exact ⟨by omega, rfl⟩
  · have q : jf (n / 25920) (n % 25920) := ⟨⟨by omega, by omega⟩, ⟨by omega, by omega⟩⟩
    rw [if_neg g, if_neg g, if_pos q, if_pos q]
    exact ⟨by omega, rfl⟩
theorem jn_cases (d p : Int) : (jnE d p = 1 ∧ (p < 0 ∨ 25920 ≤ p)) ∨ (0 ≤ p ∧ p < 25920 ∧ jnE d p = 6) ∨ (0 ≤ p ∧ p < 25920 ∧ jnE d p = 0 ∧ fits (jnN d p) ∧ jnN d p / 25920 = d ∧ jnN d p % 25920 = p) := by
  by_cases c : p < 0 ∨ 25920 ≤ p
  · exact .inl ⟨by unfold jnE; rw [if_pos c], c⟩
  · refine .inr ?_
    unfold jnN jnE
    rw [if_neg c, if_neg c]
    by_cases g : 0 ≤ d
    · rw [if_pos g, if_pos g]
      by_cases q : pf d 0 p
      · rw [ptN_of q, ptE_of q]
        exact .inr ⟨by omega, by omega, rfl, q.2.2.2, by omega, by omega⟩
      · rw [ptE_no q]
        exact .inl ⟨by omega, by omega, rfl⟩
    · rw [if_neg g, if_neg g]
      by_cases q : jf d p
      · rw [if_pos q, if_pos q]
        exact .inr ⟨by omega, by omega, rfl, q.2, by omega, by omega⟩
      · rw [if_neg q]
        exact .inl ⟨by omega, by omega, rfl⟩

set_option maxHeartbeats 4000000 in
/-- The walk, the second moment's parts being known. -/
theorem back02_core (n A R H P D Q J F : Int) (w : World) (r0 : 0 ≤ R) (r1 : R < 25920) (p0 : 0 ≤ P) (p1 : P < 1080) (h0 : 0 ≤ H) (h1 : H < 24) (hp : H * 1080 + P = R)
    (c1 : ∀ w, Calls Try.prog 16 #[.int .i64 n] w fun e w' => e = .returned (.agg #[.int .i64 A, .int .i64 R]) ∧ Gr w w')
    (c2 : ∀ w, Calls Try.prog 19 #[.agg #[.int .i64 A, .int .i64 R]] w fun e w' => e = .returned (.tuple #[.int .i64 n, .int .i64 0]) ∧ Gr w w')
    (c3 : ∀ w, Calls Try.prog 23 #[.int .i64 R] w fun e w' => e = .returned (.tuple #[.int .i64 H, .int .i64 P]) ∧ Gr w w')
    (c4 : ∀ w, Calls Try.prog 19 #[.agg #[.int .i64 D, .int .i64 Q]] w fun e w' => e = .returned (.tuple #[.int .i64 J, .int .i64 F]) ∧ Gr w w')
    (c5 : F = 0 → ∀ w, Calls Try.prog 16 #[.int .i64 J] w fun e w' => e = .returned (.agg #[.int .i64 D, .int .i64 Q]) ∧ Gr w w')
    (hq : (F = 1 ∧ Q < 0) ∨ (F = 1 ∧ 25920 ≤ Q) ∨ (0 ≤ Q ∧ Q < 25920 ∧ F = 6) ∨ (0 ≤ Q ∧ Q < 25920 ∧ F = 0)) :
    Calls Try.prog 5 #[.int .i64 n, .agg #[.int .i64 D, .int .i64 Q]] w fun e w' => e = .returned (.bool true) ∧ Gr w w' := by
  have C1 := Lib.hid c1
  have C2 := Lib.hid c2
  have C3 := Lib.hid c3
  have C4 := Lib.hid c4
  have C5 := Lib.hid c5
  clear c1 c2 c3 c4 c5
  have key : ∀ W : World, Gr w W → W.cell? ⟨w.heap.size, 0, none⟩ = some (.int .i64 D) → True := fun _ _ _ => trivial
  clear key
  have hq' : (F = 1 ∧ decide (Q < 0) = true ∧ decide (25920 ≤ Q) = false ∧ Q < 0) ∨ (F = 1 ∧ decide (Q < 0) = false ∧ decide (25920 ≤ Q) = true ∧ 0 ≤ Q) ∨ (F = 6 ∧ decide (Q < 0) = false ∧ decide (25920 ≤ Q) = false ∧ 0 ≤ Q) ∨ (F = 0 ∧ decide (Q < 0) = false ∧ decide (25920 ≤ Q) = false ∧ 0 ≤ Q) := by
    simp only [decide_eq_true_eq, decide_eq_false_iff_not]
    omega
  clear hq
  rcases hq' with ⟨rfl, z1, z2, z⟩ | ⟨rfl, z1, z2, z⟩ | ⟨rfl, z1, z2, z⟩ | ⟨rfl, z1, z2, z⟩
  case' inr.inr.inr => have C6 := Lib.hid (C5.out rfl)
  all_goals
    clear C5
    go_enter Try.func5, Try.ntmps5
    go_wp2_with (first | (go_at_call 16; (with_reducible refine (C1.out _).mono ?_); rintro e wA ⟨rfl, hgwA⟩; obtain ⟨hclwA, hfzwA, hszwA⟩ := gcell hgwA; (try simp [Nat.add_one_le_iff] at hszwA)) | (go_at_call 19; (with_reducible refine (C2.out _).mono ?_); rintro e wB ⟨rfl, hgwB⟩; obtain ⟨hclwB, hfzwB, hszwB⟩ := gcell hgwB; (try simp [Nat.add_one_le_iff] at hszwB); have hlwB_w : w.heap.size < wB.heap.size := (by omega); have hlwB_wA : wA.heap.size < wB.heap.size := (by omega)) | (go_at_call 23; (with_reducible refine (C3.out _).mono ?_); rintro e wC ⟨rfl, hgwC⟩; obtain ⟨hclwC, hfzwC, hszwC⟩ := gcell hgwC; (try simp [Nat.add_one_le_iff] at hszwC); have hlwC_w : w.heap.size < wC.heap.size := (by omega); have hlwC_wA : wA.heap.size < wC.heap.size := (by omega)) | (go_at_call 19; (with_reducible refine (C4.out _).mono ?_); rintro e wD ⟨rfl, hgwD⟩; obtain ⟨hclwD, hfzwD, hszwD⟩ := gcell hgwD; (try simp [Nat.add_one_le_iff] at hszwD); have hlwD_w : w.heap.size < wD.heap.size := (by omega); have hlwD_wA : wA.heap.size < wD.heap.size := (by omega)))
    have l0 : w.heap.size < wD.heap.size := by omega
    have a0 : wD.cell? ⟨w.heap.size, 0, none⟩ = some (.int .i64 D) := by simp [hclwD, hclwC, hclwB, hclwA, hlwC_w, hlwB_w, hszwA, go_sem, *]
    have a1 : wD.cell? ⟨w.heap.size, 1, none⟩ = some (.int .i64 Q) := by simp [hclwD, hclwC, hclwB, hclwA, hlwC_w, hlwB_w, hszwA, go_sem, *]
    have b0 := gcell_in l0 a0
    have b1 := gcell_in l0 a1
    have GW : Gr w wD := (by repeat (first | exact Gr.refl _ | refine Gr.setCell ?_ _ _ (by first | exact Nat.le_refl _ | (simp; omega) | (simp; done)) | refine Gr.grown ?_ _ _ | refine Gr.drewN ?_ _ | refine Gr.drew ?_ | refine Gr.alloc ?_ _ | refine Gr.grow ?_ _ | (refine Gr.trans ?_ (by assumption))))
    clear hclwA hfzwA hszwA hclwB hfzwB hszwB hclwC hfzwC hszwC hclwD hfzwD hszwD hgwA hgwB hgwC hgwD
    (refine wp_region_quiet_grown mixed (by kernel_rfl) ?_; (repeat (first | go_big_quiet_step ((first | (go_at_call 17; exact gr_of (awake02_c _)) | (go_at_call 16; exact gr_of (C6.out _)))) | quiet_step ((first | (go_at_call 17; exact gr_of (awake02_c _)) | (go_at_call 16; exact gr_of (C6.out _)))))); refine wpQuiet_nil ?_; intro _ hw'; obtain ⟨⟨nq, osq⟩, hw''⟩ := hw'; subst hw'')
    go_wp2
    go_ret
    exact ⟨rfl, (by repeat (first | exact Gr.refl _ | refine Gr.setCell ?_ _ _ (by first | exact Nat.le_refl _ | (simp; omega) | (simp; done)) | refine Gr.grown ?_ _ _ | refine Gr.drewN ?_ _ | refine Gr.drew ?_ | refine Gr.alloc ?_ _ | refine Gr.grow ?_ _ | (refine Gr.trans ?_ (by assumption))))⟩

theorem halakBack_w (n D Q : Int) (w : World) (w0 : (Lit.int .i64 n).wf = true) (w1 : (Lit.int .i64 D).wf = true) (w2 : (Lit.int .i64 Q).wf = true) :
    Calls Try.prog 5 #[.int .i64 n, .agg #[.int .i64 D, .int .i64 Q]] w fun e w' => e = .returned (.bool true) ∧ Gr w w' := by
  have hn : fits n := bounds_i64 w0
  have hD : fits D := bounds_i64 w1
  have hQ : fits Q := bounds_i64 w2
  have hn' := hn
  unfold fits at hn'
  obtain ⟨e1, e2⟩ := jn_split hn
  have c : ¬ (n % 25920 < 0 ∨ 25920 ≤ n % 25920) := by omega
  have k := jn_cases D Q
  refine back02_core n (n / 25920) (n % 25920) (n % 25920 / 1080) (n % 25920 % 1080) D Q (jnN D Q) (jnE D Q) w (by omega) (by omega) (by omega) (by omega) (by omega) (by omega) (by omega)
    (fun w => split_c n w hn.1 hn.2) (fun w => by have := join_u (n / 25920) (n % 25920) w ⟨by omega, by omega⟩ ⟨by omega, by omega⟩; rwa [e1, e2] at this)
    (fun w => by have := hours_c (n % 25920) w; unfold hrN hrP at this; rwa [if_neg c, if_neg c] at this) (fun w => join_u D Q w hD hQ) (fun z w => ?_) ?_
  · rcases k with ⟨k, -⟩ | ⟨-, -, k⟩ | ⟨k1, k2, k3, k4, k5, k6⟩
    · omega
    · omega
    · have := split_c (jnN D Q) w k4.1 k4.2
      rwa [k5, k6] at this
  · rcases k with ⟨k, k1 | k1⟩ | ⟨k1, k2, k3⟩ | ⟨k1, k2, k3, -⟩
    · exact .inl ⟨k, k1⟩
    · exact .inr (.inl ⟨k, k1⟩)
    · exact .inr (.inr (.inl ⟨k1, k2, k3⟩))
    · exact .inr (.inr (.inr ⟨k1, k2, k3⟩))

end Go.Proofs.Ytiadghpepnpbgaa.Walks
