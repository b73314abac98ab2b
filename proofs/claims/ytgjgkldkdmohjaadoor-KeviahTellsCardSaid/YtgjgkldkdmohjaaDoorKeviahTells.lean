/- How long any year is, its type, any type's number, and that with any number, are the document's: the walk of the law, over the laid table; every input. -/
import Derived.Test.YtgjgkldkdmohjaaDoorKeviahNumbers
set_option linter.unusedVariables false
set_option linter.unusedSimpArgs false
namespace Go.Proofs.YtgjgkldkdmohjaaDoor.Walks
open Go Go.RowKit Go.Sort Go.Proofs.YtgjgkldkdmohjaaDoor.Base Go.Proofs.YtgjgkldkdmohjaaDoor.Plain Go.Proofs.YtgjgkldkdmohjaaDoor.Math

theorem kyear_both (y : Int) : ∃ (L E a b : Int) (c : Bool), (∀ w, Calls Tryd.prog 25 #[.int .i64 y] w fun e w' => e = .returned (.tuple #[.int .i64 L, .int .i64 E]) ∧ Gr w w') ∧
    (∀ w, Calls Tryd.prog 26 #[.int .i64 y] w fun e w' => e = .returned (.tuple #[.int .i64 L, .int .i64 E]) ∧ Gr w w') ∧
    (∀ w, Calls Tryd.prog 27 #[.int .i64 y] w fun e w' => e = .returned (.tuple #[.agg #[.int .i64 a, .int .i64 b, .bool c], .int .i64 E]) ∧ Gr w w') ∧
    (∀ w, Calls Tryd.prog 28 #[.int .i64 y] w fun e w' => e = .returned (.tuple #[.agg #[.int .i64 a, .int .i64 b, .bool c], .int .i64 E]) ∧ Gr w w') := by
  by_cases h : 1 ≤ y ∧ y ≤ 9999
  · exact ⟨_, _, _, _, _, fun w => klong_in y w h.1 h.2, fun w => rlong7_in y w h.1 h.2, fun w => kof_in y w h.1 h.2, fun w => rkof_in y w h.1 h.2⟩
  · exact ⟨_, _, _, _, _, fun w => klong_out y w (by omega), fun w => rlong7_out y w (by omega), fun w => kof_out y w (by omega), fun w => rkof_out y w (by omega)⟩
theorem ktype_both (n : Int) : ∃ (a b : Int) (c o : Bool), (∀ w, TT w → Calls Tryd.prog 29 #[.int .i64 n] w fun e w' => e = .returned (.tuple #[.agg #[.int .i64 a, .int .i64 b, .bool c], .bool o]) ∧ Gr w w') ∧
    (∀ w, Calls Tryd.prog 24 #[.int .i64 n] w fun e w' => e = .returned (.tuple #[.agg #[.int .i64 a, .int .i64 b, .bool c], .bool o]) ∧ Gr w w') := by
  by_cases h : 1 ≤ n ∧ n ≤ 14
  · obtain ⟨k, hk⟩ : ∃ k : Nat, n = (k : Int) + 1 := ⟨(n - 1).toNat, by omega⟩
    subst hk
    exact ⟨_, _, _, _, fun w T => ktype_in k w (by omega) T, fun w => rtype7_in k w (by omega)⟩
  · exact ⟨_, _, _, _, fun w _ => ktype_out n w (by omega), fun w => rtype7_out n w (by omega)⟩

set_option maxHeartbeats 4000000 in
theorem keviahTells_t (y b k : Int) (l : Bool) (n : Int) (w : World) (T : TT w) :
    Calls Tryd.prog 5 #[.int .i64 y, .agg #[.int .i64 b, .int .i64 k, .bool l], .int .i64 n] w fun e w' => e = .returned (.bool true) ∧ Gr w w' := by
  obtain ⟨L, E, x1, x2, x3, c1, c2, c3, c4⟩ := kyear_both y
  obtain ⟨z1, z2, z3, o, c5, c6⟩ := ktype_both n
  have C1 := Lib.hid c1
  have C2 := Lib.hid c2
  have C3 := Lib.hid c3
  have C4 := Lib.hid c4
  have C5 := Lib.hid fun W (hW : Gr w W) => c5 W (T.gr hW)
  have C6 := Lib.hid c6
  have C7 := Lib.hid fun W (hW : Gr w W) => awake07_c W (T.gr hW)
  have C8 := Lib.hid fun W (hW : Gr w W) => knumber_c b k l W (T.gr hW)
  have C9 := Lib.hid (rnumber7_c b k l)
  clear c1 c2 c3 c4 c5 c6 T
  go_enter Tryd.func5, Tryd.ntmps5
  go_wp2_with (first | (go_at_call 25; (with_reducible refine (C1.out _).mono ?_); rintro e wA ⟨rfl, hgwA⟩; obtain ⟨hclwA, hfzwA, hszwA⟩ := gcell hgwA; (try simp [Nat.add_one_le_iff] at hszwA); have hlwA_w : w.heap.size < wA.heap.size := (by omega)) | (go_at_call 26; (with_reducible refine (C2.out _).mono ?_); rintro e wB ⟨rfl, hgwB⟩; obtain ⟨hclwB, hfzwB, hszwB⟩ := gcell hgwB; (try simp [Nat.add_one_le_iff] at hszwB); have hlwB_w : w.heap.size < wB.heap.size := (by omega)) | (go_at_call 27; (with_reducible refine (C3.out _).mono ?_); rintro e wC ⟨rfl, hgwC⟩; obtain ⟨hclwC, hfzwC, hszwC⟩ := gcell hgwC; (try simp [Nat.add_one_le_iff] at hszwC); have hlwC_w : w.heap.size < wC.heap.size := (by omega)) | (go_at_call 28; (with_reducible refine (C4.out _).mono ?_); rintro e wD ⟨rfl, hgwD⟩; obtain ⟨hclwD, hfzwD, hszwD⟩ := gcell hgwD; (try simp [Nat.add_one_le_iff] at hszwD); have hlwD_w : w.heap.size < wD.heap.size := (by omega); have hlwD_wC : wC.heap.size < wD.heap.size := (by omega)) | (go_at_call 29; (with_reducible refine (C5.out _ ((by repeat (first | exact Gr.refl _ | refine Gr.setCell ?_ _ _ (by first | exact Nat.le_refl _ | (simp; omega) | (simp; done)) | refine Gr.grown ?_ _ _ | refine Gr.drewN ?_ _ | refine Gr.drew ?_ | refine Gr.alloc ?_ _ | refine Gr.grow ?_ _ | (refine Gr.trans ?_ (by assumption)))))).mono ?_); rintro e wE ⟨rfl, hgwE⟩; obtain ⟨hclwE, hfzwE, hszwE⟩ := gcell hgwE; (try simp [Nat.add_one_le_iff] at hszwE); have hlwE_w : w.heap.size < wE.heap.size := (by omega); have hlwE_wC : wC.heap.size < wE.heap.size := (by omega); have hlwE_wD : wD.heap.size < wE.heap.size := (by omega)) | (go_at_call 24; (with_reducible refine (C6.out _).mono ?_); rintro e wF ⟨rfl, hgwF⟩; obtain ⟨hclwF, hfzwF, hszwF⟩ := gcell hgwF; (try simp [Nat.add_one_le_iff] at hszwF); have hlwF_w : w.heap.size < wF.heap.size := (by omega); have hlwF_wC : wC.heap.size < wF.heap.size := (by omega); have hlwF_wD : wD.heap.size < wF.heap.size := (by omega); have hlwF_wE : wE.heap.size < wF.heap.size := (by omega)))
  obtain ⟨W5, hW5⟩ : ∃ W5, W5 = wF.alloc (.cells #[.int .i64 z1, .int .i64 z2, .bool z3] 23) := ⟨_, rfl⟩
  rw [← hW5]
  have G1 : Gr wA W5 := by rw [hW5]; exact (by repeat (first | exact Gr.refl _ | refine Gr.setCell ?_ _ _ (by first | exact Nat.le_refl _ | (simp; omega) | (simp; done)) | refine Gr.grown ?_ _ _ | refine Gr.drewN ?_ _ | refine Gr.drew ?_ | refine Gr.alloc ?_ _ | refine Gr.grow ?_ _ | (refine Gr.trans ?_ (by assumption))))
  have G2 : Gr (wE.alloc (.cells #[.int .i64 z1, .int .i64 z2, .bool z3] 23)) W5 := by rw [hW5]; exact (by repeat (first | exact Gr.refl _ | refine Gr.setCell ?_ _ _ (by first | exact Nat.le_refl _ | (simp; omega) | (simp; done)) | refine Gr.grown ?_ _ _ | refine Gr.drewN ?_ _ | refine Gr.drew ?_ | refine Gr.alloc ?_ _ | refine Gr.grow ?_ _ | (refine Gr.trans ?_ (by assumption))))
  have GW : Gr w W5 := by rw [hW5]; exact (by repeat (first | exact Gr.refl _ | refine Gr.setCell ?_ _ _ (by first | exact Nat.le_refl _ | (simp; omega) | (simp; done)) | refine Gr.grown ?_ _ _ | refine Gr.drewN ?_ _ | refine Gr.drew ?_ | refine Gr.alloc ?_ _ | refine Gr.grow ?_ _ | (refine Gr.trans ?_ (by assumption))))
  have l1 : w.heap.size < wA.heap.size := by omega
  have l2 : wE.heap.size < (wE.alloc (.cells #[.int .i64 z1, .int .i64 z2, .bool z3] 23)).heap.size := by simp
  have l3 : wF.heap.size < W5.heap.size := by rw [hW5]; simp
  have b0 := gcell_in (G1.lt l1) (G1.keep l1 (hgwA.keep (b := w.heap.size) (o := 0) (v := .int .i64 b) (by simp) (by simp [go_sem])))
  have b1 := gcell_in (G1.lt l1) (G1.keep l1 (hgwA.keep (b := w.heap.size) (o := 1) (v := .int .i64 k) (by simp) (by simp [go_sem])))
  have b2 := gcell_in (G1.lt l1) (G1.keep l1 (hgwA.keep (b := w.heap.size) (o := 2) (v := .bool l) (by simp) (by simp [go_sem])))
  have d0 := gcell_in (G2.lt l2) (G2.keep l2 (b := wE.heap.size) (o := 0) (v := .int .i64 z1) (by simp [go_sem]))
  have d1 := gcell_in (G2.lt l2) (G2.keep l2 (b := wE.heap.size) (o := 1) (v := .int .i64 z2) (by simp [go_sem]))
  have d2 := gcell_in (G2.lt l2) (G2.keep l2 (b := wE.heap.size) (o := 2) (v := .bool z3) (by simp [go_sem]))
  have e0 := gcell_in (b := wF.heap.size) (o := 0) (v := .int .i64 z1) l3 (by rw [hW5]; simp [go_sem])
  have e1 := gcell_in (b := wF.heap.size) (o := 1) (v := .int .i64 z2) l3 (by rw [hW5]; simp [go_sem])
  have e2 := gcell_in (b := wF.heap.size) (o := 2) (v := .bool z3) l3 (by rw [hW5]; simp [go_sem])
  clear hW5 G1 G2 l1 l2 l3 hclwA hfzwA hszwA hclwB hfzwB hszwB hclwC hfzwC hszwC hclwD hfzwD hszwD hclwE hfzwE hszwE hclwF hfzwF hszwF hgwA hgwB hgwC hgwD hgwE hgwF
  (refine wp_region_quiet_grown mixed (by kernel_rfl) ?_; (repeat (first | go_big_quiet_step ((first | (go_at_call 30; exact gr_of (C7.out _ ((by repeat (first | exact Gr.refl _ | refine Gr.setCell ?_ _ _ (by first | exact Nat.le_refl _ | (simp; omega) | (simp; done)) | refine Gr.grown ?_ _ _ | refine Gr.drewN ?_ _ | refine Gr.drew ?_ | refine Gr.alloc ?_ _ | refine Gr.grow ?_ _ | (refine Gr.trans ?_ (by assumption))))))) | (go_at_call 31; exact gr_of (C8.out _ ((by repeat (first | exact Gr.refl _ | refine Gr.setCell ?_ _ _ (by first | exact Nat.le_refl _ | (simp; omega) | (simp; done)) | refine Gr.grown ?_ _ _ | refine Gr.drewN ?_ _ | refine Gr.drew ?_ | refine Gr.alloc ?_ _ | refine Gr.grow ?_ _ | (refine Gr.trans ?_ (by assumption))))))) | (go_at_call 32; exact gr_of (C9.out _)))) | quiet_step ((first | (go_at_call 30; exact gr_of (C7.out _ ((by repeat (first | exact Gr.refl _ | refine Gr.setCell ?_ _ _ (by first | exact Nat.le_refl _ | (simp; omega) | (simp; done)) | refine Gr.grown ?_ _ _ | refine Gr.drewN ?_ _ | refine Gr.drew ?_ | refine Gr.alloc ?_ _ | refine Gr.grow ?_ _ | (refine Gr.trans ?_ (by assumption))))))) | (go_at_call 31; exact gr_of (C8.out _ ((by repeat (first | exact Gr.refl _ | refine Gr.setCell ?_ _ _ (by first | exact Nat.le_refl _ | (simp; omega) | (simp; done)) | refine Gr.grown ?_ _ _ | refine Gr.drewN ?_ _ | refine Gr.drew ?_ | refine Gr.alloc ?_ _ | refine Gr.grow ?_ _ | (refine Gr.trans ?_ (by assumption))))))) | (go_at_call 32; exact gr_of (C9.out _)))))); refine wpQuiet_nil ?_; intro _ hw'; obtain ⟨⟨nq, osq⟩, hw''⟩ := hw'; subst hw'')
  go_wp2
  go_ret
  exact ⟨rfl, (by repeat (first | exact Gr.refl _ | refine Gr.setCell ?_ _ _ (by first | exact Nat.le_refl _ | (simp; omega) | (simp; done)) | refine Gr.grown ?_ _ _ | refine Gr.drewN ?_ _ | refine Gr.drew ?_ | refine Gr.alloc ?_ _ | refine Gr.grow ?_ _ | (refine Gr.trans ?_ (by assumption))))⟩

end Go.Proofs.YtgjgkldkdmohjaaDoor.Walks
