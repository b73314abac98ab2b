/- How many months any type has, how many days any month has, and are ahead of it, and the month of any day, are the document's: the walk of the law; every input. -/
import Derived.Test.YtgjgkldkdmohjaaDoorRef08b
set_option linter.unusedVariables false
set_option linter.unusedSimpArgs false
namespace Go.Proofs.YtgjgkldkdmohjaaDoor.Walks
open Go Go.RowKit Go.Sort Go.Proofs.YtgjgkldkdmohjaaDoor.Base Go.Proofs.YtgjgkldkdmohjaaDoor.Plain Go.Proofs.YtgjgkldkdmohjaaDoor.Math

theorem mfind_both (b kd : Int) (l : Bool) (r : Int) (h0 : -9223372036854775808 ≤ r) (h1 : r ≤ 9223372036854775807) : ∃ (x y : Int) (o : Bool),
    (∀ w, GT w → Calls Tryd.prog 15 #[.agg #[.int .i64 b, .int .i64 kd, .bool l], .int .i64 r] w fun e w' => e = .returned (.tuple #[.int .i64 x, .int .i64 y, .bool o]) ∧ Gr w w') ∧
    (∀ w, Calls Tryd.prog 16 #[.agg #[.int .i64 b, .int .i64 kd, .bool l], .int .i64 r] w fun e w' => e = .returned (.tuple #[.int .i64 x, .int .i64 y, .bool o]) ∧ Gr w w') := by
  by_cases h : r < 1 ∨ mah kd l (mN b kd l) < r
  · exact ⟨_, _, _, fun w G => mfind_out b kd l r w G h h0 h1, fun w => rfind_out b kd l r w h h1⟩
  · obtain ⟨j, a, c, d⟩ := month_at kd l (mN b kd l) r (by omega) (by omega)
    exact ⟨_, _, _, fun w G => mfind_in b kd l j r w G a c d, fun w => rfind_in b kd l j r w a c d⟩
theorem mdays_both (b kd : Int) (l : Bool) (m : Int) : ∃ (x y : Int),
    (∀ w, GT w → Calls Tryd.prog 20 #[.agg #[.int .i64 b, .int .i64 kd, .bool l], .int .i64 m] w fun e w' => e = .returned (.int .i64 x) ∧ Gr w w') ∧
    (∀ w, Calls Tryd.prog 21 #[.agg #[.int .i64 b, .int .i64 kd, .bool l], .int .i64 m] w fun e w' => e = .returned (.int .i64 x) ∧ Gr w w') ∧
    (∀ w, GT w → Calls Tryd.prog 22 #[.agg #[.int .i64 b, .int .i64 kd, .bool l], .int .i64 m] w fun e w' => e = .returned (.int .i64 y) ∧ Gr w w') ∧
    (∀ w, Calls Tryd.prog 23 #[.agg #[.int .i64 b, .int .i64 kd, .bool l], .int .i64 m] w fun e w' => e = .returned (.int .i64 y) ∧ Gr w w') := by
  by_cases h : m < 1 ∨ mN b kd l < m
  · exact ⟨_, _, fun w G => mdays_out b kd l m w G h, fun w => rdays_out b kd l m w h, fun w G => mahead_out b kd l m w G h, fun w => rahead_out b kd l m w h⟩
  · obtain ⟨j, hj⟩ : ∃ j : Nat, m = (j : Int) + 1 := ⟨(m - 1).toNat, by omega⟩
    subst hj
    exact ⟨_, _, fun w G => mdays_in b kd l j w G (by omega), fun w => rdays_in b kd l j w (by omega), fun w G => mahead_in b kd l j w G (by omega), fun w => rahead_in b kd l j w (by omega)⟩

set_option maxHeartbeats 2000000 in
theorem awake08_c (w : World) (G : GT w) : Calls Tryd.prog 17 #[] w fun e w' => e = .returned (.bool true) ∧ Gr w w' := by
  have en : mN 2 1 false = 12 := by decide +kernel
  have C1 : RowKit.Hid (∀ W, Gr w W → Calls Tryd.prog 15 #[.agg #[.int .i64 2, .int .i64 1, .bool false], .int .i64 149] W fun e w' => e = .returned (.tuple #[.int .i64 6, .int .i64 1, .bool true]) ∧ Gr W w') := Lib.hid fun W hW =>
    mfind_in 2 1 false 5 149 W (G.gr hW) (by rw [en]; decide) (by decide) (by decide)
  have C2 : RowKit.Hid (∀ W, Gr w W → Calls Tryd.prog 18 #[.agg #[.int .i64 2, .int .i64 1, .bool false]] W fun e w' => e = .returned (.int .i64 12) ∧ Gr W w') := Lib.hid fun W hW => by
    have := mcount_c 2 1 false W (G.gr hW); rwa [en] at this
  have C3 : RowKit.Hid (∀ W, Gr w W → Calls Tryd.prog 20 #[.agg #[.int .i64 2, .int .i64 1, .bool false], .int .i64 1] W fun e w' => e = .returned (.int .i64 30) ∧ Gr W w') := Lib.hid fun W hW =>
    mdays_in 2 1 false 0 W (G.gr hW) (by rw [en]; decide)
  have C4 : RowKit.Hid (∀ W, Gr w W → Calls Tryd.prog 22 #[.agg #[.int .i64 2, .int .i64 1, .bool false], .int .i64 6] W fun e w' => e = .returned (.int .i64 148) ∧ Gr W w') := Lib.hid fun W hW =>
    mahead_in 2 1 false 5 W (G.gr hW) (by rw [en]; decide)
  clear en G
  go_enter Tryd.func17, Tryd.ntmps17
  go_wp2_with (first | (go_at_call 15; (with_reducible refine (C1.out _ ((by repeat (first | exact Gr.refl _ | refine Gr.setCell ?_ _ _ (by first | exact Nat.le_refl _ | (simp; omega) | (simp; done)) | refine Gr.grown ?_ _ _ | refine Gr.drewN ?_ _ | refine Gr.drew ?_ | refine Gr.alloc ?_ _ | refine Gr.grow ?_ _ | (refine Gr.trans ?_ (by assumption)))))).mono ?_); rintro e wA ⟨rfl, hgwA⟩; obtain ⟨hclwA, hfzwA, hszwA⟩ := gcell hgwA; (try simp [Nat.add_one_le_iff] at hszwA); have hlwA_w : w.heap.size < wA.heap.size := (by omega)) | (go_at_call 18; (with_reducible refine (C2.out _ ((by repeat (first | exact Gr.refl _ | refine Gr.setCell ?_ _ _ (by first | exact Nat.le_refl _ | (simp; omega) | (simp; done)) | refine Gr.grown ?_ _ _ | refine Gr.drewN ?_ _ | refine Gr.drew ?_ | refine Gr.alloc ?_ _ | refine Gr.grow ?_ _ | (refine Gr.trans ?_ (by assumption)))))).mono ?_); rintro e wB ⟨rfl, hgwB⟩; obtain ⟨hclwB, hfzwB, hszwB⟩ := gcell hgwB; (try simp [Nat.add_one_le_iff] at hszwB); have hlwB_w : w.heap.size < wB.heap.size := (by omega)) | (go_at_call 20; (with_reducible refine (C3.out _ ((by repeat (first | exact Gr.refl _ | refine Gr.setCell ?_ _ _ (by first | exact Nat.le_refl _ | (simp; omega) | (simp; done)) | refine Gr.grown ?_ _ _ | refine Gr.drewN ?_ _ | refine Gr.drew ?_ | refine Gr.alloc ?_ _ | refine Gr.grow ?_ _ | (refine Gr.trans ?_ (by assumption)))))).mono ?_); rintro e wC ⟨rfl, hgwC⟩; obtain ⟨hclwC, hfzwC, hszwC⟩ := gcell hgwC; (try simp [Nat.add_one_le_iff] at hszwC); have hlwC_w : w.heap.size < wC.heap.size := (by omega)) | (go_at_call 22; (with_reducible refine (C4.out _ ((by repeat (first | exact Gr.refl _ | refine Gr.setCell ?_ _ _ (by first | exact Nat.le_refl _ | (simp; omega) | (simp; done)) | refine Gr.grown ?_ _ _ | refine Gr.drewN ?_ _ | refine Gr.drew ?_ | refine Gr.alloc ?_ _ | refine Gr.grow ?_ _ | (refine Gr.trans ?_ (by assumption)))))).mono ?_); rintro e wD ⟨rfl, hgwD⟩; obtain ⟨hclwD, hfzwD, hszwD⟩ := gcell hgwD; (try simp [Nat.add_one_le_iff] at hszwD); have hlwD_w : w.heap.size < wD.heap.size := (by omega)))
  go_ret
  exact ⟨rfl, (by repeat (first | exact Gr.refl _ | refine Gr.setCell ?_ _ _ (by first | exact Nat.le_refl _ | (simp; omega) | (simp; done)) | refine Gr.grown ?_ _ _ | refine Gr.drewN ?_ _ | refine Gr.drew ?_ | refine Gr.alloc ?_ _ | refine Gr.grow ?_ _ | (refine Gr.trans ?_ (by assumption))))⟩

set_option maxHeartbeats 4000000 in
theorem monthTells_t (b k : Int) (l : Bool) (m n : Int) (w : World) (T : GT w) (w1 : (Lit.int .i64 b).wf = true) (w2 : (Lit.int .i64 k).wf = true) (w3 : (Lit.int .i64 m).wf = true) (w4 : (Lit.int .i64 n).wf = true) :
    Calls Tryd.prog 3 #[.agg #[.int .i64 b, .int .i64 k, .bool l], .int .i64 m, .int .i64 n] w fun e w' => e = .returned (.bool true) ∧ Gr w w' := by
  have hn := bounds_i64 w4
  obtain ⟨x, y, o, c1, c2⟩ := mfind_both b k l n hn.1 hn.2
  obtain ⟨p, q, c3, c4, c5, c6⟩ := mdays_both b k l m
  have C1 := Lib.hid fun W (hW : Gr w W) => c1 W (T.gr hW)
  have C2 := Lib.hid c2
  have C3 := Lib.hid fun W (hW : Gr w W) => c3 W (T.gr hW)
  have C4 := Lib.hid c4
  have C5 := Lib.hid fun W (hW : Gr w W) => c5 W (T.gr hW)
  have C6 := Lib.hid c6
  have C7 := Lib.hid fun W (hW : Gr w W) => mcount_c b k l W (T.gr hW)
  have C8 := Lib.hid (rcount_c b k l)
  have C9 := Lib.hid fun W (hW : Gr w W) => awake08_c W (T.gr hW)
  clear c1 c2 c3 c4 c5 c6 T hn w1 w2 w3 w4
  go_enter Tryd.func3, Tryd.ntmps3
  go_wp2_with (first | (go_at_call 15; (with_reducible refine (C1.out _ ((by repeat (first | exact Gr.refl _ | refine Gr.setCell ?_ _ _ (by first | exact Nat.le_refl _ | (simp; omega) | (simp; done)) | refine Gr.grown ?_ _ _ | refine Gr.drewN ?_ _ | refine Gr.drew ?_ | refine Gr.alloc ?_ _ | refine Gr.grow ?_ _ | (refine Gr.trans ?_ (by assumption)))))).mono ?_); rintro e wA ⟨rfl, hgwA⟩; obtain ⟨hclwA, hfzwA, hszwA⟩ := gcell hgwA; (try simp [Nat.add_one_le_iff] at hszwA); have hlwA_w : w.heap.size < wA.heap.size := (by omega)) | (go_at_call 16; (with_reducible refine (C2.out _).mono ?_); rintro e wB ⟨rfl, hgwB⟩; obtain ⟨hclwB, hfzwB, hszwB⟩ := gcell hgwB; (try simp [Nat.add_one_le_iff] at hszwB); have hlwB_w : w.heap.size < wB.heap.size := (by omega)))
  have G1 : Gr (w.alloc (.cells #[.int .i64 b, .int .i64 k, .bool l] 23)) wB := (by repeat (first | exact Gr.refl _ | refine Gr.setCell ?_ _ _ (by first | exact Nat.le_refl _ | (simp; omega) | (simp; done)) | refine Gr.grown ?_ _ _ | refine Gr.drewN ?_ _ | refine Gr.drew ?_ | refine Gr.alloc ?_ _ | refine Gr.grow ?_ _ | (refine Gr.trans ?_ (by assumption))))
  have GW : Gr w wB := (by repeat (first | exact Gr.refl _ | refine Gr.setCell ?_ _ _ (by first | exact Nat.le_refl _ | (simp; omega) | (simp; done)) | refine Gr.grown ?_ _ _ | refine Gr.drewN ?_ _ | refine Gr.drew ?_ | refine Gr.alloc ?_ _ | refine Gr.grow ?_ _ | (refine Gr.trans ?_ (by assumption))))
  have b0 := gcell_in hlwB_w (G1.keep (b := w.heap.size) (o := 0) (v := .int .i64 b) (by simp) (by simp [go_sem]))
  have b1 := gcell_in hlwB_w (G1.keep (b := w.heap.size) (o := 1) (v := .int .i64 k) (by simp) (by simp [go_sem]))
  have b2 := gcell_in hlwB_w (G1.keep (b := w.heap.size) (o := 2) (v := .bool l) (by simp) (by simp [go_sem]))
  clear G1 hclwA hfzwA hszwA hclwB hfzwB hszwB hgwA hgwB
  (refine wp_region_quiet_grown mixed (by kernel_rfl) ?_; (repeat (first | go_big_quiet_step ((first | (go_at_call 17; exact gr_of (C9.out _ ((by repeat (first | exact Gr.refl _ | refine Gr.setCell ?_ _ _ (by first | exact Nat.le_refl _ | (simp; omega) | (simp; done)) | refine Gr.grown ?_ _ _ | refine Gr.drewN ?_ _ | refine Gr.drew ?_ | refine Gr.alloc ?_ _ | refine Gr.grow ?_ _ | (refine Gr.trans ?_ (by assumption))))))) | (go_at_call 18; exact gr_of (C7.out _ ((by repeat (first | exact Gr.refl _ | refine Gr.setCell ?_ _ _ (by first | exact Nat.le_refl _ | (simp; omega) | (simp; done)) | refine Gr.grown ?_ _ _ | refine Gr.drewN ?_ _ | refine Gr.drew ?_ | refine Gr.alloc ?_ _ | refine Gr.grow ?_ _ | (refine Gr.trans ?_ (by assumption))))))) | (go_at_call 19; exact gr_of (C8.out _)) | (go_at_call 20; exact gr_of (C3.out _ ((by repeat (first | exact Gr.refl _ | refine Gr.setCell ?_ _ _ (by first | exact Nat.le_refl _ | (simp; omega) | (simp; done)) | refine Gr.grown ?_ _ _ | refine Gr.drewN ?_ _ | refine Gr.drew ?_ | refine Gr.alloc ?_ _ | refine Gr.grow ?_ _ | (refine Gr.trans ?_ (by assumption))))))) | (go_at_call 21; exact gr_of (C4.out _)) | (go_at_call 22; exact gr_of (C5.out _ ((by repeat (first | exact Gr.refl _ | refine Gr.setCell ?_ _ _ (by first | exact Nat.le_refl _ | (simp; omega) | (simp; done)) | refine Gr.grown ?_ _ _ | refine Gr.drewN ?_ _ | refine Gr.drew ?_ | refine Gr.alloc ?_ _ | refine Gr.grow ?_ _ | (refine Gr.trans ?_ (by assumption))))))) | (go_at_call 23; exact gr_of (C6.out _)))) | quiet_step ((first | (go_at_call 17; exact gr_of (C9.out _ ((by repeat (first | exact Gr.refl _ | refine Gr.setCell ?_ _ _ (by first | exact Nat.le_refl _ | (simp; omega) | (simp; done)) | refine Gr.grown ?_ _ _ | refine Gr.drewN ?_ _ | refine Gr.drew ?_ | refine Gr.alloc ?_ _ | refine Gr.grow ?_ _ | (refine Gr.trans ?_ (by assumption))))))) | (go_at_call 18; exact gr_of (C7.out _ ((by repeat (first | exact Gr.refl _ | refine Gr.setCell ?_ _ _ (by first | exact Nat.le_refl _ | (simp; omega) | (simp; done)) | refine Gr.grown ?_ _ _ | refine Gr.drewN ?_ _ | refine Gr.drew ?_ | refine Gr.alloc ?_ _ | refine Gr.grow ?_ _ | (refine Gr.trans ?_ (by assumption))))))) | (go_at_call 19; exact gr_of (C8.out _)) | (go_at_call 20; exact gr_of (C3.out _ ((by repeat (first | exact Gr.refl _ | refine Gr.setCell ?_ _ _ (by first | exact Nat.le_refl _ | (simp; omega) | (simp; done)) | refine Gr.grown ?_ _ _ | refine Gr.drewN ?_ _ | refine Gr.drew ?_ | refine Gr.alloc ?_ _ | refine Gr.grow ?_ _ | (refine Gr.trans ?_ (by assumption))))))) | (go_at_call 21; exact gr_of (C4.out _)) | (go_at_call 22; exact gr_of (C5.out _ ((by repeat (first | exact Gr.refl _ | refine Gr.setCell ?_ _ _ (by first | exact Nat.le_refl _ | (simp; omega) | (simp; done)) | refine Gr.grown ?_ _ _ | refine Gr.drewN ?_ _ | refine Gr.drew ?_ | refine Gr.alloc ?_ _ | refine Gr.grow ?_ _ | (refine Gr.trans ?_ (by assumption))))))) | (go_at_call 23; exact gr_of (C6.out _)))))); refine wpQuiet_nil ?_; intro _ hw'; obtain ⟨⟨nq, osq⟩, hw''⟩ := hw'; subst hw'')
  go_wp2
  go_ret
  exact ⟨rfl, (by repeat (first | exact Gr.refl _ | refine Gr.setCell ?_ _ _ (by first | exact Nat.le_refl _ | (simp; omega) | (simp; done)) | refine Gr.grown ?_ _ _ | refine Gr.drewN ?_ _ | refine Gr.drew ?_ | refine Gr.alloc ?_ _ | refine Gr.grow ?_ _ | (refine Gr.trans ?_ (by assumption))))⟩

end Go.Proofs.YtgjgkldkdmohjaaDoor.Walks
