/- Of small numbers parts are just the sum, and a day more is a moment's next day: the walk of the law; every input. -/
import Derived.Test.YtiadghpepnpbgaaHalak3
set_option linter.unusedVariables false
set_option linter.unusedSimpArgs false
namespace Go.Proofs.Ytiadghpepnpbgaa.Walks
open Go Go.RowKit Go.Sort Go.Proofs.Ytiadghpepnpbgaa.Base Go.Proofs.Ytiadghpepnpbgaa.Plain Go.Proofs.Ytiadghpepnpbgaa.Math

set_option maxHeartbeats 4000000 in
theorem halakSums_w (d h p : Int) (w : World) (w0 : (Lit.int .i32 d).wf = true) (w1 : (Lit.int .i32 h).wf = true) (w2 : (Lit.int .i32 p).wf = true) :
    Calls Try.prog 3 #[.int .i32 d, .int .i32 h, .int .i32 p] w fun e w' => e = .returned (.bool true) ∧ Gr w w' := by
  have b0 : -2147483648 ≤ d ∧ d ≤ 2147483647 := by simpa [go_sem, Lit.wf, IntKind.min, IntKind.max, IntKind.signed, IntKind.bits] using w0
  have b1 : -2147483648 ≤ h ∧ h ≤ 2147483647 := by simpa [go_sem, Lit.wf, IntKind.min, IntKind.max, IntKind.signed, IntKind.bits] using w1
  have b2 : -2147483648 ≤ p ∧ p ≤ 2147483647 := by simpa [go_sem, Lit.wf, IntKind.min, IntKind.max, IntKind.signed, IntKind.bits] using w2
  obtain ⟨d0, d1⟩ := b0
  obtain ⟨h0, h1⟩ := b1
  obtain ⟨p0, p1⟩ := b2
  have q1 : pf d h p := ⟨⟨by omega, by omega⟩, ⟨by omega, by omega⟩, ⟨by omega, by omega⟩, ⟨by omega, by omega⟩⟩
  have q2 : pf (d + 1) h p := ⟨⟨by omega, by omega⟩, ⟨by omega, by omega⟩, ⟨by omega, by omega⟩, ⟨by omega, by omega⟩⟩
  obtain ⟨A, hA⟩ : ∃ A, A = (25920 * d + 1080 * h + p) / 25920 := ⟨_, rfl⟩
  obtain ⟨R, hR⟩ : ∃ R, R = (25920 * d + 1080 * h + p) % 25920 := ⟨_, rfl⟩
  have C1 : RowKit.Hid (∀ w, Calls Try.prog 15 #[.int .i64 d, .int .i64 h, .int .i64 p] w fun e w' => e = .returned (.tuple #[.int .i64 (25920 * d + 1080 * h + p), .int .i64 0]) ∧ Gr w w') := Lib.hid fun w => by
    have := parts_u d h p w ⟨by omega, by omega⟩ ⟨by omega, by omega⟩ ⟨by omega, by omega⟩
    rw [ptN_of q1, ptE_of q1] at this
    rwa [show 25920 * d + 1080 * h + p = d * 25920 + h * 1080 + p from by omega]
  have C2 : RowKit.Hid (∀ w, Calls Try.prog 15 #[.int .i64 (d + 1), .int .i64 h, .int .i64 p] w fun e w' => e = .returned (.tuple #[.int .i64 (25920 * d + 1080 * h + p + 25920), .int .i64 0]) ∧ Gr w w') := Lib.hid fun w => by
    have := parts_u (d + 1) h p w ⟨by omega, by omega⟩ ⟨by omega, by omega⟩ ⟨by omega, by omega⟩
    rw [ptN_of q2, ptE_of q2] at this
    rwa [show 25920 * d + 1080 * h + p + 25920 = (d + 1) * 25920 + h * 1080 + p from by omega]
  have C3 : RowKit.Hid (∀ w, Calls Try.prog 16 #[.int .i64 (25920 * d + 1080 * h + p)] w fun e w' => e = .returned (.agg #[.int .i64 A, .int .i64 R]) ∧ Gr w w') := Lib.hid fun w => by
    rw [hA, hR]; exact split_c _ w (by omega) (by omega)
  have C4 : RowKit.Hid (∀ w, Calls Try.prog 16 #[.int .i64 (25920 * d + 1080 * h + p + 25920)] w fun e w' => e = .returned (.agg #[.int .i64 (A + 1), .int .i64 R]) ∧ Gr w w') := Lib.hid fun w => by
    have := split_c (25920 * d + 1080 * h + p + 25920) w (by omega) (by omega)
    rwa [show A + 1 = (25920 * d + 1080 * h + p + 25920) / 25920 from by omega, show R = (25920 * d + 1080 * h + p + 25920) % 25920 from by omega]
  have a0 : -100000000000 ≤ A := by omega
  have a1 : A ≤ 100000000000 := by omega
  clear hA hR q1 q2 w0 w1 w2
  go_enter Try.func3, Try.ntmps3
  go_wp2_with (first | (go_at_call 15; (with_reducible refine (C1.out _).mono ?_); rintro e wA ⟨rfl, hgwA⟩) | (go_at_call 15; (with_reducible refine (C2.out _).mono ?_); rintro e wB ⟨rfl, hgwB⟩) | (go_at_call 16; (with_reducible refine (C3.out _).mono ?_); rintro e wC ⟨rfl, hgwC⟩) | (go_at_call 16; (with_reducible refine (C4.out _).mono ?_); rintro e wD ⟨rfl, hgwD⟩) | (go_at_call 17; (with_reducible refine (awake02_c _).mono ?_); rintro e wE ⟨rfl, hgwE⟩; obtain ⟨hclwE, hfzwE, hszwE⟩ := gcell hgwE; (try simp [Nat.add_one_le_iff] at hszwE); have hlwE_wD : wD.heap.size < wE.heap.size := (by omega)))
  go_ret
  exact ⟨rfl, (by repeat (first | exact Gr.refl _ | refine Gr.setCell ?_ _ _ (by first | exact Nat.le_refl _ | (simp; omega) | (simp; done)) | refine Gr.grown ?_ _ _ | refine Gr.drewN ?_ _ | refine Gr.drew ?_ | refine Gr.alloc ?_ _ | refine Gr.grow ?_ _ | (refine Gr.trans ?_ (by assumption))))⟩

end Go.Proofs.Ytiadghpepnpbgaa.Walks
