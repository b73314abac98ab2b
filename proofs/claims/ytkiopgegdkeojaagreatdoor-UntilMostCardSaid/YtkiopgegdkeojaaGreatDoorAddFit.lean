/- The walker of add: a day, fitted into its month. -/
import Derived.Test.YtkiopgegdkeojaaGreatDoorAdd
set_option linter.unusedVariables false
set_option linter.unusedSimpArgs false
namespace Go.Proofs.YtkiopgegdkeojaaGreatDoor.Walks
open Go Go.RowKit Go.Sort Go.Proofs.YtkiopgegdkeojaaGreatDoor.Base Go.Proofs.YtkiopgegdkeojaaGreatDoor.Plain Go.Proofs.YtkiopgegdkeojaaGreatDoor.Math

set_option maxRecDepth 20000 in
set_option maxHeartbeats 4000000 in
theorem wfit_skip {w : World} {b : Nat} {y n d m e : Int} {c : Bool} (B : WK w b y n c d m e) (hE : e ≠ 0) : Calls Tryz.prog 21 #[.pointer (some ⟨b, 0, none⟩)] w (Wpost b w y n c d m e) := by
  have q : (e == 0) = false := beq_eq_false_iff_ne.2 hE
  have B2 := B
  obtain ⟨lt, c0, c1, c2, c3, c4, c5, f0, f1, f2, f3, f4, f5⟩ := B2
  go_enter Tryz.func21, Tryz.ntmps21
  go_wp2
  exact ⟨rfl, _, results_none rfl _ _ _, ⟨_, rfl⟩, B, Kb.refl _ _⟩
set_option maxRecDepth 20000 in
set_option maxHeartbeats 200000000 in
theorem wfit_go {w : World} {b : Nat} {y n d m N E : Int} {c : Bool} (B : WK w b y n c d m 0)
    (c1 : ∀ W, Kb b w W → Calls Tryz.prog 43 #[.int .i64 y, .agg #[.int .i64 n, .bool c], .int .i64 d, .int .i64 m] W fun e w' => e = .returned (.tuple #[.int .i64 N, .int .i64 E]) ∧ Gr W w') :
    Calls Tryz.prog 21 #[.pointer (some ⟨b, 0, none⟩)] w (Wpost b w y n c N m E) := by
  have C1 := Lib.hid c1
  clear c1
  have B2 := B
  obtain ⟨lt, c0, c1, c2, c3, c4, c5, f0, f1, f2, f3, f4, f5⟩ := B2
  go_enter Tryz.func21, Tryz.ntmps21
  go_wp2
  go_region_with (first | (go_at_call 43; (with_reducible refine (C1.out _ ((Kb.refl b w).gr ((Gr.refl w).drew))).mono ?_); rintro e wA ⟨rfl, hgA⟩; obtain ⟨la, a0, a1, a2, a3, a4, a5, h0, h1, h2, h3, h4, h5⟩ := B.gr (((Gr.refl w).drew).trans hgA)))
  all_goals (
    have KA : Kb b w wA := (Kb.refl b w).gr (((Gr.refl w).drew).trans hgA)
    have BA := B.gr (((Gr.refl w).drew).trans hgA)
    exact ⟨rfl, _, results_none rfl _ _ _, ⟨_, rfl⟩, (BA.s3 N).s5 E, (KA.set _ _).set _ _⟩)

end Go.Proofs.YtkiopgegdkeojaaGreatDoor.Walks
