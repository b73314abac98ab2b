/- Walks of add: the walker's steps. -/
import Derived.Test.YtkiopgegdkeojaaGreatDoorAddRight
import Derived.Test.YtkiopgegdkeojaaGreatDoorTail
set_option linter.unusedVariables false
set_option linter.unusedSimpArgs false
namespace Go.Proofs.YtkiopgegdkeojaaGreatDoor.Walks
open Go Go.RowKit Go.Sort Go.Proofs.YtkiopgegdkeojaaGreatDoor.Base Go.Proofs.YtkiopgegdkeojaaGreatDoor.Plain Go.Proofs.YtkiopgegdkeojaaGreatDoor.Math

/-- The walker in its box: the date, the mode, the error. -/
structure WK (w : World) (b : Nat) (y n : Int) (c : Bool) (d m e : Int) : Prop where
  lt : b < w.heap.size
  c0 : w.cell? ⟨b, 0, none⟩ = some (.int .i64 y)
  c1 : w.cell? ⟨b, 1, none⟩ = some (.int .i64 n)
  c2 : w.cell? ⟨b, 2, none⟩ = some (.bool c)
  c3 : w.cell? ⟨b, 3, none⟩ = some (.int .i64 d)
  c4 : w.cell? ⟨b, 4, none⟩ = some (.int .i64 m)
  c5 : w.cell? ⟨b, 5, none⟩ = some (.int .i64 e)
  f0 : w.frozen? ⟨b, 0, none⟩ = false
  f1 : w.frozen? ⟨b, 1, none⟩ = false
  f2 : w.frozen? ⟨b, 2, none⟩ = false
  f3 : w.frozen? ⟨b, 3, none⟩ = false
  f4 : w.frozen? ⟨b, 4, none⟩ = false
  f5 : w.frozen? ⟨b, 5, none⟩ = false
theorem WK.gr {w w' : World} {b : Nat} {y n d m e : Int} {c : Bool} (h : WK w b y n c d m e) (g : Gr w w') : WK w' b y n c d m e :=
  ⟨g.lt h.lt, g.keep h.lt h.c0, g.keep h.lt h.c1, g.keep h.lt h.c2, g.keep h.lt h.c3, g.keep h.lt h.c4, g.keep h.lt h.c5, g.thaw h.lt h.f0, g.thaw h.lt h.f1, g.thaw h.lt h.f2, g.thaw h.lt h.f3, g.thaw h.lt h.f4, g.thaw h.lt h.f5⟩
theorem WK.s0 {w : World} {b : Nat} {y n d m e : Int} {c : Bool} (h : WK w b y n c d m e) (y' : Int) : WK (w.setCell ⟨b, 0, none⟩ (.int .i64 y')) b y' n c d m e :=
  ⟨by rw [set_size]; exact h.lt, by rw [set_cell h.c0]; simp, by rw [set_cell h.c1]; simp, by rw [set_cell h.c2]; simp, by rw [set_cell h.c3]; simp, by rw [set_cell h.c4]; simp, by rw [set_cell h.c5]; simp, set_frozen h.f0, set_frozen h.f1, set_frozen h.f2, set_frozen h.f3, set_frozen h.f4, set_frozen h.f5⟩
theorem WK.s1 {w : World} {b : Nat} {y n d m e : Int} {c : Bool} (h : WK w b y n c d m e) (n' : Int) : WK (w.setCell ⟨b, 1, none⟩ (.int .i64 n')) b y n' c d m e :=
  ⟨by rw [set_size]; exact h.lt, by rw [set_cell h.c0]; simp, by rw [set_cell h.c1]; simp, by rw [set_cell h.c2]; simp, by rw [set_cell h.c3]; simp, by rw [set_cell h.c4]; simp, by rw [set_cell h.c5]; simp, set_frozen h.f0, set_frozen h.f1, set_frozen h.f2, set_frozen h.f3, set_frozen h.f4, set_frozen h.f5⟩
theorem WK.s2 {w : World} {b : Nat} {y n d m e : Int} {c : Bool} (h : WK w b y n c d m e) (c' : Bool) : WK (w.setCell ⟨b, 2, none⟩ (.bool c')) b y n c' d m e :=
  ⟨by rw [set_size]; exact h.lt, by rw [set_cell h.c0]; simp, by rw [set_cell h.c1]; simp, by rw [set_cell h.c2]; simp, by rw [set_cell h.c3]; simp, by rw [set_cell h.c4]; simp, by rw [set_cell h.c5]; simp, set_frozen h.f0, set_frozen h.f1, set_frozen h.f2, set_frozen h.f3, set_frozen h.f4, set_frozen h.f5⟩
theorem WK.s3 {w : World} {b : Nat} {y n d m e : Int} {c : Bool} (h : WK w b y n c d m e) (d' : Int) : WK (w.setCell ⟨b, 3, none⟩ (.int .i64 d')) b y n c d' m e :=
  ⟨by rw [set_size]; exact h.lt, by rw [set_cell h.c0]; simp, by rw [set_cell h.c1]; simp, by rw [set_cell h.c2]; simp, by rw [set_cell h.c3]; simp, by rw [set_cell h.c4]; simp, by rw [set_cell h.c5]; simp, set_frozen h.f0, set_frozen h.f1, set_frozen h.f2, set_frozen h.f3, set_frozen h.f4, set_frozen h.f5⟩
theorem WK.s5 {w : World} {b : Nat} {y n d m e : Int} {c : Bool} (h : WK w b y n c d m e) (e' : Int) : WK (w.setCell ⟨b, 5, none⟩ (.int .i64 e')) b y n c d m e' :=
  ⟨by rw [set_size]; exact h.lt, by rw [set_cell h.c0]; simp, by rw [set_cell h.c1]; simp, by rw [set_cell h.c2]; simp, by rw [set_cell h.c3]; simp, by rw [set_cell h.c4]; simp, by rw [set_cell h.c5]; simp, set_frozen h.f0, set_frozen h.f1, set_frozen h.f2, set_frozen h.f3, set_frozen h.f4, set_frozen h.f5⟩
/-- What is grown from a world that ended ahead of the box is so still. -/
def Kb (b : Nat) (w w' : World) : Prop := ∀ W0, Gr W0 w → W0.heap.size ≤ b → Gr W0 w'
theorem Kb.refl (b : Nat) (w : World) : Kb b w w := fun _ h _ => h
theorem Kb.gr {b : Nat} {w w' w2 : World} (h : Kb b w w') (g : Gr w' w2) : Kb b w w2 := fun W0 k l => (h W0 k l).trans g
theorem Kb.set {b : Nat} {w w' : World} (h : Kb b w w') (o : Nat) (v : Value) : Kb b w (w'.setCell ⟨b, o, none⟩ v) := fun W0 k l => (h W0 k l).setCell _ _ l
theorem Kb.trans {b : Nat} {w w' w2 : World} (h : Kb b w w') (g : Kb b w' w2) : Kb b w w2 := fun W0 k l => g W0 (h W0 k l) l
/-- A step of the walker: what its box holds then. -/
def Wpost (b : Nat) (w : World) (y n : Int) (c : Bool) (d m e : Int) (E : Ending) (w' : World) : Prop := (∃ v, E = .returned v) ∧ WK w' b y n c d m e ∧ Kb b w w'

set_option maxRecDepth 20000 in
set_option maxHeartbeats 4000000 in
theorem wyears_skip {w : World} {b : Nat} {y n d m e : Int} {c : Bool} (k : Int) (B : WK w b y n c d m e) (hE : e ≠ 0) : Calls Tryz.prog 19 #[.pointer (some ⟨b, 0, none⟩), .int .i64 k] w (Wpost b w y n c d m e) := by
  have q : (e == 0) = false := beq_eq_false_iff_ne.2 hE
  have B2 := B
  obtain ⟨lt, c0, c1, c2, c3, c4, c5, f0, f1, f2, f3, f4, f5⟩ := B2
  go_enter Tryz.func19, Tryz.ntmps19
  go_wp2
  exact ⟨rfl, _, results_none rfl _ _ _, ⟨_, rfl⟩, B, Kb.refl _ _⟩
set_option maxRecDepth 20000 in
set_option maxHeartbeats 8000000 in
theorem wyears_go {w : World} {b : Nat} {y n d m N E : Int} {c C : Bool} (k : Int) (B : WK w b y n c d m 0) (y0 : 1 ≤ y) (y1 : y ≤ 9999) (k0 : -4000000 ≤ k) (k1 : k ≤ 4000000)
    (c1 : ∀ W, Calls Tryz.prog 41 #[.int .i64 (y + k), .agg #[.int .i64 n, .bool c], .int .i64 m] W fun e w' => e = .returned (.tuple #[.agg #[.int .i64 N, .bool C], .int .i64 E]) ∧ Gr W w') :
    Calls Tryz.prog 19 #[.pointer (some ⟨b, 0, none⟩), .int .i64 k] w (Wpost b w (y + k) N C d m E) := by
  have C1 := Lib.hid c1
  clear c1
  have B2 := B
  obtain ⟨lt, c0, c1, c2, c3, c4, c5, f0, f1, f2, f3, f4, f5⟩ := B2
  go_enter Tryz.func19, Tryz.ntmps19
  go_wp2
  obtain ⟨W1, hW1⟩ : ∃ W1, W1 = w.setCell ⟨b, 0, none⟩ (.int .i64 (y + k)) := ⟨_, rfl⟩
  rw [← hW1]
  have B1 : WK W1 b (y + k) n c d m 0 := by rw [hW1]; exact B.s0 _
  have K1 : Kb b w W1 := by rw [hW1]; exact (Kb.refl _ _).set _ _
  clear hW1 B lt c0 c1 c2 c3 c4 c5 f0 f1 f2 f3 f4 f5
  have B2 := B1
  obtain ⟨lt, c0, c1, c2, c3, c4, c5, f0, f1, f2, f3, f4, f5⟩ := B2
  go_region_with (first | (go_at_call 41; (with_reducible refine (C1.out _).mono ?_); rintro e wA ⟨rfl, hgA⟩; obtain ⟨la, a0, a1, a2, a3, a4, a5, h0, h1, h2, h3, h4, h5⟩ := B1.gr (((Gr.refl W1).drew).trans hgA)))
  all_goals (
    have KA : Kb b w wA := K1.gr (((Gr.refl W1).drew).trans hgA)
    have BA := B1.gr (((Gr.refl W1).drew).trans hgA)
    exact ⟨rfl, _, results_none rfl _ _ _, ⟨_, rfl⟩, ((BA.s1 N).s2 C).s5 E, ((KA.set _ _).set _ _).set _ _⟩)
set_option maxRecDepth 20000 in
set_option maxHeartbeats 4000000 in
theorem wmonths_skip {w : World} {b : Nat} {y n d m e : Int} {c : Bool} (k : Int) (B : WK w b y n c d m e) (hE : e ≠ 0) : Calls Tryz.prog 20 #[.pointer (some ⟨b, 0, none⟩), .int .i64 k] w (Wpost b w y n c d m e) := by
  have q : (e == 0) = false := beq_eq_false_iff_ne.2 hE
  have B2 := B
  obtain ⟨lt, c0, c1, c2, c3, c4, c5, f0, f1, f2, f3, f4, f5⟩ := B2
  go_enter Tryz.func20, Tryz.ntmps20
  go_wp2
  exact ⟨rfl, _, results_none rfl _ _ _, ⟨_, rfl⟩, B, Kb.refl _ _⟩
set_option maxRecDepth 20000 in
set_option maxHeartbeats 16000000 in
theorem wmonths_go {w : World} {b : Nat} {y n d m K N E : Int} {c C : Bool} (k : Int) (B : WK w b y n c d m 0)
    (c1 : ∀ W, Kb b w W → Calls Tryz.prog 42 #[.int .i64 y, .agg #[.int .i64 n, .bool c], .int .i64 k] W fun e w' => e = .returned (.tuple #[.int .i64 K, .agg #[.int .i64 N, .bool C], .int .i64 E]) ∧ Gr W w') :
    Calls Tryz.prog 20 #[.pointer (some ⟨b, 0, none⟩), .int .i64 k] w (Wpost b w K N C d m E) := by
  have C1 := Lib.hid c1
  clear c1
  have B2 := B
  obtain ⟨lt, c0, c1, c2, c3, c4, c5, f0, f1, f2, f3, f4, f5⟩ := B2
  go_enter Tryz.func20, Tryz.ntmps20
  go_wp2
  go_region_with (first | (go_at_call 42; (with_reducible refine (C1.out _ ((Kb.refl b w).gr ((Gr.refl w).drew))).mono ?_); rintro e wA ⟨rfl, hgA⟩; obtain ⟨la, a0, a1, a2, a3, a4, a5, h0, h1, h2, h3, h4, h5⟩ := B.gr (((Gr.refl w).drew).trans hgA)))
  all_goals (
    have KA : Kb b w wA := (Kb.refl b w).gr (((Gr.refl w).drew).trans hgA)
    have BA := B.gr (((Gr.refl w).drew).trans hgA)
    exact ⟨rfl, _, results_none rfl _ _ _, ⟨_, rfl⟩, (((BA.s0 K).s1 N).s2 C).s5 E, (((KA.set _ _).set _ _).set _ _).set _ _⟩)

end Go.Proofs.YtkiopgegdkeojaaGreatDoor.Walks
