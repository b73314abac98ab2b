/- Arguments that are structs, by value, opened to their numbers. -/
import Derived.Test.YtgjgkldkdmohjaaProg
import Derived.Test.YtgjgkldkdmohjaaChecked
import Derived.WalkKit
import Derived.ProofKit
import Derived.OpenShut
import Derived.ChangeOld
import Derived.Below
import Derived.Carry
import Derived.SizedLaws
import Derived.Lib.SmallJoins
namespace Go.Proofs.Ytgjgkldkdmohjaa.Opens
open Go.Joins Go.ChangeShapes Go.WideShapes Go.RowKit
set_option linter.unusedVariables false
set_option linter.unusedSimpArgs false
theorem laidOut : laidOutB Try.prog = true := by kernel_rfl
section
variable {H : Type} {enc : TypeId × Value → H} {w : World} {base : Nat} {spare : Nat → Bool} {held : Bool}

theorem cells_Civil {fuel : Nat} {c : List Value} {x : DataW H × List MemPlace} (hl : c.length = 3) (hf : DataW.trod enc Try.prog w base spare held fuel 23 c = some x) :
    ∃ (a0 : Int) (a1 : Int) (a2 : Int), c = [.int .i64 a0, .int .i64 a1, .int .i64 a2] ∧ (Lit.int .i64 a0).wf = true ∧ (Lit.int .i64 a1).wf = true ∧ (Lit.int .i64 a2).wf = true := by
  match c, hl with
  | [c0, c1, c2], _ =>
    obtain ⟨xs, n, _, hx, _, hlen, hg⟩ := DataW.trod_struct Try.underlying23 hf
    match xs, hlen with
    | [y0, y1, y2], _ =>
      have k0 : Try.prog.cellsOf 3 = 1 := by kernel_rfl
      have g0 := hg 0 _ rfl
      simp [k0] at g0
      obtain ⟨a0, e0, _, w0⟩ := DataW.trod_int Try.underlying3 g0
      simp at e0
      subst e0
      have k1 : Try.prog.cellsOf 3 = 1 := by kernel_rfl
      have g1 := hg 1 _ rfl
      simp [k1] at g1
      obtain ⟨a1, e1, _, w1⟩ := DataW.trod_int Try.underlying3 g1
      simp at e1
      subst e1
      have k2 : Try.prog.cellsOf 3 = 1 := by kernel_rfl
      have g2 := hg 2 _ rfl
      simp [k2] at g2
      obtain ⟨a2, e2, _, w2⟩ := DataW.trod_int Try.underlying3 g2
      simp at e2
      subst e2
      exact ⟨a0, a1, a2, rfl, w0, w1, w2⟩
theorem open_Civil {r : Reach} {b0 : Nat} {v : Value} {d : DataW H} {p : List MemPlace} (hv : Value.okWide Try.prog w r b0 23 v) (h : DataW.Trod enc Try.prog w base spare held 23 v d p) :
    ∃ (a0 : Int) (a1 : Int) (a2 : Int), v = .agg #[.int .i64 a0, .int .i64 a1, .int .i64 a2] ∧ (Lit.int .i64 a0).wf = true ∧ (Lit.int .i64 a1).wf = true ∧ (Lit.int .i64 a2).wf = true := by
  obtain ⟨cs, rfl, hsz⟩ := okWide_struct Try.underlying23 hv
  have hC : Try.prog.cellsOf 23 = 3 := by kernel_rfl
  obtain ⟨fuel, hf⟩ := h
  have hf2 : DataW.trod enc Try.prog w base spare held fuel 23 cs.toList = some _ := hf
  obtain ⟨a0, a1, a2, e, hw⟩ := cells_Civil (by rw [Array.length_toList]; exact hsz.trans hC) hf2
  refine ⟨a0, a1, a2, ?_, hw⟩
  rw [show cs = #[.int .i64 a0, .int .i64 a1, .int .i64 a2] from by apply Array.toList_inj.1; exact e]
end
end Go.Proofs.Ytgjgkldkdmohjaa.Opens
