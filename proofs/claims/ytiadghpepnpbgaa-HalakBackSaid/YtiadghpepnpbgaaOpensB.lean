/- Arguments that are structs, by value, opened to their numbers. -/
import Derived.Test.YtiadghpepnpbgaaProg
import Derived.Test.YtiadghpepnpbgaaChecked
import Derived.WalkKit
import Derived.ProofKit
import Derived.OpenShut
import Derived.ChangeOld
import Derived.Below
import Derived.Carry
import Derived.SizedLaws
import Derived.Lib.SmallJoins
namespace Go.Proofs.Ytiadghpepnpbgaa.Opens
open Go.Joins Go.ChangeShapes Go.WideShapes Go.RowKit
set_option linter.unusedVariables false
set_option linter.unusedSimpArgs false
theorem laidOut : laidOutB Try.prog = true := by kernel_rfl
section
variable {H : Type} {enc : TypeId × Value → H} {w : World} {base : Nat} {spare : Nat → Bool} {held : Bool}

theorem cells_Molad {fuel : Nat} {c : List Value} {x : DataW H × List MemPlace} (hl : c.length = 2) (hf : DataW.trod enc Try.prog w base spare held fuel 26 c = some x) :
    ∃ (a0 : Int) (a1 : Int), c = [.int .i64 a0, .int .i64 a1] ∧ (Lit.int .i64 a0).wf = true ∧ (Lit.int .i64 a1).wf = true := by
  match c, hl with
  | [c0, c1], _ =>
    obtain ⟨xs, n, _, hx, _, hlen, hg⟩ := DataW.trod_struct Try.underlying26 hf
    match xs, hlen with
    | [y0, y1], _ =>
      have k0 : Try.prog.cellsOf 3 = 1 := by kernel_rfl
      have g0 := hg 0 _ rfl
      simp [k0] at g0
      obtain ⟨a0, e0, _, w0⟩ := DataW.trod_int Try.underlying3 g0
      simp at e0
      subst e0
      have k1 : Try.prog.cellsOf 3 = 1 := by kernel_rfl
      have g1 := hg 1 _ rfl
      simp [k1] at g1
      obtain ⟨a1, e1, _, w1⟩ := DataW.trod_int Try.underlying3 g1
      simp at e1
      subst e1
      exact ⟨a0, a1, rfl, w0, w1⟩
theorem open_Molad {r : Reach} {b0 : Nat} {v : Value} {d : DataW H} {p : List MemPlace} (hv : Value.okWide Try.prog w r b0 26 v) (h : DataW.Trod enc Try.prog w base spare held 26 v d p) :
    ∃ (a0 : Int) (a1 : Int), v = .agg #[.int .i64 a0, .int .i64 a1] ∧ (Lit.int .i64 a0).wf = true ∧ (Lit.int .i64 a1).wf = true := by
  obtain ⟨cs, rfl, hsz⟩ := okWide_struct Try.underlying26 hv
  have hC : Try.prog.cellsOf 26 = 2 := by kernel_rfl
  obtain ⟨fuel, hf⟩ := h
  have hf2 : DataW.trod enc Try.prog w base spare held fuel 26 cs.toList = some _ := hf
  obtain ⟨a0, a1, e, hw⟩ := cells_Molad (by rw [Array.length_toList]; exact hsz.trans hC) hf2
  refine ⟨a0, a1, ?_, hw⟩
  rw [show cs = #[.int .i64 a0, .int .i64 a1] from by apply Array.toList_inj.1; exact e]

theorem cells_Ask4 {fuel : Nat} {c : List Value} {x : DataW H × List MemPlace} (hl : c.length = 4) (hf : DataW.trod enc Try.prog w base spare held fuel 37 c = some x) :
    ∃ (a0 : Int) (a1 : Int) (a2 : Int) (a3 : Int), c = [.int .i64 a0, .int .i64 a1, .int .i64 a2, .int .i64 a3] ∧ (Lit.int .i64 a0).wf = true ∧ (Lit.int .i64 a1).wf = true ∧ (Lit.int .i64 a2).wf = true ∧ (Lit.int .i64 a3).wf = true := by
  match c, hl with
  | [c0, c1, c2, c3], _ =>
    obtain ⟨xs, n, _, hx, _, hlen, hg⟩ := DataW.trod_struct Try.underlying37 hf
    match xs, hlen with
    | [y0, y1, y2, y3], _ =>
      have k0 : Try.prog.cellsOf 3 = 1 := by kernel_rfl
      have g0 := hg 0 _ rfl
      simp [k0] at g0
      obtain ⟨a0, e0, _, w0⟩ := DataW.trod_int Try.underlying3 g0
      simp at e0
      subst e0
      have k1 : Try.prog.cellsOf 3 = 1 := by kernel_rfl
      have g1 := hg 1 _ rfl
      simp [k1] at g1
      obtain ⟨a1, e1, _, w1⟩ := DataW.trod_int Try.underlying3 g1
      simp at e1
      subst e1
      have k2 : Try.prog.cellsOf 3 = 1 := by kernel_rfl
      have g2 := hg 2 _ rfl
      simp [k2] at g2
      obtain ⟨a2, e2, _, w2⟩ := DataW.trod_int Try.underlying3 g2
      simp at e2
      subst e2
      have k3 : Try.prog.cellsOf 3 = 1 := by kernel_rfl
      have g3 := hg 3 _ rfl
      simp [k3] at g3
      obtain ⟨a3, e3, _, w3⟩ := DataW.trod_int Try.underlying3 g3
      simp at e3
      subst e3
      exact ⟨a0, a1, a2, a3, rfl, w0, w1, w2, w3⟩
theorem open_Ask4 {r : Reach} {b0 : Nat} {v : Value} {d : DataW H} {p : List MemPlace} (hv : Value.okWide Try.prog w r b0 37 v) (h : DataW.Trod enc Try.prog w base spare held 37 v d p) :
    ∃ (a0 : Int) (a1 : Int) (a2 : Int) (a3 : Int), v = .agg #[.int .i64 a0, .int .i64 a1, .int .i64 a2, .int .i64 a3] ∧ (Lit.int .i64 a0).wf = true ∧ (Lit.int .i64 a1).wf = true ∧ (Lit.int .i64 a2).wf = true ∧ (Lit.int .i64 a3).wf = true := by
  obtain ⟨cs, rfl, hsz⟩ := okWide_struct Try.underlying37 hv
  have hC : Try.prog.cellsOf 37 = 4 := by kernel_rfl
  obtain ⟨fuel, hf⟩ := h
  have hf2 : DataW.trod enc Try.prog w base spare held fuel 37 cs.toList = some _ := hf
  obtain ⟨a0, a1, a2, a3, e, hw⟩ := cells_Ask4 (by rw [Array.length_toList]; exact hsz.trans hC) hf2
  refine ⟨a0, a1, a2, a3, ?_, hw⟩
  rw [show cs = #[.int .i64 a0, .int .i64 a1, .int .i64 a2, .int .i64 a3] from by apply Array.toList_inj.1; exact e]

theorem cells_Ask5 {fuel : Nat} {c : List Value} {x : DataW H × List MemPlace} (hl : c.length = 5) (hf : DataW.trod enc Try.prog w base spare held fuel 47 c = some x) :
    ∃ (a0 : Int) (a1 : Int) (a2 : Bool) (a3 : Bool) (a4 : Int), c = [.int .i64 a0, .int .i64 a1, .bool a2, .bool a3, .int .i64 a4] ∧ (Lit.int .i64 a0).wf = true ∧ (Lit.int .i64 a1).wf = true ∧ (Lit.int .i64 a4).wf = true := by
  match c, hl with
  | [c0, c1, c2, c3, c4], _ =>
    obtain ⟨xs, n, _, hx, _, hlen, hg⟩ := DataW.trod_struct Try.underlying47 hf
    match xs, hlen with
    | [y0, y1, y2, y3], _ =>
      have k0 : Try.prog.cellsOf 26 = 2 := by kernel_rfl
      have g0 := hg 0 _ rfl
      simp [k0] at g0
      obtain ⟨a0, a1, e0, w0, w1⟩ := cells_Molad rfl g0
      simp at e0
      obtain ⟨rfl, rfl⟩ := e0
      have k1 : Try.prog.cellsOf 4 = 1 := by kernel_rfl
      have g1 := hg 1 _ rfl
      simp [k1] at g1
      obtain ⟨a2, e1, _⟩ := DataW.trod_bool Try.underlying4 g1
      simp at e1
      subst e1
      have k2 : Try.prog.cellsOf 4 = 1 := by kernel_rfl
      have g2 := hg 2 _ rfl
      simp [k2] at g2
      obtain ⟨a3, e2, _⟩ := DataW.trod_bool Try.underlying4 g2
      simp at e2
      subst e2
      have k3 : Try.prog.cellsOf 3 = 1 := by kernel_rfl
      have g3 := hg 3 _ rfl
      simp [k3] at g3
      obtain ⟨a4, e3, _, w4⟩ := DataW.trod_int Try.underlying3 g3
      simp at e3
      subst e3
      exact ⟨a0, a1, a2, a3, a4, rfl, w0, w1, w4⟩
theorem open_Ask5 {r : Reach} {b0 : Nat} {v : Value} {d : DataW H} {p : List MemPlace} (hv : Value.okWide Try.prog w r b0 47 v) (h : DataW.Trod enc Try.prog w base spare held 47 v d p) :
    ∃ (a0 : Int) (a1 : Int) (a2 : Bool) (a3 : Bool) (a4 : Int), v = .agg #[.int .i64 a0, .int .i64 a1, .bool a2, .bool a3, .int .i64 a4] ∧ (Lit.int .i64 a0).wf = true ∧ (Lit.int .i64 a1).wf = true ∧ (Lit.int .i64 a4).wf = true := by
  obtain ⟨cs, rfl, hsz⟩ := okWide_struct Try.underlying47 hv
  have hC : Try.prog.cellsOf 47 = 5 := by kernel_rfl
  obtain ⟨fuel, hf⟩ := h
  have hf2 : DataW.trod enc Try.prog w base spare held fuel 47 cs.toList = some _ := hf
  obtain ⟨a0, a1, a2, a3, a4, e, hw⟩ := cells_Ask5 (by rw [Array.length_toList]; exact hsz.trans hC) hf2
  refine ⟨a0, a1, a2, a3, a4, ?_, hw⟩
  rw [show cs = #[.int .i64 a0, .int .i64 a1, .bool a2, .bool a3, .int .i64 a4] from by apply Array.toList_inj.1; exact e]

theorem cells_Move5 {fuel : Nat} {c : List Value} {x : DataW H × List MemPlace} (hl : c.length = 4) (hf : DataW.trod enc Try.prog w base spare held fuel 53 c = some x) :
    ∃ (a0 : Int) (a1 : Int) (a2 : Bool) (a3 : Bool), c = [.int .i32 a0, .int .u16 a1, .bool a2, .bool a3] ∧ (Lit.int .i32 a0).wf = true ∧ (Lit.int .u16 a1).wf = true := by
  match c, hl with
  | [c0, c1, c2, c3], _ =>
    obtain ⟨xs, n, _, hx, _, hlen, hg⟩ := DataW.trod_struct Try.underlying53 hf
    match xs, hlen with
    | [y0, y1, y2, y3], _ =>
      have k0 : Try.prog.cellsOf 21 = 1 := by kernel_rfl
      have g0 := hg 0 _ rfl
      simp [k0] at g0
      obtain ⟨a0, e0, _, w0⟩ := DataW.trod_int Try.underlying21 g0
      simp at e0
      subst e0
      have k1 : Try.prog.cellsOf 43 = 1 := by kernel_rfl
      have g1 := hg 1 _ rfl
      simp [k1] at g1
      obtain ⟨a1, e1, _, w1⟩ := DataW.trod_int Try.underlying43 g1
      simp at e1
      subst e1
      have k2 : Try.prog.cellsOf 4 = 1 := by kernel_rfl
      have g2 := hg 2 _ rfl
      simp [k2] at g2
      obtain ⟨a2, e2, _⟩ := DataW.trod_bool Try.underlying4 g2
      simp at e2
      subst e2
      have k3 : Try.prog.cellsOf 4 = 1 := by kernel_rfl
      have g3 := hg 3 _ rfl
      simp [k3] at g3
      obtain ⟨a3, e3, _⟩ := DataW.trod_bool Try.underlying4 g3
      simp at e3
      subst e3
      exact ⟨a0, a1, a2, a3, rfl, w0, w1⟩
theorem open_Move5 {r : Reach} {b0 : Nat} {v : Value} {d : DataW H} {p : List MemPlace} (hv : Value.okWide Try.prog w r b0 53 v) (h : DataW.Trod enc Try.prog w base spare held 53 v d p) :
    ∃ (a0 : Int) (a1 : Int) (a2 : Bool) (a3 : Bool), v = .agg #[.int .i32 a0, .int .u16 a1, .bool a2, .bool a3] ∧ (Lit.int .i32 a0).wf = true ∧ (Lit.int .u16 a1).wf = true := by
  obtain ⟨cs, rfl, hsz⟩ := okWide_struct Try.underlying53 hv
  have hC : Try.prog.cellsOf 53 = 4 := by kernel_rfl
  obtain ⟨fuel, hf⟩ := h
  have hf2 : DataW.trod enc Try.prog w base spare held fuel 53 cs.toList = some _ := hf
  obtain ⟨a0, a1, a2, a3, e, hw⟩ := cells_Move5 (by rw [Array.length_toList]; exact hsz.trans hC) hf2
  refine ⟨a0, a1, a2, a3, ?_, hw⟩
  rw [show cs = #[.int .i32 a0, .int .u16 a1, .bool a2, .bool a3] from by apply Array.toList_inj.1; exact e]
end
end Go.Proofs.Ytiadghpepnpbgaa.Opens
