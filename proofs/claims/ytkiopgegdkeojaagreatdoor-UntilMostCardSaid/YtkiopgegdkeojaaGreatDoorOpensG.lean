/- Arguments that are structs, by value, opened to their numbers. -/
import Derived.Test.YtkiopgegdkeojaaGreatDoorProg
import Derived.Test.YtkiopgegdkeojaaGreatDoorChecked
import Derived.WalkKit
import Derived.ProofKit
import Derived.OpenShut
import Derived.ChangeOld
import Derived.Below
import Derived.Carry
import Derived.SizedLaws
import Derived.Lib.SmallJoins
namespace Go.Proofs.YtkiopgegdkeojaaGreatDoor.Opens
open Go.Joins Go.ChangeShapes Go.WideShapes Go.RowKit
set_option linter.unusedVariables false
set_option linter.unusedSimpArgs false
set_option maxRecDepth 20000
theorem laidOut : laidOutB Tryz.prog = true := by kernel_rfl
section
variable {H : Type} {enc : TypeId × Value → H} {w : World} {base : Nat} {spare : Nat → Bool} {held : Bool}

theorem cells_Code {fuel : Nat} {c : List Value} {x : DataW H × List MemPlace} (hl : c.length = 2) (hf : DataW.trod enc Tryz.prog w base spare held fuel 23 c = some x) :
    ∃ (a0 : Int) (a1 : Bool), c = [.int .i64 a0, .bool a1] ∧ (Lit.int .i64 a0).wf = true := by
  match c, hl with
  | [c0, c1], _ =>
    obtain ⟨xs, n, _, hx, _, hlen, hg⟩ := DataW.trod_struct Tryz.underlying23 hf
    match xs, hlen with
    | [y0, y1], _ =>
      have k0 : Tryz.prog.cellsOf 3 = 1 := by kernel_rfl
      have g0 := hg 0 _ rfl
      simp [k0] at g0
      obtain ⟨a0, e0, _, w0⟩ := DataW.trod_int Tryz.underlying3 g0
      simp at e0
      subst e0
      have k1 : Tryz.prog.cellsOf 4 = 1 := by kernel_rfl
      have g1 := hg 1 _ rfl
      simp [k1] at g1
      obtain ⟨a1, e1, _⟩ := DataW.trod_bool Tryz.underlying4 g1
      simp at e1
      subst e1
      exact ⟨a0, a1, rfl, w0⟩
theorem open_Code {r : Reach} {b0 : Nat} {v : Value} {d : DataW H} {p : List MemPlace} (hv : Value.okWide Tryz.prog w r b0 23 v) (h : DataW.Trod enc Tryz.prog w base spare held 23 v d p) :
    ∃ (a0 : Int) (a1 : Bool), v = .agg #[.int .i64 a0, .bool a1] ∧ (Lit.int .i64 a0).wf = true := by
  obtain ⟨cs, rfl, hsz⟩ := okWide_struct Tryz.underlying23 hv
  have hC : Tryz.prog.cellsOf 23 = 2 := by kernel_rfl
  obtain ⟨fuel, hf⟩ := h
  have hf2 : DataW.trod enc Tryz.prog w base spare held fuel 23 cs.toList = some _ := hf
  obtain ⟨a0, a1, e, hw⟩ := cells_Code (by rw [Array.length_toList]; exact hsz.trans hC) hf2
  refine ⟨a0, a1, ?_, hw⟩
  rw [show cs = #[.int .i64 a0, .bool a1] from by apply Array.toList_inj.1; exact e]

theorem cells_Date {fuel : Nat} {c : List Value} {x : DataW H × List MemPlace} (hl : c.length = 4) (hf : DataW.trod enc Tryz.prog w base spare held fuel 25 c = some x) :
    ∃ (a0 : Int) (a1 : Int) (a2 : Bool) (a3 : Int), c = [.int .i64 a0, .int .i64 a1, .bool a2, .int .i64 a3] ∧ (Lit.int .i64 a0).wf = true ∧ (Lit.int .i64 a1).wf = true ∧ (Lit.int .i64 a3).wf = true := by
  match c, hl with
  | [c0, c1, c2, c3], _ =>
    obtain ⟨xs, n, _, hx, _, hlen, hg⟩ := DataW.trod_struct Tryz.underlying25 hf
    match xs, hlen with
    | [y0, y1, y2], _ =>
      have k0 : Tryz.prog.cellsOf 3 = 1 := by kernel_rfl
      have g0 := hg 0 _ rfl
      simp [k0] at g0
      obtain ⟨a0, e0, _, w0⟩ := DataW.trod_int Tryz.underlying3 g0
      simp at e0
      subst e0
      have k1 : Tryz.prog.cellsOf 23 = 2 := by kernel_rfl
      have g1 := hg 1 _ rfl
      simp [k1] at g1
      obtain ⟨a1, a2, e1, w1⟩ := cells_Code rfl g1
      simp at e1
      obtain ⟨rfl, rfl⟩ := e1
      have k2 : Tryz.prog.cellsOf 3 = 1 := by kernel_rfl
      have g2 := hg 2 _ rfl
      simp [k2] at g2
      obtain ⟨a3, e2, _, w3⟩ := DataW.trod_int Tryz.underlying3 g2
      simp at e2
      subst e2
      exact ⟨a0, a1, a2, a3, rfl, w0, w1, w3⟩
theorem open_Date {r : Reach} {b0 : Nat} {v : Value} {d : DataW H} {p : List MemPlace} (hv : Value.okWide Tryz.prog w r b0 25 v) (h : DataW.Trod enc Tryz.prog w base spare held 25 v d p) :
    ∃ (a0 : Int) (a1 : Int) (a2 : Bool) (a3 : Int), v = .agg #[.int .i64 a0, .int .i64 a1, .bool a2, .int .i64 a3] ∧ (Lit.int .i64 a0).wf = true ∧ (Lit.int .i64 a1).wf = true ∧ (Lit.int .i64 a3).wf = true := by
  obtain ⟨cs, rfl, hsz⟩ := okWide_struct Tryz.underlying25 hv
  have hC : Tryz.prog.cellsOf 25 = 4 := by kernel_rfl
  obtain ⟨fuel, hf⟩ := h
  have hf2 : DataW.trod enc Tryz.prog w base spare held fuel 25 cs.toList = some _ := hf
  obtain ⟨a0, a1, a2, a3, e, hw⟩ := cells_Date (by rw [Array.length_toList]; exact hsz.trans hC) hf2
  refine ⟨a0, a1, a2, a3, ?_, hw⟩
  rw [show cs = #[.int .i64 a0, .int .i64 a1, .bool a2, .int .i64 a3] from by apply Array.toList_inj.1; exact e]

theorem cells_Span {fuel : Nat} {c : List Value} {x : DataW H × List MemPlace} (hl : c.length = 4) (hf : DataW.trod enc Tryz.prog w base spare held fuel 27 c = some x) :
    ∃ (a0 : Int) (a1 : Int) (a2 : Int) (a3 : Int), c = [.int .i64 a0, .int .i64 a1, .int .i64 a2, .int .i64 a3] ∧ (Lit.int .i64 a0).wf = true ∧ (Lit.int .i64 a1).wf = true ∧ (Lit.int .i64 a2).wf = true ∧ (Lit.int .i64 a3).wf = true := by
  match c, hl with
  | [c0, c1, c2, c3], _ =>
    obtain ⟨xs, n, _, hx, _, hlen, hg⟩ := DataW.trod_struct Tryz.underlying27 hf
    match xs, hlen with
    | [y0, y1, y2, y3], _ =>
      have k0 : Tryz.prog.cellsOf 3 = 1 := by kernel_rfl
      have g0 := hg 0 _ rfl
      simp [k0] at g0
      obtain ⟨a0, e0, _, w0⟩ := DataW.trod_int Tryz.underlying3 g0
      simp at e0
      subst e0
      have k1 : Tryz.prog.cellsOf 3 = 1 := by kernel_rfl
      have g1 := hg 1 _ rfl
      simp [k1] at g1
      obtain ⟨a1, e1, _, w1⟩ := DataW.trod_int Tryz.underlying3 g1
      simp at e1
      subst e1
      have k2 : Tryz.prog.cellsOf 3 = 1 := by kernel_rfl
      have g2 := hg 2 _ rfl
      simp [k2] at g2
      obtain ⟨a2, e2, _, w2⟩ := DataW.trod_int Tryz.underlying3 g2
      simp at e2
      subst e2
      have k3 : Tryz.prog.cellsOf 3 = 1 := by kernel_rfl
      have g3 := hg 3 _ rfl
      simp [k3] at g3
      obtain ⟨a3, e3, _, w3⟩ := DataW.trod_int Tryz.underlying3 g3
      simp at e3
      subst e3
      exact ⟨a0, a1, a2, a3, rfl, w0, w1, w2, w3⟩
theorem open_Span {r : Reach} {b0 : Nat} {v : Value} {d : DataW H} {p : List MemPlace} (hv : Value.okWide Tryz.prog w r b0 27 v) (h : DataW.Trod enc Tryz.prog w base spare held 27 v d p) :
    ∃ (a0 : Int) (a1 : Int) (a2 : Int) (a3 : Int), v = .agg #[.int .i64 a0, .int .i64 a1, .int .i64 a2, .int .i64 a3] ∧ (Lit.int .i64 a0).wf = true ∧ (Lit.int .i64 a1).wf = true ∧ (Lit.int .i64 a2).wf = true ∧ (Lit.int .i64 a3).wf = true := by
  obtain ⟨cs, rfl, hsz⟩ := okWide_struct Tryz.underlying27 hv
  have hC : Tryz.prog.cellsOf 27 = 4 := by kernel_rfl
  obtain ⟨fuel, hf⟩ := h
  have hf2 : DataW.trod enc Tryz.prog w base spare held fuel 27 cs.toList = some _ := hf
  obtain ⟨a0, a1, a2, a3, e, hw⟩ := cells_Span (by rw [Array.length_toList]; exact hsz.trans hC) hf2
  refine ⟨a0, a1, a2, a3, ?_, hw⟩
  rw [show cs = #[.int .i64 a0, .int .i64 a1, .int .i64 a2, .int .i64 a3] from by apply Array.toList_inj.1; exact e]
end
end Go.Proofs.YtkiopgegdkeojaaGreatDoor.Opens
