/- Arguments that are structs, by value, opened to their numbers. -/
import Derived.Test.YtgjgkldkdmohjaaDoorProg
import Derived.Test.YtgjgkldkdmohjaaDoorChecked
import Derived.WalkKit
import Derived.ProofKit
import Derived.OpenShut
import Derived.ChangeOld
import Derived.Below
import Derived.Carry
import Derived.SizedLaws
import Derived.Lib.SmallJoins
namespace Go.Proofs.YtgjgkldkdmohjaaDoor.Opens
open Go.Joins Go.ChangeShapes Go.WideShapes Go.RowKit
set_option linter.unusedVariables false
set_option linter.unusedSimpArgs false
set_option maxRecDepth 20000
theorem laidOut : laidOutB Tryd.prog = true := by kernel_rfl
section
variable {H : Type} {enc : TypeId × Value → H} {w : World} {base : Nat} {spare : Nat → Bool} {held : Bool}

theorem cells_Code {fuel : Nat} {c : List Value} {x : DataW H × List MemPlace} (hl : c.length = 2) (hf : DataW.trod enc Tryd.prog w base spare held fuel 44 c = some x) :
    ∃ (a0 : Int) (a1 : Bool), c = [.int .i64 a0, .bool a1] ∧ (Lit.int .i64 a0).wf = true := by
  match c, hl with
  | [c0, c1], _ =>
    obtain ⟨xs, n, _, hx, _, hlen, hg⟩ := DataW.trod_struct Tryd.underlying44 hf
    match xs, hlen with
    | [y0, y1], _ =>
      have k0 : Tryd.prog.cellsOf 3 = 1 := by kernel_rfl
      have g0 := hg 0 _ rfl
      simp [k0] at g0
      obtain ⟨a0, e0, _, w0⟩ := DataW.trod_int Tryd.underlying3 g0
      simp at e0
      subst e0
      have k1 : Tryd.prog.cellsOf 4 = 1 := by kernel_rfl
      have g1 := hg 1 _ rfl
      simp [k1] at g1
      obtain ⟨a1, e1, _⟩ := DataW.trod_bool Tryd.underlying4 g1
      simp at e1
      subst e1
      exact ⟨a0, a1, rfl, w0⟩
theorem open_Code {r : Reach} {b0 : Nat} {v : Value} {d : DataW H} {p : List MemPlace} (hv : Value.okWide Tryd.prog w r b0 44 v) (h : DataW.Trod enc Tryd.prog w base spare held 44 v d p) :
    ∃ (a0 : Int) (a1 : Bool), v = .agg #[.int .i64 a0, .bool a1] ∧ (Lit.int .i64 a0).wf = true := by
  obtain ⟨cs, rfl, hsz⟩ := okWide_struct Tryd.underlying44 hv
  have hC : Tryd.prog.cellsOf 44 = 2 := by kernel_rfl
  obtain ⟨fuel, hf⟩ := h
  have hf2 : DataW.trod enc Tryd.prog w base spare held fuel 44 cs.toList = some _ := hf
  obtain ⟨a0, a1, e, hw⟩ := cells_Code (by rw [Array.length_toList]; exact hsz.trans hC) hf2
  refine ⟨a0, a1, ?_, hw⟩
  rw [show cs = #[.int .i64 a0, .bool a1] from by apply Array.toList_inj.1; exact e]

theorem cells_Ask {fuel : Nat} {c : List Value} {x : DataW H × List MemPlace} (hl : c.length = 5) (hf : DataW.trod enc Tryd.prog w base spare held fuel 53 c = some x) :
    ∃ (a0 : Int) (a1 : Int) (a2 : Bool) (a3 : Int) (a4 : Int), c = [.int .i64 a0, .int .i64 a1, .bool a2, .int .i64 a3, .int .i64 a4] ∧ (Lit.int .i64 a0).wf = true ∧ (Lit.int .i64 a1).wf = true ∧ (Lit.int .i64 a3).wf = true ∧ (Lit.int .i64 a4).wf = true := by
  match c, hl with
  | [c0, c1, c2, c3, c4], _ =>
    obtain ⟨xs, n, _, hx, _, hlen, hg⟩ := DataW.trod_struct Tryd.underlying53 hf
    match xs, hlen with
    | [y0, y1, y2, y3], _ =>
      have k0 : Tryd.prog.cellsOf 3 = 1 := by kernel_rfl
      have g0 := hg 0 _ rfl
      simp [k0] at g0
      obtain ⟨a0, e0, _, w0⟩ := DataW.trod_int Tryd.underlying3 g0
      simp at e0
      subst e0
      have k1 : Tryd.prog.cellsOf 44 = 2 := by kernel_rfl
      have g1 := hg 1 _ rfl
      simp [k1] at g1
      obtain ⟨a1, a2, e1, w1⟩ := cells_Code rfl g1
      simp at e1
      obtain ⟨rfl, rfl⟩ := e1
      have k2 : Tryd.prog.cellsOf 3 = 1 := by kernel_rfl
      have g2 := hg 2 _ rfl
      simp [k2] at g2
      obtain ⟨a3, e2, _, w3⟩ := DataW.trod_int Tryd.underlying3 g2
      simp at e2
      subst e2
      have k3 : Tryd.prog.cellsOf 3 = 1 := by kernel_rfl
      have g3 := hg 3 _ rfl
      simp [k3] at g3
      obtain ⟨a4, e3, _, w4⟩ := DataW.trod_int Tryd.underlying3 g3
      simp at e3
      subst e3
      exact ⟨a0, a1, a2, a3, a4, rfl, w0, w1, w3, w4⟩
theorem open_Ask {r : Reach} {b0 : Nat} {v : Value} {d : DataW H} {p : List MemPlace} (hv : Value.okWide Tryd.prog w r b0 53 v) (h : DataW.Trod enc Tryd.prog w base spare held 53 v d p) :
    ∃ (a0 : Int) (a1 : Int) (a2 : Bool) (a3 : Int) (a4 : Int), v = .agg #[.int .i64 a0, .int .i64 a1, .bool a2, .int .i64 a3, .int .i64 a4] ∧ (Lit.int .i64 a0).wf = true ∧ (Lit.int .i64 a1).wf = true ∧ (Lit.int .i64 a3).wf = true ∧ (Lit.int .i64 a4).wf = true := by
  obtain ⟨cs, rfl, hsz⟩ := okWide_struct Tryd.underlying53 hv
  have hC : Tryd.prog.cellsOf 53 = 5 := by kernel_rfl
  obtain ⟨fuel, hf⟩ := h
  have hf2 : DataW.trod enc Tryd.prog w base spare held fuel 53 cs.toList = some _ := hf
  obtain ⟨a0, a1, a2, a3, a4, e, hw⟩ := cells_Ask (by rw [Array.length_toList]; exact hsz.trans hC) hf2
  refine ⟨a0, a1, a2, a3, a4, ?_, hw⟩
  rw [show cs = #[.int .i64 a0, .int .i64 a1, .bool a2, .int .i64 a3, .int .i64 a4] from by apply Array.toList_inj.1; exact e]

theorem cells_Move {fuel : Nat} {c : List Value} {x : DataW H × List MemPlace} (hl : c.length = 5) (hf : DataW.trod enc Tryd.prog w base spare held fuel 46 c = some x) :
    ∃ (a0 : Int) (a1 : Int) (a2 : Bool) (a3 : Int) (a4 : Int), c = [.int .i64 a0, .int .i64 a1, .bool a2, .int .i32 a3, .int .i32 a4] ∧ (Lit.int .i64 a0).wf = true ∧ (Lit.int .i64 a1).wf = true ∧ (Lit.int .i32 a3).wf = true ∧ (Lit.int .i32 a4).wf = true := by
  match c, hl with
  | [c0, c1, c2, c3, c4], _ =>
    obtain ⟨xs, n, _, hx, _, hlen, hg⟩ := DataW.trod_struct Tryd.underlying46 hf
    match xs, hlen with
    | [y0, y1, y2, y3], _ =>
      have k0 : Tryd.prog.cellsOf 3 = 1 := by kernel_rfl
      have g0 := hg 0 _ rfl
      simp [k0] at g0
      obtain ⟨a0, e0, _, w0⟩ := DataW.trod_int Tryd.underlying3 g0
      simp at e0
      subst e0
      have k1 : Tryd.prog.cellsOf 44 = 2 := by kernel_rfl
      have g1 := hg 1 _ rfl
      simp [k1] at g1
      obtain ⟨a1, a2, e1, w1⟩ := cells_Code rfl g1
      simp at e1
      obtain ⟨rfl, rfl⟩ := e1
      have k2 : Tryd.prog.cellsOf 21 = 1 := by kernel_rfl
      have g2 := hg 2 _ rfl
      simp [k2] at g2
      obtain ⟨a3, e2, _, w3⟩ := DataW.trod_int Tryd.underlying21 g2
      simp at e2
      subst e2
      have k3 : Tryd.prog.cellsOf 21 = 1 := by kernel_rfl
      have g3 := hg 3 _ rfl
      simp [k3] at g3
      obtain ⟨a4, e3, _, w4⟩ := DataW.trod_int Tryd.underlying21 g3
      simp at e3
      subst e3
      exact ⟨a0, a1, a2, a3, a4, rfl, w0, w1, w3, w4⟩
theorem open_Move {r : Reach} {b0 : Nat} {v : Value} {d : DataW H} {p : List MemPlace} (hv : Value.okWide Tryd.prog w r b0 46 v) (h : DataW.Trod enc Tryd.prog w base spare held 46 v d p) :
    ∃ (a0 : Int) (a1 : Int) (a2 : Bool) (a3 : Int) (a4 : Int), v = .agg #[.int .i64 a0, .int .i64 a1, .bool a2, .int .i32 a3, .int .i32 a4] ∧ (Lit.int .i64 a0).wf = true ∧ (Lit.int .i64 a1).wf = true ∧ (Lit.int .i32 a3).wf = true ∧ (Lit.int .i32 a4).wf = true := by
  obtain ⟨cs, rfl, hsz⟩ := okWide_struct Tryd.underlying46 hv
  have hC : Tryd.prog.cellsOf 46 = 5 := by kernel_rfl
  obtain ⟨fuel, hf⟩ := h
  have hf2 : DataW.trod enc Tryd.prog w base spare held fuel 46 cs.toList = some _ := hf
  obtain ⟨a0, a1, a2, a3, a4, e, hw⟩ := cells_Move (by rw [Array.length_toList]; exact hsz.trans hC) hf2
  refine ⟨a0, a1, a2, a3, a4, ?_, hw⟩
  rw [show cs = #[.int .i64 a0, .int .i64 a1, .bool a2, .int .i32 a3, .int .i32 a4] from by apply Array.toList_inj.1; exact e]
end
end Go.Proofs.YtgjgkldkdmohjaaDoor.Opens
