/- Arguments that are structs, by value, opened to their numbers. -/
import Derived.Test.YtkiopgegdkeojaaDoorProg
import Derived.Test.YtkiopgegdkeojaaDoorChecked
import Derived.WalkKit
import Derived.ProofKit
import Derived.OpenShut
import Derived.ChangeOld
import Derived.Below
import Derived.Carry
import Derived.SizedLaws
import Derived.Lib.SmallJoins
namespace Go.Proofs.YtkiopgegdkeojaaDoor.Opens
open Go.Joins Go.ChangeShapes Go.WideShapes Go.RowKit
set_option linter.unusedVariables false
set_option linter.unusedSimpArgs false
set_option maxRecDepth 20000
theorem laidOut : laidOutB Tryd.prog = true := by kernel_rfl
section
variable {H : Type} {enc : TypeId × Value → H} {w : World} {base : Nat} {spare : Nat → Bool} {held : Bool}

theorem cells_Code {fuel : Nat} {c : List Value} {x : DataW H × List MemPlace} (hl : c.length = 2) (hf : DataW.trod enc Tryd.prog w base spare held fuel 23 c = some x) :
    ∃ (a0 : Int) (a1 : Bool), c = [.int .i64 a0, .bool a1] ∧ (Lit.int .i64 a0).wf = true := by
  match c, hl with
  | [c0, c1], _ =>
    obtain ⟨xs, n, _, hx, _, hlen, hg⟩ := DataW.trod_struct Tryd.underlying23 hf
    match xs, hlen with
    | [y0, y1], _ =>
      have k0 : Tryd.prog.cellsOf 3 = 1 := by kernel_rfl
      have g0 := hg 0 _ rfl
      simp [k0] at g0
      obtain ⟨a0, e0, _, w0⟩ := DataW.trod_int Tryd.underlying3 g0
      simp at e0
      subst e0
      have k1 : Tryd.prog.cellsOf 4 = 1 := by kernel_rfl
      have g1 := hg 1 _ rfl
      simp [k1] at g1
      obtain ⟨a1, e1, _⟩ := DataW.trod_bool Tryd.underlying4 g1
      simp at e1
      subst e1
      exact ⟨a0, a1, rfl, w0⟩
theorem open_Code {r : Reach} {b0 : Nat} {v : Value} {d : DataW H} {p : List MemPlace} (hv : Value.okWide Tryd.prog w r b0 23 v) (h : DataW.Trod enc Tryd.prog w base spare held 23 v d p) :
    ∃ (a0 : Int) (a1 : Bool), v = .agg #[.int .i64 a0, .bool a1] ∧ (Lit.int .i64 a0).wf = true := by
  obtain ⟨cs, rfl, hsz⟩ := okWide_struct Tryd.underlying23 hv
  have hC : Tryd.prog.cellsOf 23 = 2 := by kernel_rfl
  obtain ⟨fuel, hf⟩ := h
  have hf2 : DataW.trod enc Tryd.prog w base spare held fuel 23 cs.toList = some _ := hf
  obtain ⟨a0, a1, e, hw⟩ := cells_Code (by rw [Array.length_toList]; exact hsz.trans hC) hf2
  refine ⟨a0, a1, ?_, hw⟩
  rw [show cs = #[.int .i64 a0, .bool a1] from by apply Array.toList_inj.1; exact e]

theorem cells_Date {fuel : Nat} {c : List Value} {x : DataW H × List MemPlace} (hl : c.length = 4) (hf : DataW.trod enc Tryd.prog w base spare held fuel 25 c = some x) :
    ∃ (a0 : Int) (a1 : Int) (a2 : Bool) (a3 : Int), c = [.int .i64 a0, .int .i64 a1, .bool a2, .int .i64 a3] ∧ (Lit.int .i64 a0).wf = true ∧ (Lit.int .i64 a1).wf = true ∧ (Lit.int .i64 a3).wf = true := by
  match c, hl with
  | [c0, c1, c2, c3], _ =>
    obtain ⟨xs, n, _, hx, _, hlen, hg⟩ := DataW.trod_struct Tryd.underlying25 hf
    match xs, hlen with
    | [y0, y1, y2], _ =>
      have k0 : Tryd.prog.cellsOf 3 = 1 := by kernel_rfl
      have g0 := hg 0 _ rfl
      simp [k0] at g0
      obtain ⟨a0, e0, _, w0⟩ := DataW.trod_int Tryd.underlying3 g0
      simp at e0
      subst e0
      have k1 : Tryd.prog.cellsOf 23 = 2 := by kernel_rfl
      have g1 := hg 1 _ rfl
      simp [k1] at g1
      obtain ⟨a1, a2, e1, w1⟩ := cells_Code rfl g1
      simp at e1
      obtain ⟨rfl, rfl⟩ := e1
      have k2 : Tryd.prog.cellsOf 3 = 1 := by kernel_rfl
      have g2 := hg 2 _ rfl
      simp [k2] at g2
      obtain ⟨a3, e2, _, w3⟩ := DataW.trod_int Tryd.underlying3 g2
      simp at e2
      subst e2
      exact ⟨a0, a1, a2, a3, rfl, w0, w1, w3⟩
theorem open_Date {r : Reach} {b0 : Nat} {v : Value} {d : DataW H} {p : List MemPlace} (hv : Value.okWide Tryd.prog w r b0 25 v) (h : DataW.Trod enc Tryd.prog w base spare held 25 v d p) :
    ∃ (a0 : Int) (a1 : Int) (a2 : Bool) (a3 : Int), v = .agg #[.int .i64 a0, .int .i64 a1, .bool a2, .int .i64 a3] ∧ (Lit.int .i64 a0).wf = true ∧ (Lit.int .i64 a1).wf = true ∧ (Lit.int .i64 a3).wf = true := by
  obtain ⟨cs, rfl, hsz⟩ := okWide_struct Tryd.underlying25 hv
  have hC : Tryd.prog.cellsOf 25 = 4 := by kernel_rfl
  obtain ⟨fuel, hf⟩ := h
  have hf2 : DataW.trod enc Tryd.prog w base spare held fuel 25 cs.toList = some _ := hf
  obtain ⟨a0, a1, a2, a3, e, hw⟩ := cells_Date (by rw [Array.length_toList]; exact hsz.trans hC) hf2
  refine ⟨a0, a1, a2, a3, ?_, hw⟩
  rw [show cs = #[.int .i64 a0, .int .i64 a1, .bool a2, .int .i64 a3] from by apply Array.toList_inj.1; exact e]

theorem cells_Rise {fuel : Nat} {c : List Value} {x : DataW H × List MemPlace} (hl : c.length = 7) (hf : DataW.trod enc Tryd.prog w base spare held fuel 35 c = some x) :
    ∃ (a0 : Int) (a1 : Int) (a2 : Bool) (a3 : Int) (a4 : Int) (a5 : Int) (a6 : Int), c = [.int .i64 a0, .int .i64 a1, .bool a2, .int .i64 a3, .int .i16 a4, .int .i16 a5, .int .u8 a6] ∧ (Lit.int .i64 a0).wf = true ∧ (Lit.int .i64 a1).wf = true ∧ (Lit.int .i64 a3).wf = true ∧ (Lit.int .i16 a4).wf = true ∧ (Lit.int .i16 a5).wf = true ∧ (Lit.int .u8 a6).wf = true := by
  match c, hl with
  | [c0, c1, c2, c3, c4, c5, c6], _ =>
    obtain ⟨xs, n, _, hx, _, hlen, hg⟩ := DataW.trod_struct Tryd.underlying35 hf
    match xs, hlen with
    | [y0, y1, y2, y3], _ =>
      have k0 : Tryd.prog.cellsOf 25 = 4 := by kernel_rfl
      have g0 := hg 0 _ rfl
      simp [k0] at g0
      obtain ⟨a0, a1, a2, a3, e0, w0, w1, w3⟩ := cells_Date rfl g0
      simp at e0
      obtain ⟨rfl, rfl, rfl, rfl⟩ := e0
      have k1 : Tryd.prog.cellsOf 33 = 1 := by kernel_rfl
      have g1 := hg 1 _ rfl
      simp [k1] at g1
      obtain ⟨a4, e1, _, w4⟩ := DataW.trod_int Tryd.underlying33 g1
      simp at e1
      subst e1
      have k2 : Tryd.prog.cellsOf 33 = 1 := by kernel_rfl
      have g2 := hg 2 _ rfl
      simp [k2] at g2
      obtain ⟨a5, e2, _, w5⟩ := DataW.trod_int Tryd.underlying33 g2
      simp at e2
      subst e2
      have k3 : Tryd.prog.cellsOf 5 = 1 := by kernel_rfl
      have g3 := hg 3 _ rfl
      simp [k3] at g3
      obtain ⟨a6, e3, _, w6⟩ := DataW.trod_int Tryd.underlying5 g3
      simp at e3
      subst e3
      exact ⟨a0, a1, a2, a3, a4, a5, a6, rfl, w0, w1, w3, w4, w5, w6⟩
theorem open_Rise {r : Reach} {b0 : Nat} {v : Value} {d : DataW H} {p : List MemPlace} (hv : Value.okWide Tryd.prog w r b0 35 v) (h : DataW.Trod enc Tryd.prog w base spare held 35 v d p) :
    ∃ (a0 : Int) (a1 : Int) (a2 : Bool) (a3 : Int) (a4 : Int) (a5 : Int) (a6 : Int), v = .agg #[.int .i64 a0, .int .i64 a1, .bool a2, .int .i64 a3, .int .i16 a4, .int .i16 a5, .int .u8 a6] ∧ (Lit.int .i64 a0).wf = true ∧ (Lit.int .i64 a1).wf = true ∧ (Lit.int .i64 a3).wf = true ∧ (Lit.int .i16 a4).wf = true ∧ (Lit.int .i16 a5).wf = true ∧ (Lit.int .u8 a6).wf = true := by
  obtain ⟨cs, rfl, hsz⟩ := okWide_struct Tryd.underlying35 hv
  have hC : Tryd.prog.cellsOf 35 = 7 := by kernel_rfl
  obtain ⟨fuel, hf⟩ := h
  have hf2 : DataW.trod enc Tryd.prog w base spare held fuel 35 cs.toList = some _ := hf
  obtain ⟨a0, a1, a2, a3, a4, a5, a6, e, hw⟩ := cells_Rise (by rw [Array.length_toList]; exact hsz.trans hC) hf2
  refine ⟨a0, a1, a2, a3, a4, a5, a6, ?_, hw⟩
  rw [show cs = #[.int .i64 a0, .int .i64 a1, .bool a2, .int .i64 a3, .int .i16 a4, .int .i16 a5, .int .u8 a6] from by apply Array.toList_inj.1; exact e]

theorem cells_Move {fuel : Nat} {c : List Value} {x : DataW H × List MemPlace} (hl : c.length = 7) (hf : DataW.trod enc Tryd.prog w base spare held fuel 39 c = some x) :
    ∃ (a0 : Int) (a1 : Int) (a2 : Bool) (a3 : Int) (a4 : Int) (a5 : Int) (a6 : Int), c = [.int .i64 a0, .int .i64 a1, .bool a2, .int .i64 a3, .int .i32 a4, .int .i32 a5, .int .u8 a6] ∧ (Lit.int .i64 a0).wf = true ∧ (Lit.int .i64 a1).wf = true ∧ (Lit.int .i64 a3).wf = true ∧ (Lit.int .i32 a4).wf = true ∧ (Lit.int .i32 a5).wf = true ∧ (Lit.int .u8 a6).wf = true := by
  match c, hl with
  | [c0, c1, c2, c3, c4, c5, c6], _ =>
    obtain ⟨xs, n, _, hx, _, hlen, hg⟩ := DataW.trod_struct Tryd.underlying39 hf
    match xs, hlen with
    | [y0, y1, y2, y3], _ =>
      have k0 : Tryd.prog.cellsOf 25 = 4 := by kernel_rfl
      have g0 := hg 0 _ rfl
      simp [k0] at g0
      obtain ⟨a0, a1, a2, a3, e0, w0, w1, w3⟩ := cells_Date rfl g0
      simp at e0
      obtain ⟨rfl, rfl, rfl, rfl⟩ := e0
      have k1 : Tryd.prog.cellsOf 21 = 1 := by kernel_rfl
      have g1 := hg 1 _ rfl
      simp [k1] at g1
      obtain ⟨a4, e1, _, w4⟩ := DataW.trod_int Tryd.underlying21 g1
      simp at e1
      subst e1
      have k2 : Tryd.prog.cellsOf 21 = 1 := by kernel_rfl
      have g2 := hg 2 _ rfl
      simp [k2] at g2
      obtain ⟨a5, e2, _, w5⟩ := DataW.trod_int Tryd.underlying21 g2
      simp at e2
      subst e2
      have k3 : Tryd.prog.cellsOf 5 = 1 := by kernel_rfl
      have g3 := hg 3 _ rfl
      simp [k3] at g3
      obtain ⟨a6, e3, _, w6⟩ := DataW.trod_int Tryd.underlying5 g3
      simp at e3
      subst e3
      exact ⟨a0, a1, a2, a3, a4, a5, a6, rfl, w0, w1, w3, w4, w5, w6⟩
theorem open_Move {r : Reach} {b0 : Nat} {v : Value} {d : DataW H} {p : List MemPlace} (hv : Value.okWide Tryd.prog w r b0 39 v) (h : DataW.Trod enc Tryd.prog w base spare held 39 v d p) :
    ∃ (a0 : Int) (a1 : Int) (a2 : Bool) (a3 : Int) (a4 : Int) (a5 : Int) (a6 : Int), v = .agg #[.int .i64 a0, .int .i64 a1, .bool a2, .int .i64 a3, .int .i32 a4, .int .i32 a5, .int .u8 a6] ∧ (Lit.int .i64 a0).wf = true ∧ (Lit.int .i64 a1).wf = true ∧ (Lit.int .i64 a3).wf = true ∧ (Lit.int .i32 a4).wf = true ∧ (Lit.int .i32 a5).wf = true ∧ (Lit.int .u8 a6).wf = true := by
  obtain ⟨cs, rfl, hsz⟩ := okWide_struct Tryd.underlying39 hv
  have hC : Tryd.prog.cellsOf 39 = 7 := by kernel_rfl
  obtain ⟨fuel, hf⟩ := h
  have hf2 : DataW.trod enc Tryd.prog w base spare held fuel 39 cs.toList = some _ := hf
  obtain ⟨a0, a1, a2, a3, a4, a5, a6, e, hw⟩ := cells_Move (by rw [Array.length_toList]; exact hsz.trans hC) hf2
  refine ⟨a0, a1, a2, a3, a4, a5, a6, ?_, hw⟩
  rw [show cs = #[.int .i64 a0, .int .i64 a1, .bool a2, .int .i64 a3, .int .i32 a4, .int .i32 a5, .int .u8 a6] from by apply Array.toList_inj.1; exact e]
end
end Go.Proofs.YtkiopgegdkeojaaDoor.Opens
