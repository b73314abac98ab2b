/- A date as an argument, by value: opened to its numbers, and shut again in another world. -/
import Derived.Test.YtegkbjpcgelomaaGreatDoorProg
import Derived.Test.YtegkbjpcgelomaaGreatDoorChecked
import Derived.WalkKit
import Derived.ProofKit
import Derived.OpenShut
import Derived.ChangeOld
import Derived.ChangeSame
import Derived.Below
import Derived.Carry
import Derived.SizedLaws
import Derived.Lib.SmallJoins
set_option linter.unusedVariables false
set_option linter.unusedSimpArgs false
section
namespace Go.Proofs.YtegkbjpcgelomaaGreatDoor.Opens
open Go.Joins Go.ChangeShapes Go.WideShapes Go.RowKit
set_option maxRecDepth 20000
section
variable {H : Type} {enc : TypeId × Value → H} {w w2 : World} {base base2 : Nat} {spare spare2 : Nat → Bool} {held held2 : Bool}
theorem cellsI : Tryz.prog.cellsOf 3 = 1 := by kernel_rfl
theorem cellsB : Tryz.prog.cellsOf 4 = 1 := by kernel_rfl
theorem cellsC : Tryz.prog.cellsOf 46 = 2 := by kernel_rfl
theorem cellsD : Tryz.prog.cellsOf 48 = 4 := by kernel_rfl
theorem data_Code {fuel : Nat} {c0 c1 : Value} {x : DataW H × List MemPlace} (hf : DataW.trod enc Tryz.prog w base spare held fuel 46 [c0, c1] = some x) :
    ∃ (a : Int) (b : Bool), c0 = .int .i64 a ∧ c1 = .bool b ∧ (Lit.int .i64 a).wf = true ∧ x = (.agg [.lit (.int .i64 a), .lit (.bool b)], []) := by
  obtain ⟨xs, n, _, hx, _, hlen, hg⟩ := DataW.trod_struct Tryz.underlying46 hf
  match xs, hlen with
  | [y0, y1], _ =>
    have g0 := hg 0 _ rfl
    simp [cellsI] at g0
    obtain ⟨a0, e0, d0, w0⟩ := DataW.trod_int Tryz.underlying3 g0
    simp at e0
    subst e0
    have g1 := hg 1 _ rfl
    simp [cellsB] at g1
    obtain ⟨a1, e1, d1⟩ := DataW.trod_bool Tryz.underlying4 g1
    simp at e1
    subst e1
    exact ⟨a0, a1, rfl, rfl, w0, by rw [hx, d0, d1]; simp⟩
theorem mk_Code (n : Nat) {a : Int} {b : Bool} (h : (Lit.int .i64 a).wf = true) : DataW.trod enc Tryz.prog w base spare held (n + 2) 46 [.int .i64 a, .bool b] = some (.agg [.lit (.int .i64 a), .lit (.bool b)], []) := by
  have i := trod_int_mk (enc := enc) (P := Tryz.prog) (w := w) (base := base) (spare := spare) (held := held) n Tryz.underlying3 h
  have j : DataW.trod enc Tryz.prog w base spare held (n + 1) 4 [.bool b] = some (.lit (.bool b), []) := by simp [DataW.trod, Tryz.underlying4]
  have := trod_struct_mk (enc := enc) (w := w) (base := base) (spare := spare) (held := held) (n := n + 1) (cs := [.int .i64 a, .bool b]) (xs := [(.lit (.int .i64 a), []), (.lit (.bool b), [])]) Tryz.underlying46 (by rw [cellsC]; rfl) (by simp [cellsI, cellsB, i, j])
  simpa using this
theorem data_Date {fuel : Nat} {c0 c1 c2 c3 : Value} {x : DataW H × List MemPlace} (hf : DataW.trod enc Tryz.prog w base spare held fuel 48 [c0, c1, c2, c3] = some x) :
    ∃ (y n d : Int) (b : Bool), c0 = .int .i64 y ∧ c1 = .int .i64 n ∧ c2 = .bool b ∧ c3 = .int .i64 d ∧ (Lit.int .i64 y).wf = true ∧ (Lit.int .i64 n).wf = true ∧ (Lit.int .i64 d).wf = true ∧
      x = (.agg [.lit (.int .i64 y), .agg [.lit (.int .i64 n), .lit (.bool b)], .lit (.int .i64 d)], []) := by
  obtain ⟨xs, n, _, hx, _, hlen, hg⟩ := DataW.trod_struct Tryz.underlying48 hf
  match xs, hlen with
  | [y0, y1, y2], _ =>
    have g0 := hg 0 _ rfl
    simp [cellsI] at g0
    obtain ⟨a0, e0, d0, w0⟩ := DataW.trod_int Tryz.underlying3 g0
    simp at e0
    subst e0
    have g1 := hg 1 _ rfl
    simp [cellsC] at g1
    obtain ⟨a1, b1, rfl, rfl, w1, d1⟩ := data_Code g1
    have g2 := hg 2 _ rfl
    simp [cellsI] at g2
    obtain ⟨a2, e2, d2, w2⟩ := DataW.trod_int Tryz.underlying3 g2
    simp at e2
    subst e2
    exact ⟨a0, a1, a2, b1, rfl, rfl, rfl, rfl, w0, w1, w2, by rw [hx, d0, d1, d2]; simp⟩
theorem mk_Date (m : Nat) {y n d : Int} {b : Bool} (h0 : (Lit.int .i64 y).wf = true) (h1 : (Lit.int .i64 n).wf = true) (h2 : (Lit.int .i64 d).wf = true) :
    DataW.trod enc Tryz.prog w base spare held (m + 3) 48 [.int .i64 y, .int .i64 n, .bool b, .int .i64 d] = some (.agg [.lit (.int .i64 y), .agg [.lit (.int .i64 n), .lit (.bool b)], .lit (.int .i64 d)], []) := by
  have i := trod_int_mk (enc := enc) (P := Tryz.prog) (w := w) (base := base) (spare := spare) (held := held) (m + 1) Tryz.underlying3 h0
  have j := trod_int_mk (enc := enc) (P := Tryz.prog) (w := w) (base := base) (spare := spare) (held := held) (m + 1) Tryz.underlying3 h2
  have k := mk_Code (enc := enc) (w := w) (base := base) (spare := spare) (held := held) m (b := b) h1
  have := trod_struct_mk (enc := enc) (w := w) (base := base) (spare := spare) (held := held) (n := m + 2) (cs := [.int .i64 y, .int .i64 n, .bool b, .int .i64 d]) (xs := [(.lit (.int .i64 y), []), (.agg [.lit (.int .i64 n), .lit (.bool b)], []), (.lit (.int .i64 d), [])]) Tryz.underlying48 (by rw [cellsD]; rfl) (by simp [cellsI, cellsC, i, j, k])
  simpa using this
theorem open_Date {r : Reach} {b0 : Nat} {v : Value} {d : DataW H} {p : List MemPlace} (hv : Value.okWide Tryz.prog w r b0 48 v) (h : DataW.Trod enc Tryz.prog w base spare held 48 v d p) :
    ∃ (a0 a1 : Int) (a2 : Bool) (a3 : Int), v = .agg #[.int .i64 a0, .int .i64 a1, .bool a2, .int .i64 a3] ∧ (Lit.int .i64 a0).wf = true ∧ (Lit.int .i64 a1).wf = true ∧ (Lit.int .i64 a3).wf = true := by
  obtain ⟨cs, rfl, hsz⟩ := okWide_struct Tryz.underlying48 hv
  obtain ⟨fuel, hf⟩ := h
  have hf2 : DataW.trod enc Tryz.prog w base spare held fuel 48 cs.toList = some _ := hf
  have hl : cs.toList.length = 4 := by rw [Array.length_toList]; exact hsz.trans cellsD
  match hc : cs.toList, hl with
  | [c0, c1, c2, c3], _ =>
    rw [hc] at hf2
    obtain ⟨y, n, e, b, rfl, rfl, rfl, rfl, w0, w1, w2, -⟩ := data_Date hf2
    exact ⟨y, n, b, e, by rw [show cs = #[.int .i64 y, .int .i64 n, .bool b, .int .i64 e] from by apply Array.toList_inj.1; exact hc], w0, w1, w2⟩
theorem shut_Date {y n e : Int} {b : Bool} {d : DataW H} {p : List MemPlace} (h : DataW.Trod enc Tryz.prog w base spare held 48 (.agg #[.int .i64 y, .int .i64 n, .bool b, .int .i64 e]) d p) :
    DataW.Trod enc Tryz.prog w2 base2 spare2 held2 48 (.agg #[.int .i64 y, .int .i64 n, .bool b, .int .i64 e]) d [] := by
  obtain ⟨fuel, hf⟩ := h
  have hf2 : DataW.trod enc Tryz.prog w base spare held fuel 48 [.int .i64 y, .int .i64 n, .bool b, .int .i64 e] = some (d, p) := hf
  obtain ⟨y', n', e', b', h0, h1, h2, h3, w0, w1, w2, hx⟩ := data_Date hf2
  obtain rfl : y = y' := by simpa using h0
  obtain rfl : n = n' := by simpa using h1
  obtain rfl : b = b' := by simpa using h2
  obtain rfl : e = e' := by simpa using h3
  obtain rfl : d = _ := (Prod.mk.inj hx).1
  exact ⟨3, mk_Date 0 w0 w1 w2⟩
end
end Go.Proofs.YtegkbjpcgelomaaGreatDoor.Opens
end
