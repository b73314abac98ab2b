/- The table of types out of the row's condition. -/
import Derived.Test.YtkiopgegdkeojaaGreatDoorKeviah4
import Derived.Test.YtkiopgegdkeojaaGreatDoorRows
import Derived.LaidLaws
import Derived.ProofKit
import Derived.OpenShut
import Derived.Lib.LaidTab
set_option linter.unusedVariables false
set_option linter.unusedSimpArgs false
namespace Go.Proofs.YtkiopgegdkeojaaGreatDoor.Laid
open Go Go.RowKit Go.ChangeShapes Go.WideShapes Go.Proofs.YtkiopgegdkeojaaGreatDoor.Walks
section
variable {H : Type} {enc : TypeId × Value → H} {w : World} {base : Nat} {spare : Nat → Bool} {held : Bool}

theorem cells_type {fuel : Nat} {c : List Value} {b k : Int} {l : Bool} {p : List MemPlace} (hl : c.length = 3) (hf : DataW.trod enc Tryz.prog w base spare held fuel 61 c = some (.agg [.lit (.int .i64 b), .lit (.int .i64 k), .lit (.bool l)], p)) :
    c = [.int .i64 b, .int .i64 k, .bool l] := by
  match c, hl with
  | [c0, c1, c2], _ =>
    obtain ⟨xs, n, _, hx, _, hlen, hg⟩ := DataW.trod_struct Tryz.underlying61 hf
    match xs, hlen with
    | [y0, y1, y2], _ =>
      have k0 : Tryz.prog.cellsOf 3 = 1 := by kernel_rfl
      have k2 : Tryz.prog.cellsOf 4 = 1 := by kernel_rfl
      have g0 := hg 0 _ rfl
      simp [k0] at g0
      obtain ⟨a0, e0, f0, w0⟩ := DataW.trod_int Tryz.underlying3 g0
      have g1 := hg 1 _ rfl
      simp [k0] at g1
      obtain ⟨a1, e1, f1, w1⟩ := DataW.trod_int Tryz.underlying3 g1
      have g2 := hg 2 _ rfl
      simp [k0, k2] at g2
      obtain ⟨a2, e2, f2⟩ := DataW.trod_bool Tryz.underlying4 g2
      subst f0 f1 f2
      simp at hx e0 e1 e2
      obtain ⟨⟨q0, q1, q2⟩, -⟩ := hx
      subst e0 e1 e2 q0 q1 q2
      rfl

/-- The k-th of the fourteen, as a datum. -/
def dat (k : Nat) : DataW H := .agg [.lit (.int .i64 (kB k)), .lit (.int .i64 (kK k)), .lit (.bool (kL k))]
theorem und_arr : Tryz.prog.underlying 112 = some (.array 14 61) := by kernel_rfl
theorem cells_arr {fuel : Nat} {cs : List Value} {ds : List (DataW H)} {p : List MemPlace} (h : DataW.trod enc Tryz.prog w base spare held fuel 112 cs = some (.agg ds, p)) (k : Nat) (hk : k < 14) (hd : ds[k]? = some (dat k)) :
    cs[k * 3]? = some (.int .i64 (kB k)) ∧ cs[k * 3 + 1]? = some (.int .i64 (kK k)) ∧ cs[k * 3 + 2]? = some (.bool (kL k)) := by
  have hce : Tryz.prog.cellsOf 61 = 3 := by kernel_rfl
  have hct : Tryz.prog.cellsOf 112 = 42 := by kernel_rfl
  cases fuel with
  | zero => simp [DataW.trod] at h
  | succ fuel =>
    simp only [DataW.trod, und_arr, hce, hct] at h
    split at h
    · rename_i hl
      obtain ⟨xs, hm, hx⟩ := Option.map_eq_some_iff.1 h
      obtain ⟨y, hy, hf⟩ := Lib.mapM_at hm k k (by simp [hk])
      have hxs : xs.map (·.1) = ds := by
        have := congrArg Prod.fst hx
        simpa using this
      have h2 : (xs.map (·.1))[k]? = some y.1 := by simp [hy]
      rw [hxs, hd] at h2
      obtain ⟨y1, y2⟩ := y
      simp at h2
      subst h2
      have hlen : ((cs.drop (k * 3)).take 3).length = 3 := by
        have hl' : cs.length = 42 := by simpa using hl
        simp
        omega
      have e := cells_type hlen hf
      have at_ : ∀ j, j < 3 → cs[k * 3 + j]? = ((cs.drop (k * 3)).take 3)[j]? := fun j hj => by
        rw [List.getElem?_take_of_lt hj, List.getElem?_drop]
      rw [e] at at_
      exact ⟨at_ 0 (by omega), at_ 1 (by omega), at_ 2 (by omega)⟩
    · cases h
end
theorem TT_of_laid {W : World} {rest : List (String × DataW Unit)} (h : laidMet Tryz.prog (("almanacker/keviah.types", Rows.laid_almanacker_keviah_types) :: rest) W) : TT W := by
  obtain ⟨ps, ⟨g', t', cs, fuel, p, q, hg', ht', hvar, hd, _, _⟩, _⟩ := h
  have hg : Tryz.prog.globalNamed "almanacker/keviah.types" = some 1 := by kernel_rfl
  have hty : (Tryz.prog.globals[1]?).map (·.type) = some 112 := by kernel_rfl
  obtain rfl := Option.some.inj (hg.symm.trans hg')
  obtain rfl := Option.some.inj (hty.symm.trans ht')
  have c := fun i => World.var?_cell hg hvar i
  have key := fun k (hk : k < 14) (z : _) => cells_arr hd k hk z
  have all : ∀ k, k < 14 → cs.toList[k * 3]? = some (.int .i64 (kB k)) ∧ cs.toList[k * 3 + 1]? = some (.int .i64 (kK k)) ∧ cs.toList[k * 3 + 2]? = some (.bool (kL k)) := fun k hk => key k hk (by
    match k, hk with
    | 0, _ => rfl
    | 1, _ => rfl
    | 2, _ => rfl
    | 3, _ => rfl
    | 4, _ => rfl
    | 5, _ => rfl
    | 6, _ => rfl
    | 7, _ => rfl
    | 8, _ => rfl
    | 9, _ => rfl
    | 10, _ => rfl
    | 11, _ => rfl
    | 12, _ => rfl
    | 13, _ => rfl)
  refine ⟨fun k hk => ?_, fun k hk => ?_, fun k hk => ?_⟩
  · rw [c]; simpa using (all k hk).1
  · rw [c]; simpa using (all k hk).2.1
  · rw [c]; simpa using (all k hk).2.2
end Go.Proofs.YtkiopgegdkeojaaGreatDoor.Laid
