/- Words for the walks: the world has grown: orders have been drawn, blocks have been laid behind; whatever lay there is as it was. -/
import Derived.Test.YtkiopgegdkeojaaGreatDoorProg
import Derived.Test.YtkiopgegdkeojaaGreatDoorPlain
import Derived.Below
import Derived.WalkKit
import Derived.KernelRfl
import Derived.Deep.QuietTactic
import Derived.BigQuiet
import Derived.Deep.RegionHeld3
import Derived.Deep.DeepCutAuto
import Derived.Deep.CutBlock
import Derived.Deep.LoopGhost
import Derived.Deep.DeepFit
import Derived.Deep.DeepMust
import Derived.Laws.Rows
import Derived.OwnWalk
import Derived.WideLaws
import Derived.Outline
import Derived.Lib.Hide
import Derived.Shelf.SlSortCmp.QuietGrown
set_option linter.unusedVariables false
namespace Go.Proofs.YtkiopgegdkeojaaGreatDoor.Base
open Go Go.RowKit Go.Sort

theorem mixed : Tryz.prog.follows .mixedOrders = true := by kernel_rfl

/-- The world has grown: orders drawn, blocks laid behind. -/
structure Gr (w w' : World) : Prop where mk :: (out : ∃ q os, w' = grow (w.drewN q) os)

theorem drewN_grow (w : World) (os : Array Obj) (n : Nat) : (grow w os).drewN n = grow (w.drewN n) os := rfl
theorem Gr.refl (w : World) : Gr w w := ⟨⟨0, #[], by rw [grow_empty]; rfl⟩⟩
theorem Gr.trans {a b c : World} (h : Gr a b) (k : Gr b c) : Gr a c := by
  obtain ⟨⟨q, os, rfl⟩⟩ := h
  obtain ⟨⟨p, us, rfl⟩⟩ := k
  exact ⟨⟨q + p, os ++ us, by rw [drewN_grow, grow_grow, World.drewN_drewN]⟩⟩
theorem Gr.alloc {a b : World} (h : Gr a b) (o : Obj) : Gr a (b.alloc o) := h.trans ⟨⟨0, #[o], by rw [alloc_eq_grow]; rfl⟩⟩
theorem Gr.drewN {a b : World} (h : Gr a b) (n : Nat) : Gr a (b.drewN n) := h.trans ⟨⟨n, #[], by rw [grow_empty]⟩⟩
theorem Gr.drew {a b : World} (h : Gr a b) : Gr a b.drew := h.trans ⟨⟨1, #[], by rw [grow_empty]; rfl⟩⟩
theorem Gr.grown {a b : World} (h : Gr a b) (n : Nat) (os : Array Obj) : Gr a (grow (b.drewN n) os) := h.trans ⟨⟨n, os, rfl⟩⟩
theorem Gr.grow {a b : World} (h : Gr a b) (os : Array Obj) : Gr a (Go.Sort.grow b os) := h.trans ⟨⟨0, os, rfl⟩⟩
theorem Gr.size {a b : World} (h : Gr a b) : a.heap.size ≤ b.heap.size := by
  obtain ⟨⟨q, os, rfl⟩⟩ := h
  rw [size_grow]
  show a.heap.size ≤ a.heap.size + os.size
  omega
theorem Gr.setCell {a b : World} (h : Gr a b) (p : Addr) (v : Value) (hp : a.heap.size ≤ p.block) : Gr a (b.setCell p v) := by
  obtain ⟨⟨q, os, rfl⟩⟩ := h
  refine ⟨⟨q, os.modify (p.block - a.heap.size) fun | .cells c e f => .cells (if p.spot.isSome then c else c.setIfInBounds p.off v) e f | o => o, ?_⟩⟩
  unfold World.setCell Go.Sort.grow
  simp only
  congr 1
  exact modify_append_right _ _ _ _ hp
theorem Gr.below {a b : World} (h : Gr a b) : Below a.heap.size a b := by
  obtain ⟨⟨q, os, rfl⟩⟩ := h
  exact ⟨rfl, rfl, rfl, by rw [size_grow]; show a.heap.size ≤ a.heap.size + os.size; omega, fun k hk => heap_grow_old _ _ hk⟩
theorem gcell {W w1 : World} (h : Gr W w1) : (∀ b o, b < W.heap.size → w1.cell? ⟨b, o, none⟩ = W.cell? ⟨b, o, none⟩) ∧ (∀ b o, b < W.heap.size → w1.frozen? ⟨b, o, none⟩ = W.frozen? ⟨b, o, none⟩) ∧ W.heap.size ≤ w1.heap.size :=
  ⟨fun b o hb => h.below.cell (p := ⟨b, o, none⟩) hb, fun b o hb => h.below.frozen (p := ⟨b, o, none⟩) hb, h.size⟩

theorem Gr.keep {W w1 : World} (h : Gr W w1) {b o : Nat} {v : Value} (hb : b < W.heap.size) (c : W.cell? ⟨b, o, none⟩ = some v) : w1.cell? ⟨b, o, none⟩ = some v := (h.below.cell (p := ⟨b, o, none⟩) hb).trans c
theorem Gr.thaw {W w1 : World} (h : Gr W w1) {b o : Nat} {v : Bool} (hb : b < W.heap.size) (c : W.frozen? ⟨b, o, none⟩ = v) : w1.frozen? ⟨b, o, none⟩ = v := (h.below.frozen (p := ⟨b, o, none⟩) hb).trans c
theorem Gr.lt {W w1 : World} (h : Gr W w1) {b : Nat} (hb : b < W.heap.size) : b < w1.heap.size := Nat.lt_of_lt_of_le hb h.size

/-- A callee's contract, met in a world of the class of grown worlds. -/
theorem gr_of {P : Program} {f : FuncId} {args : Array Value} {w : World} {n : Nat} {os : Array Obj} {v : Value}
    (h : Calls P f args (grow (w.drewN n) os) fun e w' => e = .returned v ∧ Gr (grow (w.drewN n) os) w') : Calls P f args (grow (w.drewN n) os) fun e w'' => e = .returned v ∧ ∃ p : GrownBy, w'' = grow (w.drewN p.n) p.os :=
  Calls.grown_of (h.mono fun _ _ ⟨he, hg⟩ => ⟨he, hg.out⟩)
/-- The cell of a block that was there, in every grown world. -/
theorem gcell_in {w : World} {b o : Nat} {v : Value} (hb : b < w.heap.size) (h : w.cell? ⟨b, o, none⟩ = some v) : ∀ n os, (grow (w.drewN n) os).cell? ⟨b, o, none⟩ = some v := fun n os => cell_grown hb h n os

theorem ret1 {k : IntKind} {a b : Int} (h : a = b) : Ending.returned (.int k a) = .returned (.int k b) := by rw [h]
theorem ret2 {k l : IntKind} {a b c d : Int} (h : a = b) (g : c = d) : Ending.returned (.tuple #[.int k a, .int l c]) = .returned (.tuple #[.int k b, .int l d]) := by rw [h, g]
theorem retb {a b : Bool} (h : a = b) : Ending.returned (.bool a) = .returned (.bool b) := by rw [h]
theorem retb2 {l : IntKind} {a b : Bool} {c d : Int} (h : a = b) (g : c = d) : Ending.returned (.tuple #[.bool a, .int l c]) = .returned (.tuple #[.bool b, .int l d]) := by rw [h, g]

end Go.Proofs.YtkiopgegdkeojaaGreatDoor.Base
