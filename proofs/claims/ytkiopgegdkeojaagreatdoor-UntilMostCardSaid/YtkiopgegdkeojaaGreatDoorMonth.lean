/- Walks of package month: the table of a type's months. -/
import Derived.Test.YtkiopgegdkeojaaGreatDoorMonMath
import Derived.Test.YtkiopgegdkeojaaGreatDoorKeviah4
set_option linter.unusedVariables false
set_option linter.unusedSimpArgs false
namespace Go.Proofs.YtkiopgegdkeojaaGreatDoor.Walks
open Go Go.RowKit Go.Sort Go.Proofs.YtkiopgegdkeojaaGreatDoor.Base Go.Proofs.YtkiopgegdkeojaaGreatDoor.Plain Go.Proofs.YtkiopgegdkeojaaGreatDoor.Math

/-- The months of a regular year that isn't leap. -/
def plv (j : Nat) : Int := if j % 2 = 0 then 30 else 29
/-- Both variables hold their tables. -/
structure GT (w : World) : Prop where
  t : TT w
  lt : 0 < w.heap.size
  p : ∀ j, j < 12 → w.cell? ⟨0, j, none⟩ = some (.int .i64 (plv j))
theorem GT.gr {w w' : World} (h : GT w) (g : Gr w w') : GT w' := ⟨h.t.gr g, g.lt h.lt, fun j hj => g.keep h.lt (h.p j hj)⟩

/-- A table in a box: thirteen numbers, and how many of them count. -/
structure Tab (w : World) (b : Nat) (f : Nat → Int) (n : Nat) : Prop where
  lt : b < w.heap.size
  c : ∀ j, j < 13 → w.cell? ⟨b, j, none⟩ = some (.int .i64 (f j))
  z : w.cell? ⟨b, 13, none⟩ = some (.int .i64 (n : Int))
  fr : ∀ j, j < 14 → w.frozen? ⟨b, j, none⟩ = false
theorem Tab.gr {w w' : World} {b : Nat} {f : Nat → Int} {n : Nat} (h : Tab w b f n) (g : Gr w w') : Tab w' b f n :=
  ⟨g.lt h.lt, fun j hj => g.keep h.lt (h.c j hj), g.keep h.lt h.z, fun j hj => g.thaw h.lt (h.fr j hj)⟩
/-- The first n. -/
def tf (M : Nat → Int) (n j : Nat) : Int := if j < n then M j else 0
theorem tf_put (M : Nat → Int) (n j : Nat) (d : Int) (hd : d = M n) : (if n = j then Value.int .i64 d else Value.int .i64 (tf M n j)) = Value.int .i64 (tf M (n + 1) j) := by
  unfold tf
  by_cases e : n = j
  · subst e; simp [hd]
  · rw [if_neg e]
    by_cases h : j < n
    · rw [if_pos h, if_pos (by omega)]
    · rw [if_neg h, if_neg (by omega)]

theorem Tab.other {w w' : World} {b b' : Nat} {f : Nat → Int} {n : Nat} (h : Tab w b f n) (hb : b ≠ b') (o : ∀ c q, c ≠ b' → w'.cell? ⟨c, q, none⟩ = w.cell? ⟨c, q, none⟩) (z : w'.heap.size = w.heap.size) (fr : ∀ c q v, w.frozen? ⟨c, q, none⟩ = v → w'.frozen? ⟨c, q, none⟩ = v) : Tab w' b f n :=
  ⟨by rw [z]; exact h.lt, fun j hj => (o _ _ hb).trans (h.c j hj), (o _ _ hb).trans h.z, fun j hj => fr _ _ _ (h.fr j hj)⟩
theorem set_size (w : World) (p : Addr) (v : Value) : (w.setCell p v).heap.size = w.heap.size := by
  unfold World.setCell; simp
theorem set_other (w : World) (b o c q : Nat) (v : Value) (h : c ≠ b) : (w.setCell ⟨b, o, none⟩ v).cell? ⟨c, q, none⟩ = w.cell? ⟨c, q, none⟩ := by
  unfold World.cell? World.setCell
  simp only [Array.getElem?_modify]
  rw [if_neg (fun e => h e.symm)]
theorem Tab.put {w : World} {b n : Nat} {M : Nat → Int} {d : Int} (T : Tab w b (tf M n) n) (hn : n < 13) (hd : d = M n) :
    Tab ((w.setCell ⟨b, n, none⟩ (.int .i64 d)).setCell ⟨b, 13, none⟩ (.int .i64 ((n : Int) + 1))) b (tf M (n + 1)) (n + 1) := by
  refine ⟨by rw [set_size, set_size]; exact T.lt, fun j hj => ?_, ?_, fun j hj => set_frozen (set_frozen (T.fr j hj))⟩
  · have h1 := set_cell (b := b) (o := n) (v := .int .i64 d) (T.c j hj)
    rw [set_cell h1, if_neg (by omega), ← tf_put M n j d hd]
    by_cases e : n = j
    · rw [if_pos ⟨rfl, e⟩, if_pos e]
    · rw [if_neg (fun h => e h.2), if_neg e]
  · have h1 := set_cell (b := b) (o := n) (v := .int .i64 d) T.z
    rw [if_neg (by omega)] at h1
    rw [set_cell h1, if_pos ⟨rfl, rfl⟩]
    simp

/-- Cells stored one behind the other. -/
def stores (w : World) (b : Nat) : List Value → Nat → World
  | [], _ => w
  | v :: vs, o => stores (w.setCell ⟨b, o, none⟩ v) b vs (o + 1)
theorem stores_keep {w : World} {b : Nat} {vs : List Value} : ∀ {o q : Nat} {v : Value}, q < o → w.cell? ⟨b, q, none⟩ = some v → (stores w b vs o).cell? ⟨b, q, none⟩ = some v := by
  induction vs generalizing w with
  | nil => intro o q v _ h; exact h
  | cons u us ih =>
    intro o q v hq h
    refine ih (by omega) ?_
    rw [set_cell h, if_neg (by omega)]
theorem stores_cell {w : World} {b : Nat} {vs : List Value} : ∀ {o : Nat}, (∀ j, j < vs.length → ∃ u, w.cell? ⟨b, o + j, none⟩ = some u) → ∀ j, j < vs.length → (stores w b vs o).cell? ⟨b, o + j, none⟩ = vs[j]? := by
  induction vs generalizing w with
  | nil => intro o _ j hj; simp at hj
  | cons u us ih =>
    intro o h j hj
    cases j with
    | zero =>
      obtain ⟨x, hx⟩ := h 0 (by simp)
      have := set_cell (b := b) (o := o) (v := u) hx
      rw [if_pos ⟨rfl, by simp⟩] at this
      simp only [stores]
      exact (stores_keep (by omega) this).trans (by simp)
    | succ j =>
      have := ih (w := w.setCell ⟨b, o, none⟩ u) (o := o + 1) (fun i hi => by
        obtain ⟨x, hx⟩ := h (i + 1) (by simpa using hi)
        rw [show o + 1 + i = o + (i + 1) by omega]
        exact ⟨_, set_cell hx⟩) j (by simpa using hj)
      rw [show o + (j + 1) = o + 1 + j by omega]
      simp only [stores]
      exact this.trans (by simp)
theorem stores_gr {U w : World} {b : Nat} {vs : List Value} : ∀ {o : Nat}, Gr U w → U.heap.size ≤ b → Gr U (stores w b vs o) := by
  induction vs generalizing w with
  | nil => intro o h _; exact h
  | cons u us ih => intro o h hb; exact ih (h.setCell _ _ hb) hb

set_option maxRecDepth 20000 in
set_option maxHeartbeats 1000000 in
theorem tadd_c (M : Nat → Int) (b n : Nat) (d : Int) (w : World) (T : Tab w b (tf M n) n) (hn : n < 13) (hd : d = M n) :
    Calls Tryz.prog 105 #[.pointer (some ⟨b, 0, none⟩), .int .i64 d] w fun e w' => e = .returned (.tuple #[]) ∧ Tab w' b (tf M (n + 1)) (n + 1) ∧ (∀ U, Gr U w → U.heap.size ≤ b → Gr U w') ∧ (∀ c q, c ≠ b → w'.cell? ⟨c, q, none⟩ = w.cell? ⟨c, q, none⟩) ∧ w'.heap.size = w.heap.size ∧ (∀ c q v, w.frozen? ⟨c, q, none⟩ = v → w'.frozen? ⟨c, q, none⟩ = v) := by
  have HD := Lib.hid hd
  have z0 := T.z
  have zd : w.drew.cell? ⟨b, 13, none⟩ = some (.int .i64 (n : Int)) := T.z
  have zq : ({ w with drawn := w.drawn + 1 } : World).cell? ⟨b, 13, none⟩ = some (.int .i64 (n : Int)) := T.z
  have c0 := T.c n hn
  have cd : w.drew.cell? ⟨b, n, none⟩ = some (.int .i64 (tf M n n)) := T.c n hn
  have f0 := T.fr n (by omega)
  have fd : w.drew.frozen? ⟨b, n, none⟩ = false := T.fr n (by omega)
  have f13 : w.drew.frozen? ⟨b, 13, none⟩ = false := T.fr 13 (by omega)
  have z1 : (w.drew.setCell ⟨b, n, none⟩ (.int .i64 d)).cell? ⟨b, 13, none⟩ = some (.int .i64 (n : Int)) := by
    rw [set_cell zd, if_neg (by omega)]
  have f1 : (w.drew.setCell ⟨b, n, none⟩ (.int .i64 d)).frozen? ⟨b, 13, none⟩ = false := set_frozen f13
  have f13w : w.frozen? ⟨b, 13, none⟩ = false := T.fr 13 (by omega)
  have TD := Lib.hid T
  have hw : IntKind.i64.wrap (n : Int) = (n : Int) := by rw [IntKind.wrap_i64]; omega
  have hk0 : ¬ ((n : Int) < 0) := by omega
  have hk1 : (n : Int) < 13 := by omega
  have hk2 : ((n : Int)).toNat = n := by omega
  clear T hd
  go_enter Tryz.func105, Tryz.ntmps105
  go_wp2
  refine wp_region_still_tail 9 mixed (by kernel_rfl) ?_
  simp only [List.take_succ_cons, List.take_zero, List.drop_succ_cons, List.drop_zero]
  repeat (first | still_step)
  refine wpStill_nil ?_
  change wpList _ _ _ _ _ w.drew
  go_wp2
  go_end0
  refine ⟨rfl, ?_, fun U hU hb => ?_, fun c q hc => ?_, ?_, fun c q v hv => set_frozen (set_frozen hv)⟩
  · exact (TD.out.put hn HD.out).gr ((Gr.refl _).drew)
  · exact ((hU.setCell _ _ hb).setCell _ _ hb).drew
  · exact (set_other _ _ _ _ _ _ hc).trans (set_other _ _ _ _ _ _ hc)
  · exact (set_size _ _ _).trans (set_size _ _ _)

end Go.Proofs.YtkiopgegdkeojaaGreatDoor.Walks
