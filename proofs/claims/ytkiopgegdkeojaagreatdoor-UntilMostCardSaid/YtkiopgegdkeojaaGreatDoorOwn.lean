/- A row of the call's own, appended to: it may grow; the world has grown (Gr). -/
import Derived.Test.YtkiopgegdkeojaaGreatDoorBase
import Derived.Laws.OwnMore
import Derived.Laws.AppendOwn
import Derived.Laws.MakeOwn
set_option linter.unusedVariables false
set_option linter.unusedSimpArgs false
namespace Go.Proofs.YtkiopgegdkeojaaGreatDoor.Base
open Go Go.RowKit Go.Sort

theorem Gr.setRow {a b : World} (h : Gr a b) (g : Nat) (cs : Array Value) (hg : a.heap.size ≤ g) : Gr a (b.setRow g cs) := by
  obtain ⟨⟨q, os, rfl⟩⟩ := h
  refine ⟨⟨q, os.modify (g - a.heap.size) fun | .cells _ e f => .cells cs e f | o => o, ?_⟩⟩
  unfold World.setRow Go.Sort.grow
  simp only
  congr 1
  exact modify_append_right _ _ _ _ hg
theorem Gr.heap {a b : World} (h : Gr a b) {k : Nat} (hk : k < a.heap.size) : b.heap[k]? = a.heap[k]? := by
  obtain ⟨⟨q, os, rfl⟩⟩ := h
  exact heap_grow_old _ _ hk

section
variable {P : Program} (w : World)
theorem run_append_gr (base : Nat) (t ty e : TypeId) (i : TypeInfo) (z : Value) (size bytes : Nat) (ht : P.underlying t = some (.slice e)) (hi : P.info? e = some i) (hz : i.zero = some z)
    (hsize : i.size = size) (hby : i.bytes = bytes) (hzs : z.cells.size = size) (hsz : 0 < size)
    (v : Value) (n : Nat) (xs : List Value) (hown : w.ownsRow base e size v n xs)
    (a : Addr) (m c : Nat) (news : List Value) (hl : news.length = m * size) (hnews : ∀ j u, news[j]? = some u → w.cell? (a.add j) = some u) (h1 : ∀ u ∈ news, u.oneCell' = true)
    (hm : 0 < m) (h63 : n + m ≤ maxLen) (hbytes : (n + m) * bytes ≤ 140737488355328) (hbase : base ≤ w.heap.size) :
    ∃ g cap w', (Builtin.append_ #[t, t] ty #[v, .slice (some a) m c]).run P w = .ok (.slice (some ⟨g, 0, none⟩) (n + m) cap) w' ∧
      w'.ownsRow base e size (.slice (some ⟨g, 0, none⟩) (n + m) cap) (n + m) (xs ++ news) ∧ w.grownBy w' v.ownBlock ∧ base ≤ g ∧ (∀ W, Gr W w → W.heap.size ≤ base → Gr W w') := by
  obtain ⟨v', w', hr, ho, hgb, hnil⟩ := run_append_own (P := P) w base t ty e i z size bytes ht hi hz hsize hby hzs hsz v n xs hown a m c news hl hnews h1 h63 hbytes hbase
  subst hsize
  subst hby
  have hGr : ∀ W, Gr W w → W.heap.size ≤ base → Gr W w' := by
    intro W hW hWb
    rcases hown.2 with ⟨rfl, rfl⟩ | ⟨g, cap, cur, rfl, hbg, hg, hnc, hcm, hcs, htake⟩
    · have hx : xs = [] := List.eq_nil_of_length_eq_zero (by simpa using hown.1)
      subst hx
      have hr2 := run_append_nil (P := P) w t ty e i z ht hi hz a m c news hl hnews hm (by simp only [maxLen] at h63; omega) (by have hb := hbytes; simp only [Nat.zero_add] at hb; omega)
      rw [hr] at hr2
      injection hr2 with _ e2
      rw [e2]
      exact hW.drew.alloc _
    · by_cases hroom : n + m ≤ cap
      · have hfit : n * i.size + news.length ≤ cur.size := by rw [hl, hcs, ← Nat.add_mul]; exact Nat.mul_le_mul_right _ hroom
        have hr2 := run_append_room (P := P) w t ty e i ht hi g n cap cur hg a m c news hl hnews h1 hroom hfit
        rw [hr] at hr2
        injection hr2 with _ e2
        rw [e2]
        exact hW.setRow g _ (Nat.le_trans hWb hbg)
      · have holds : ∀ j u, xs[j]? = some u → w.cell? ((⟨g, 0, none⟩ : Addr).add j) = some u := hown.cells (g := g) rfl
        have hr2 := run_append_grow (P := P) w t ty e i z ht hi hz ⟨g, 0, none⟩ n cap xs hown.1 holds a m c news hl hnews (by omega) (by simp only [maxLen] at h63; omega) (growslice_fits (by omega) hbytes)
        rw [hr] at hr2
        injection hr2 with _ e2
        rw [e2]
        exact hW.drew.alloc _
  rcases ho.2 with ⟨q, -⟩ | ⟨g, cap, cur, rfl, hbg, -⟩
  · exact absurd (hnil.1 q).2 (by omega)
  · exact ⟨g, cap, w', hr, ho, hgb, hbg, hGr⟩
theorem wpList_append_gr {ops : Array Oper} {rest : List Oper} {o : Oper} {a : Act} {Q : Exit → Act → World → Prop} (hg : o.guard = none) (s x : Operand) (t : TypeId)
    (hop : o.op = .call { callee := .builtin .append, args := #[s, x], argTypes := #[t, t] })
    (base : Nat) (e : TypeId) (i : TypeInfo) (z : Value) (size bytes : Nat) (ht : P.underlying t = some (.slice e)) (hi : P.info? e = some i) (hz : i.zero = some z)
    (hsize : i.size = size) (hby : i.bytes = bytes) (hzs : z.cells.size = size) (hsz : 0 < size)
    (v : Value) (n : Nat) (xs : List Value) (hs : a.eval s = v) (hown : w.ownsRow base e size v n xs)
    (ad : Addr) (m c : Nat) (news : List Value) (hx : a.eval x = .slice (some ad) m c) (hl : news.length = m * size) (hnews : ∀ j u, news[j]? = some u → w.cell? (ad.add j) = some u) (h1 : ∀ u ∈ news, u.oneCell' = true)
    (hm : 0 < m) (h63 : n + m ≤ maxLen) (hbytes : (n + m) * bytes ≤ 140737488355328) (hbase : base ≤ w.heap.size)
    (hK : ∀ g cap w', w'.ownsRow base e size (.slice (some ⟨g, 0, none⟩) (n + m) cap) (n + m) (xs ++ news) → w.grownBy w' v.ownBlock → base ≤ g → (∀ W, Gr W w → W.heap.size ≤ base → Gr W w') →
      wpList P ops Q rest (a.put o.dst (.slice (some ⟨g, 0, none⟩) (n + m) cap)) w') : wpList P ops Q (o :: rest) a w := by
  refine wpList_plain hg fun K hK' => ?_
  obtain ⟨g, cap, w', hr, h2, h3, h4, h5⟩ := run_append_gr (P := P) w base t o.type e i z size bytes ht hi hz hsize hby hzs hsz v n xs hown ad m c news hl hnews h1 hm h63 hbytes hbase
  unfold Oper.wp execOp
  simp only [hop, resolve, invoke, builtin, Sem.run_bind, Sem.run_pure, Result.andThen_ok, List.map_toArray, List.map_cons, List.map_nil, hs, hx, hr]
  exact hK' _ _ (hK g cap w' h2 h3 h4 h5)
end

theorem own_new (w : World) {base g : Nat} {cs : Array Value} {e size n : Nat} (hb : base ≤ w.heap.size) (hg : w.heap.size = g) (hs : cs.size = n * size) (hn : n ≤ maxLen) :
    (w.alloc (.cells cs e)).ownsRow base e size (.slice (some ⟨g, 0, none⟩) n n) n cs.toList := by
  subst hg
  refine ⟨by simpa using hs, .inr ⟨w.heap.size, n, cs, rfl, hb, heap_alloc_new w _, Nat.le_refl _, hn, hs, ?_⟩⟩
  rw [← hs]
  exact List.take_of_length_le (by simp)
theorem own_set {w : World} {base e size g n cap : Nat} {xs : List Value} (h : w.ownsRow base e size (.slice (some ⟨g, 0, none⟩) n cap) n xs) (o : Nat) (u : Value) :
    (w.setCell ⟨g, o, none⟩ u).ownsRow base e size (.slice (some ⟨g, 0, none⟩) n cap) n (xs.set o u) := by
  refine ⟨by simpa using h.1, .inr ?_⟩
  rcases h.2 with ⟨q, -⟩ | ⟨g', cap', cur, q, hb, hh, hc, hm, hz, ht⟩
  · cases q
  · injection q with q1 q2 q3
    injection q1 with q4
    injection q4 with q5
    subst q5 q3
    refine ⟨g, cap, cur.setIfInBounds o u, rfl, hb, ?_, hc, hm, by simpa using hz, ?_⟩
    · unfold World.setCell
      simp [Array.getElem?_modify, hh]
    · rw [← ht, Array.toList_setIfInBounds, List.take_set]
/-- A slice of numbers of the call's own, as its readers see it. -/
structure Row (w : World) (size n : Nat) (g : Nat) (f : Nat → Value) : Prop where
  lt : g < w.heap.size
  c : ∀ j, j < n * size → w.cell? ⟨g, j, none⟩ = some (f j)
theorem Row.gr {w w' : World} {size n g : Nat} {f : Nat → Value} (h : Row w size n g f) (hg : Gr w w') : Row w' size n g f := ⟨hg.lt h.lt, fun j hj => hg.keep h.lt (h.c j hj)⟩
theorem row_of {w : World} {base e size g n cap : Nat} {xs : List Value} {f : Nat → Value} (h : w.ownsRow base e size (.slice (some ⟨g, 0, none⟩) n cap) n xs) (hn : 0 < n)
    (hf : ∀ j, j < n * size → xs[j]? = some (f j)) : Row w size n g f := by
  have h2 := h.2
  rcases h2 with ⟨q, -⟩ | ⟨g', cap', cur, q, -, hh, -⟩
  · cases q
  · injection q with q1 q2 q3
    injection q1 with q4
    injection q4 with q5
    subst q5
    refine ⟨(Array.getElem?_eq_some_iff.1 hh).1, fun j hj => ?_⟩
    have := h.cells (g := g) rfl j (f j) (hf j hj)
    by_cases z : j = 0
    · subst z; simpa [Addr.add] using this
    · simpa [Addr.add, z] using this

end Go.Proofs.YtkiopgegdkeojaaGreatDoor.Base
