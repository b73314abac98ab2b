/- Walks of package halak: the sum of products; parts of days, hours and parts; of moments; of moons. -/
import Derived.Test.YtiadghpepnpbgaaRef02
import Derived.Laws.OwnMore
import Derived.Laws.MakeOwn
set_option linter.unusedVariables false
set_option linter.unusedSimpArgs false
namespace Go.Proofs.Ytiadghpepnpbgaa.Base
open Go Go.RowKit Go.Sort

theorem Gr.setRow {a b : World} (h : Gr a b) (g : Nat) (cs : Array Value) (hg : a.heap.size ≤ g) : Gr a (b.setRow g cs) := by
  obtain ⟨⟨q, os, rfl⟩⟩ := h
  refine ⟨⟨q, os.modify (g - a.heap.size) fun | .cells _ e f => .cells cs e f | o => o, ?_⟩⟩
  unfold World.setRow Go.Sort.grow
  simp only
  congr 1
  exact modify_append_right _ _ _ _ hg
theorem Gr.heap {a b : World} (h : Gr a b) {k : Nat} (hk : k < a.heap.size) : b.heap[k]? = a.heap[k]? := by
  obtain ⟨⟨q, os, rfl⟩⟩ := h
  exact heap_grow_old _ _ hk
/-- Block g is a row of three numbers of the call's own; the first k are known. -/
def Own (w : World) (g k : Nat) (f : Nat → Int) : Prop := ∃ cur, w.heap[g]? = some (.cells cur 3 (0, 0)) ∧ cur.size = 3 ∧ ∀ j, j < k → cur[j]? = some (.int .i64 (f j))
theorem Own.lt {w : World} {g k : Nat} {f : Nat → Int} (h : Own w g k f) : g < w.heap.size := by
  obtain ⟨cur, h, -⟩ := h
  exact (Array.getElem?_eq_some_iff.1 h).1
theorem Own.gr {w w' : World} {g k : Nat} {f : Nat → Int} (h : Own w g k f) (hg : Gr w w') : Own w' g k f := by
  have hl := h.lt
  obtain ⟨cur, h, e⟩ := h
  exact ⟨cur, (hg.heap hl).trans h, e⟩
theorem Own.cell {w : World} {g k : Nat} {f : Nat → Int} (h : Own w g k f) {j : Nat} (hj : j < k) : w.cell? ⟨g, j, none⟩ = some (.int .i64 (f j)) := by
  obtain ⟨cur, h, -, e⟩ := h
  unfold World.cell?
  simp [h, e j hj]

theorem info_int : (Try.prog.info? 3).map (fun i => (i.zero, i.size, i.bytes)) = some (some (.int .i64 0), 1, 8) := by kernel_rfl
theorem und_ints : Try.prog.underlying 67 = some (.slice 3) := by kernel_rfl

/-- 'make([]int, 0, 3)'. -/
theorem make3 (f : Nat → Int) (w : World) {ops : Array Oper} {rest : List Oper} {o : Oper} {a : Act} {Q : Exit → Act → World → Prop}
    (hg : o.guard = none) (l c : Operand) (hop : o.op = Op.makeSlice 67 l c) (kl kc : IntKind) (hl : a.eval l = .int kl 0) (hc : a.eval c = .int kc 3)
    (hK : ∀ w', Own w' w.heap.size 0 f → Gr w w' → wpList Try.prog ops Q rest (a.put o.dst (.slice (some ⟨w.heap.size, 0, none⟩) 0 3)) w') :
    wpList Try.prog ops Q (o :: rest) a w := by
  obtain ⟨i, h2, h3, h4, h5⟩ := info_parts info_int
  refine wpList_plain hg fun K hK' => ?_
  have hrun := run_make (P := Try.prog) w 67 3 i (.int .i64 0) und_ints h2 h3 kl kc 0 3 (by omega) (by omega) (by rw [h5]; omega) (by omega)
  unfold Oper.wp
  simp [execOp, hop, hl, hc, hrun, Result.andThen]
  refine hK' _ _ (hK _ ⟨madeCells (Value.int .i64 0).cells (3 * i.size), ?_, by simp [size_madeCells, h4], fun j hj => absurd hj (Nat.not_lt_zero j)⟩ ((Gr.refl w).alloc _))
  exact heap_alloc_new _ _
/-- 'append(row, n)' within the three. -/
theorem append3 (f : Nat → Int) (w : World) {ops : Array Oper} {rest : List Oper} {o : Oper} {a : Act} {Q : Exit → Act → World → Prop}
    (hg : o.guard = none) (s x : Operand) (hop : o.op = Op.call { callee := Callee.builtin Builtin.append, args := #[s, x], argTypes := #[67, 67] })
    (g k : Nat) (hs : a.eval s = .slice (some ⟨g, 0, none⟩) k 3) (hown : Own w g k f) (hk : k < 3) (b c : Nat) (hx : a.eval x = .slice (some ⟨b, 0, none⟩) 1 c) (hu : w.cell? ⟨b, 0, none⟩ = some (.int .i64 (f k)))
    (hK : ∀ w', Own w' g (k + 1) f → (∀ W, Gr W w → W.heap.size ≤ g → Gr W w') → wpList Try.prog ops Q rest (a.put o.dst (.slice (some ⟨g, 0, none⟩) (k + 1) 3)) w') :
    wpList Try.prog ops Q (o :: rest) a w := by
  obtain ⟨i, h2, h3, h4, h5⟩ := info_parts info_int
  refine wpList_plain hg fun K hK' => ?_
  obtain ⟨cur, h, hz, he⟩ := hown
  have hrun := run_append_room (P := Try.prog) w 67 o.type 3 i und_ints h2 g k 3 cur h ⟨b, 0, none⟩ 1 c [.int .i64 (f k)] (by simp [h4]) (by
      intro j u hj
      match j, hj with
      | 0, hj => simp at hj; subst hj; simpa [Addr.add] using hu) (by intro u hu; simp at hu; subst hu; rfl) (by omega) (by simp [h4]; omega)
  unfold Oper.wp
  simp [execOp, hop, resolve, invoke, builtin, hs, hx, hrun, Result.andThen]
  refine hK' _ _ (hK _ ⟨_, setRow_heap w g cur _ _ _ h, ?_, fun j hj => ?_⟩ fun W hW hl => hW.setRow g _ hl)
  · simp [h4, hz]; omega
  · have hl : (cur.toList.take k).length = k := by simp [hz]; omega
    simp only [h4, Nat.mul_one, List.getElem?_toArray]
    by_cases e : j = k
    · subst e
      rw [List.getElem?_append_right (by omega), hl]
      simp
    · rw [List.getElem?_append_left (by omega), List.getElem?_take_of_lt (by omega)]
      simpa using he j (by omega)

end Go.Proofs.Ytiadghpepnpbgaa.Base

namespace Go.Proofs.Ytiadghpepnpbgaa.Walks
open Go Go.RowKit Go.Sort Go.Proofs.Ytiadghpepnpbgaa.Base Go.Proofs.Ytiadghpepnpbgaa.Plain Go.Proofs.Ytiadghpepnpbgaa.Math

/-- The sum of the first numbers. -/
def ps (f : Nat → Int) : Nat → Int
  | 0 => 0
  | k + 1 => ps f k + f k
/-- Do the first numbers fit, and all their sums? -/
def psOk (f : Nat → Int) (n : Nat) : Prop := (∀ j, j < n → fits (f j)) ∧ ∀ j, j ≤ n → fits (ps f (j + 1))
/-- The numbers to be summed: n products, then p. -/
def ff (A B : Nat → Int) (n : Nat) (p : Int) (j : Nat) : Int := if j < n then A j * B j else p

set_option maxHeartbeats 4000000 in
theorem total_c (A B f : Nat → Int) (p N E : Int) (n b : Nat) (w : World) (hn : n ≤ 2) (hf : ∀ j, j < n → f j = A j * B j) (hfp : f n = p) (hp : fits p)
    (hA : ∀ j, j < n → fits (A j)) (hB : ∀ j, j < n → fits (B j)) (hb : b < w.heap.size)
    (cA : ∀ j, j < n → w.cell? ⟨b, j * 2, none⟩ = some (.int .i64 (A j))) (cB : ∀ j, j < n → w.cell? ⟨b, j * 2 + 1, none⟩ = some (.int .i64 (B j)))
    (y1 : psOk f n → N = ps f (n + 1) ∧ E = 0) (y2 : ¬ psOk f n → N = 0 ∧ E = 6) :
    Calls Try.prog 49 #[.int .i64 p, .slice (some ⟨b, 0, none⟩) n n] w fun e w' => e = .returned (.tuple #[.int .i64 N, .int .i64 E]) ∧ Gr w w' := by
  have HF := Lib.hid hf
  have HFP := Lib.hid hfp
  have HA := Lib.hid hA
  have HB := Lib.hid hB
  have CA := Lib.hid cA
  have CB := Lib.hid cB
  have Y1 := Lib.hid y1
  have Y2 := Lib.hid y2
  clear hf hfp hA hB cA cB y1 y2
  go_enter Try.func49, Try.ntmps49
  go_wp2_with (at_make; refine make3 f _ rfl _ _ rfl _ _ rfl rfl ?_; intro w1 hown hg)
  go_loopg [6, 19] n (fun kx s6 s19 wr => ∃ k : Nat, k ≤ n ∧ n - k ≤ kx ∧ s6 = .slice (some ⟨w.heap.size, 0, none⟩) k 3 ∧ s19 = .int .i64 (k : Int) ∧ Own wr w.heap.size k f ∧ (∀ j, j < k → fits (f j)) ∧ Gr w wr)
  case atStart => exact ⟨0, by omega, by omega, rfl, rfl, hown, fun j hj => absurd hj (Nat.not_lt_zero j), hg⟩
  case round =>
    obtain ⟨k, hk, hm, rfl, rfl, hown, hfit, hg⟩ := hrel
    by_cases e : k < n
    · have ca := hg.keep hb (CA.out k e)
      have cb := hg.keep hb (CB.out k e)
      have fA := Lib.hid (HA.out k e)
      have fB := Lib.hid (HB.out k e)
      have HF2 := Lib.hid hfit
      clear hfit
      have EF : RowKit.Hid (f k = A k * B k) := Lib.hid (HF.out k e)
      by_cases q : fits (A k * B k)
      · have q1 := okN_of q
        have q2 := okE_of q
        go_wp2_with (first | (go_at_call 54; (with_reducible refine (mul_u (A k) (B k) _ fA.out fB.out).mono ?_); rintro e wA ⟨rfl, hgwA⟩) | (at_builtin; refine append3 f _ rfl _ _ rfl w.heap.size k rfl (hown.gr (by repeat (first | exact Gr.refl _ | refine Gr.setCell ?_ _ _ (by first | exact Nat.le_refl _ | (simp; omega) | (simp; done)) | refine Gr.grown ?_ _ _ | refine Gr.drewN ?_ _ | refine Gr.drew ?_ | refine Gr.alloc ?_ _ | refine Gr.grow ?_ _ | (refine Gr.trans ?_ (by assumption))))) (by omega) _ _ rfl (by rw [EF.out]; simp [go_sem]) ?_; intro w2 hown2 hgk))
        have hg2 : Gr w w2 := hgk w (by repeat (first | exact Gr.refl _ | refine Gr.setCell ?_ _ _ (by first | exact Nat.le_refl _ | (simp; omega) | (simp; done)) | refine Gr.grown ?_ _ _ | refine Gr.drewN ?_ _ | refine Gr.drew ?_ | refine Gr.alloc ?_ _ | refine Gr.grow ?_ _ | (refine Gr.trans ?_ (by assumption)))) (Nat.le_refl _)
        clear hgk
        go_roundg (n - (k + 1))
        case measure => omega
        case rel => exact ⟨k + 1, by omega, Nat.le_refl _, rfl, by go_num, hown2, fun j hj => (by
          by_cases z : j = k
          · subst z; rw [EF.out]; exact q
          · exact HF2.out j (by omega)), hg2⟩
      · have q1 := okN_no q
        have q2 := okE_no q
        have NO : RowKit.Hid (¬ psOk f n) := Lib.hid fun z => q (by have := z.1 k e; rwa [EF.out] at this)
        go_wp2_with (first | (go_at_call 54; (with_reducible refine (mul_u (A k) (B k) _ fA.out fB.out).mono ?_); rintro e wA ⟨rfl, hgwA⟩))
        go_ret2
        exact ⟨ret2 (Y2.out NO.out).1.symm (Y2.out NO.out).2.symm, (by repeat (first | exact Gr.refl _ | refine Gr.setCell ?_ _ _ (by first | exact Nat.le_refl _ | (simp; omega) | (simp; done)) | refine Gr.grown ?_ _ _ | refine Gr.drewN ?_ _ | refine Gr.drew ?_ | refine Gr.alloc ?_ _ | refine Gr.grow ?_ _ | (refine Gr.trans ?_ (by assumption))))⟩
    · obtain rfl : k = n := by omega
      have HF2 := Lib.hid hfit
      clear hfit
      go_wp2_with (first | (at_builtin; refine append3 f _ rfl _ _ rfl w.heap.size k rfl (hown.gr (by repeat (first | exact Gr.refl _ | refine Gr.setCell ?_ _ _ (by first | exact Nat.le_refl _ | (simp; omega) | (simp; done)) | refine Gr.grown ?_ _ _ | refine Gr.drewN ?_ _ | refine Gr.drew ?_ | refine Gr.alloc ?_ _ | refine Gr.grow ?_ _ | (refine Gr.trans ?_ (by assumption))))) (by omega) _ _ rfl (by rw [HFP.out]; simp [go_sem]) ?_; intro w2 hown2 hgk))
      have hg2 : Gr w w2 := hgk w (by repeat (first | exact Gr.refl _ | refine Gr.setCell ?_ _ _ (by first | exact Nat.le_refl _ | (simp; omega) | (simp; done)) | refine Gr.grown ?_ _ _ | refine Gr.drewN ?_ _ | refine Gr.drew ?_ | refine Gr.alloc ?_ _ | refine Gr.grow ?_ _ | (refine Gr.trans ?_ (by assumption)))) (Nat.le_refl _)
      clear hgk hown hg
      have HFA : RowKit.Hid (∀ j, j ≤ k → fits (f j)) := Lib.hid fun j hj => (by
        by_cases z : j = k
        · subst z; rw [HFP.out]; exact hp
        · exact HF2.out j (by omega))
      go_loopg [11, 44] (k + 1) (fun kx s11 s44 wr => ∃ i : Nat, i ≤ k + 1 ∧ k + 1 - i ≤ kx ∧ s11 = .int .i64 (ps f i) ∧ s44 = .int .i64 (i : Int) ∧ Own wr w.heap.size (k + 1) f ∧ (∀ j, j < i → fits (ps f (j + 1))) ∧ Gr w wr)
      case atStart => exact ⟨0, by omega, by omega, rfl, rfl, hown2, fun j hj => absurd hj (Nat.not_lt_zero j), hg2⟩
      case round =>
        obtain ⟨i, hi, hm, rfl, rfl, hown, hfit, hg⟩ := hrel
        have SF := Lib.hid hfit
        clear hfit
        by_cases e : i < k + 1
        · have ca := hown.cell e
          have PS : RowKit.Hid (fits (ps f i)) := Lib.hid (by
            cases i with
            | zero => exact ⟨by simp [ps], by simp [ps]⟩
            | succ i => exact SF.out i (by omega))
          have PF : RowKit.Hid (fits (f i)) := Lib.hid (HFA.out i (by omega))
          by_cases q : fits (ps f i + f i)
          · have q1 := okN_of q
            have q2 := okE_of q
            go_wp2_with (first | (go_at_call 67; (with_reducible refine (add_u (ps f i) (f i) _ PS.out PF.out).mono ?_); rintro e wA ⟨rfl, hgwA⟩))
            go_roundg (k + 1 - (i + 1))
            case measure => omega
            case rel => exact ⟨i + 1, by omega, Nat.le_refl _, rfl, by go_num, hown.gr (by repeat (first | exact Gr.refl _ | refine Gr.setCell ?_ _ _ (by first | exact Nat.le_refl _ | (simp; omega) | (simp; done)) | refine Gr.grown ?_ _ _ | refine Gr.drewN ?_ _ | refine Gr.drew ?_ | refine Gr.alloc ?_ _ | refine Gr.grow ?_ _ | (refine Gr.trans ?_ (by assumption)))), fun j hj => (by
              by_cases z : j = i
              · subst z; exact q
              · exact SF.out j (by omega)), (by repeat (first | exact Gr.refl _ | refine Gr.setCell ?_ _ _ (by first | exact Nat.le_refl _ | (simp; omega) | (simp; done)) | refine Gr.grown ?_ _ _ | refine Gr.drewN ?_ _ | refine Gr.drew ?_ | refine Gr.alloc ?_ _ | refine Gr.grow ?_ _ | (refine Gr.trans ?_ (by assumption))))⟩
          · have q1 := okN_no q
            have q2 := okE_no q
            have NO : RowKit.Hid (¬ psOk f k) := Lib.hid fun z => q (z.2 i (by omega))
            go_wp2_with (first | (go_at_call 67; (with_reducible refine (add_u (ps f i) (f i) _ PS.out PF.out).mono ?_); rintro e wA ⟨rfl, hgwA⟩))
            go_ret2
            exact ⟨ret2 (Y2.out NO.out).1.symm (Y2.out NO.out).2.symm, (by repeat (first | exact Gr.refl _ | refine Gr.setCell ?_ _ _ (by first | exact Nat.le_refl _ | (simp; omega) | (simp; done)) | refine Gr.grown ?_ _ _ | refine Gr.drewN ?_ _ | refine Gr.drew ?_ | refine Gr.alloc ?_ _ | refine Gr.grow ?_ _ | (refine Gr.trans ?_ (by assumption))))⟩
        · obtain rfl : i = k + 1 := by omega
          have YES : RowKit.Hid (psOk f k) := Lib.hid ⟨fun j hj => HFA.out j (by omega), fun j hj => SF.out j (by omega)⟩
          go_wp2
          go_ret2
          exact ⟨ret2 (Y1.out YES.out).1.symm (Y1.out YES.out).2.symm, (by repeat (first | exact Gr.refl _ | refine Gr.setCell ?_ _ _ (by first | exact Nat.le_refl _ | (simp; omega) | (simp; done)) | refine Gr.grown ?_ _ _ | refine Gr.drewN ?_ _ | refine Gr.drew ?_ | refine Gr.alloc ?_ _ | refine Gr.grow ?_ _ | (refine Gr.trans ?_ (by assumption))))⟩

end Go.Proofs.Ytiadghpepnpbgaa.Walks
