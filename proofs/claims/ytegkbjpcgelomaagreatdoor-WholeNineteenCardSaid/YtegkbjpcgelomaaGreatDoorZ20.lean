/- Walks of package torah: the readings of a cycle. -/
import Derived.Test.YtegkbjpcgelomaaGreatDoorZ19
import Derived.Test.YtegkbjpcgelomaaGreatDoorZ14
import Derived.Test.YtegkbjpcgelomaaGreatDoorZ18
import Derived.Shelf.RegionOpenPlain
import Derived.Test.YtegkbjpcgelomaaGreatDoorZ15
import Derived.Test.YtegkbjpcgelomaaGreatDoorZ16
import Derived.Test.YtegkbjpcgelomaaGreatDoorZ17
set_option linter.unusedVariables false
set_option linter.unusedSimpArgs false
section
namespace Go.Proofs.YtegkbjpcgelomaaGreatDoor.Walks
open Go Go.RowKit Go.Sort Go.Proofs.YtegkbjpcgelomaaGreatDoor.Base Go.Proofs.YtegkbjpcgelomaaGreatDoor.Plain Go.Proofs.YtegkbjpcgelomaaGreatDoor.Math

theorem SlI.open {w : World} {v : Value} {L : List Int} (h : SlI w v L) : ∃ ao cap, v = .slice ao L.length cap ∧ (0 < L.length → ∃ g, ao = some ⟨g, 0, none⟩ ∧ Ints w g L) := by
  rcases h with ⟨rfl, ao, cap, rfl⟩ | ⟨g, cap, rfl, hp, hI⟩
  · exact ⟨ao, cap, rfl, fun h => absurd h (by simp)⟩
  · exact ⟨_, cap, rfl, fun _ => ⟨g, rfl, hI⟩⟩
/-- A slice of readings, its fields as numbers. -/
structure RB (w : World) (g n : Nat) (f : Nat → Nat → Int) : Prop where
  hb : ∃ cs, w.heap[g]? = some (.cells cs 72 (0, 0)) ∧ cs.size = n * 3 ∧ ∀ i o, i < n → o < 3 → cs[i * 3 + o]? = some (.int .i64 (f i o))
theorem RB.lt {w : World} {g n : Nat} {f : Nat → Nat → Int} (h : RB w g n f) : g < w.heap.size := by
  obtain ⟨cs, hb, -⟩ := h.hb
  exact (Array.getElem?_eq_some_iff.1 hb).1
theorem RB.gr {w w' : World} {g n : Nat} {f : Nat → Nat → Int} (h : RB w g n f) (k : Gr w w') : RB w' g n f := by
  have hl := h.lt
  obtain ⟨cs, hb, r⟩ := h.hb
  exact ⟨cs, (k.heap hl).trans hb, r⟩
theorem RB.cell {w : World} {g n : Nat} {f : Nat → Nat → Int} (h : RB w g n f) {i o : Nat} (hi : i < n) (ho : o < 3) : w.cell? ⟨g, i * 3 + o, none⟩ = some (.int .i64 (f i o)) := by
  obtain ⟨cs, hb, -, r⟩ := h.hb
  rw [Lib.cell_of_heap hb]
  exact r i o hi ho
theorem RB.thaw {w : World} {g n : Nat} {f : Nat → Nat → Int} (h : RB w g n f) (k : Nat) : w.frozen? ⟨g, k, none⟩ = false := by
  obtain ⟨cs, hb, -⟩ := h.hb
  exact Lib.frozen_of_heap hb k
theorem RB.congr {w : World} {g n : Nat} {f f' : Nat → Nat → Int} (h : RB w g n f) (e : ∀ i o, i < n → o < 3 → f i o = f' i o) : RB w g n f' := by
  obtain ⟨cs, hb, hs, r⟩ := h.hb
  exact ⟨cs, hb, hs, fun i o hi ho => by rw [← e i o hi ho]; exact r i o hi ho⟩
theorem heap_set_other (w : World) (p : Addr) (v : Value) {k : Nat} (h : p.block ≠ k) : (w.setCell p v).heap[k]? = w.heap[k]? := by
  unfold World.setCell
  simp [Array.getElem?_modify, h]
theorem heap_set_same (w : World) (g o : Nat) (v : Value) {cs : Array Value} {e : TypeId} {fz : Nat × Nat} (h : w.heap[g]? = some (.cells cs e fz)) : (w.setCell ⟨g, o, none⟩ v).heap[g]? = some (.cells (cs.setIfInBounds o v) e fz) := by
  unfold World.setCell
  simp [Array.getElem?_modify, h]
theorem RB.set {w : World} {g n : Nat} {f : Nat → Nat → Int} (h : RB w g n f) {i o : Nat} (hi : i < n) (ho : o < 3) (v : Int) : RB (w.setCell ⟨g, i * 3 + o, none⟩ (.int .i64 v)) g n fun i' o' => if i' = i ∧ o' = o then v else f i' o' := by
  obtain ⟨cs, hb, hs, r⟩ := h.hb
  refine ⟨_, heap_set_same w g _ _ hb, by simpa using hs, fun i' o' hi' ho' => ?_⟩
  rw [Array.getElem?_setIfInBounds]
  by_cases e : i' = i ∧ o' = o
  · obtain ⟨rfl, rfl⟩ := e
    have : i' * 3 + o' < cs.size := by rw [hs]; omega
    simp [this]
  · have : ¬ i * 3 + o = i' * 3 + o' := by omega
    rw [if_neg this, if_neg e]
    exact r i' o' hi' ho'
theorem RB.other {w : World} {g n : Nat} {f : Nat → Nat → Int} (h : RB w g n f) (p : Addr) (v : Value) (hp : p.block ≠ g) : RB (w.setCell p v) g n f := by
  obtain ⟨cs, hb, r⟩ := h.hb
  exact ⟨cs, by rw [heap_set_other w p v hp]; exact hb, r⟩
theorem ninfo_rd : (Tryq.prog.info? 72).map (fun i => (i.zero, i.size, i.bytes)) = some (some (.agg #[.int .i64 0, .int .i64 0, .int .i64 0]), 3, 24) := by kernel_rfl
theorem nund_rds : Tryq.prog.underlying 128 = some (.slice 72) := by kernel_rfl
theorem make_rd (n : Nat) (hn : n ≤ 100000) (w : World) : (Instr.makeSlice 128 (.int .i64 (n : Int)) (.int .i64 (n : Int))).run Tryq.prog w = .ok (.slice (some ⟨w.heap.size, 0, none⟩) n n) (w.alloc (.cells (madeCells #[.int .i64 0, .int .i64 0, .int .i64 0] (n * 3)) 72)) := by
  obtain ⟨i, h2, h3, h4, h5⟩ := info_parts ninfo_rd
  have h := run_make (P := Tryq.prog) w 128 72 i _ nund_rds h2 h3 .i64 .i64 n n (by omega) (by omega) (by rw [h5]; omega) (by omega)
  rw [h4, show (Value.agg #[.int .i64 0, .int .i64 0, .int .i64 0]).cells = #[.int .i64 0, .int .i64 0, .int .i64 0] from rfl] at h
  simpa using h
theorem RB.made (n : Nat) (w : World) : RB (w.alloc (.cells (madeCells #[.int .i64 0, .int .i64 0, .int .i64 0] (n * 3)) 72)) w.heap.size n fun _ _ => 0 := by
  refine ⟨_, heap_alloc_new w _, size_madeCells _ _, fun i o hi ho => ?_⟩
  unfold madeCells
  have h : i * 3 + o < n * 3 := by omega
  have e : (i * 3 + o) % 3 = o := by omega
  simp only [Array.getElem?_map, Array.getElem?_range, h, if_true, Option.map_some]
  show some ((#[Value.int .i64 0, .int .i64 0, .int .i64 0] : Array Value)[(i * 3 + o) % 3]!) = _
  rw [e]
  match o, ho with
  | 0, _ => rfl
  | 1, _ => rfl
  | 2, _ => rfl
/-- The box of the parts. -/
structure PB (W : World) (y : Int) (F : List Int) (w : World) : Prop where
  g : Gr W w
  hb : w.heap[W.heap.size]? = some (.cells #[.int .i64 (cntP y F 0), .int .i64 (cntP y F 1), .int .i64 (cntP y F 2), .int .i64 (cntP y F 3), .int .i64 (cntP y F 4), .int .i64 (cntP y F 5)] 163 (0, 0))
/-- The readings so far. -/
structure TS (W : World) (P : Int → Bool) (F L : List Int) (b : Nat) (w : World) (i : Nat) : Prop where
  g : Gr W w
  hr : w.heap[W.heap.size]? = some (.cells #[.map (some b)] 167 (0, 0))
  hq : w.heap[W.heap.size + 1]? = some (.cells #[.int .i64 (nxt P F (L.take i))] 3 (0, 0))
  hR : RB w (W.heap.size + 2) L.length fun i' o => if i' < i then rdE P F L i' o else 0
theorem rd_take {P : Int → Bool} {F L : List Int} {i : Nat} {n : Int} (hn : L[i]? = some n) : nxt P F (L.take (i + 1)) = if n ∈ F then nxt P F (L.take i) + (if P (nxt P F (L.take i)) = true then 2 else 1) else nxt P F (L.take i) := by
  rw [List.take_add_one, hn]
  exact nxt_snoc P F (L.take i) n
theorem TS.no {W : World} {P : Int → Bool} {F L : List Int} {b : Nat} {w : World} {i : Nat} {n : Int} (h : TS W P F L b w i) (hi : i < L.length) (hn : L[i]? = some n) (hF : n ∉ F) : TS W P F L b (w.setCell ⟨W.heap.size + 2, i * 3 + 2, none⟩ (.int .i64 n)) (i + 1) := by
  have hg : L.getD i 0 = n := by simp [List.getD, hn]
  refine ⟨h.g.setCell ⟨W.heap.size + 2, i * 3 + 2, none⟩ _ (by show W.heap.size ≤ W.heap.size + 2; omega), ?_, ?_, ?_⟩
  · rw [heap_set_other _ _ _ (by show W.heap.size + 2 ≠ _; omega)]; exact h.hr
  · rw [heap_set_other _ _ _ (by show W.heap.size + 2 ≠ _; omega), rd_take hn, if_neg hF]; exact h.hq
  · refine (h.hR.set hi (by decide) n).congr fun i' o hi' ho => ?_
    by_cases e : i' = i
    · subst e
      match o, ho with
      | 0, _ => simp [rdE, hn, hF]
      | 1, _ => simp [rdE, hn, hF]
      | 2, _ => simp [rdE, hn]
    · have : (i' < i + 1) = (i' < i) := by apply propext; omega
      simp [e, this]
theorem TS.yes {W : World} {P : Int → Bool} {F L : List Int} {b : Nat} {w : World} {i : Nat} {n a m : Int} (h : TS W P F L b w i) (hi : i < L.length) (hn : L[i]? = some n) (hF : n ∈ F) (ha : nxt P F (L.take i) = a) (hm : (if P a = true then 2 else 1) = m) :
    TS W P F L b ((((w.setCell ⟨W.heap.size + 2, i * 3 + 2, none⟩ (.int .i64 n)).setCell ⟨W.heap.size + 1, 0, none⟩ (.int .i64 (a + m))).setCell ⟨W.heap.size + 2, i * 3, none⟩ (.int .i64 a)).setCell ⟨W.heap.size + 2, i * 3 + 1, none⟩ (.int .i64 m)) (i + 1) := by
  have hg : L.getD i 0 = n := by simp [List.getD, hn]
  have e2 : ∀ o v (w : World), Gr W w → Gr W (w.setCell ⟨W.heap.size + 2, o, none⟩ v) := fun o v w hw => hw.setCell ⟨W.heap.size + 2, o, none⟩ v (by show W.heap.size ≤ W.heap.size + 2; omega)
  have e1 : ∀ v (w : World), Gr W w → Gr W (w.setCell ⟨W.heap.size + 1, 0, none⟩ v) := fun v w hw => hw.setCell ⟨W.heap.size + 1, 0, none⟩ v (by show W.heap.size ≤ W.heap.size + 1; omega)
  refine ⟨e2 _ _ _ (e2 _ _ _ (e1 _ _ (e2 _ _ _ h.g))), ?_, ?_, ?_⟩
  · rw [heap_set_other _ _ _ (by show W.heap.size + 2 ≠ _; omega), heap_set_other _ _ _ (by show W.heap.size + 2 ≠ _; omega), heap_set_other _ _ _ (by show W.heap.size + 1 ≠ _; omega), heap_set_other _ _ _ (by show W.heap.size + 2 ≠ _; omega)]
    exact h.hr
  · rw [heap_set_other _ _ _ (by show W.heap.size + 2 ≠ _; omega), heap_set_other _ _ _ (by show W.heap.size + 2 ≠ _; omega)]
    have h1 : (w.setCell ⟨W.heap.size + 2, i * 3 + 2, none⟩ (.int .i64 n)).heap[W.heap.size + 1]? = some (.cells #[.int .i64 (nxt P F (L.take i))] 3 (0, 0)) := by rw [heap_set_other _ _ _ (by show W.heap.size + 2 ≠ _; omega)]; exact h.hq
    rw [heap_set_same _ _ _ _ h1, rd_take hn, if_pos hF, ha, hm]
    rfl
  · refine ((((h.hR.set hi (by decide) n).other ⟨W.heap.size + 1, 0, none⟩ _ (by show W.heap.size + 1 ≠ _; omega)).set (o := 0) hi (by decide) a).set (o := 1) hi (by decide) m).congr fun i' o hi' ho => ?_
    by_cases e : i' = i
    · subst e
      match o, ho with
      | 0, _ => simp [rdE, hn, hF, ha]
      | 1, _ => simp [rdE, hn, hF, ha, hm]
      | 2, _ => simp [rdE, hn]
    · have : (i' < i + 1) = (i' < i) := by apply propext; omega
      simp [e, this]
/-- What comes of Cycle. -/
def TCyc (w : World) (y p : Int) (e : Ending) (w' : World) : Prop :=
  ∃ g, e = .returned (.tuple #[.slice (some ⟨g, 0, none⟩) (allS y p).length (allS y p).length, .int .i64 0]) ∧ RB w' g (allS y p).length (rdE (planY y p) (freeS y p) (allS y p)) ∧ Gr w w'
set_option maxRecDepth 20000 in
set_option maxHeartbeats 8000000 in
theorem tcycle_c (y p : Int) (w : World) (G : GT w) (h0 : 1 ≤ y) (h1 : y ≤ 9998) (hp : p = 0 ∨ p = 1) : Calls Tryq.prog 80 #[.int .i64 y, .int .i64 p] w (TCyc w y p) := by
  have C1 := Lib.hid fun W (hW : Gr w W) => all_in y p W (G.gr hW) h0 h1 hp
  have C2 := Lib.hid fun W (hW : Gr w W) => free_c y p W (G.gr hW) h0 h1 hp
  have C3 := Lib.hid fun n W (hW : Gr w W) => part_c y n W (G.gr hW) h0 h1
  have C4 := Lib.hid fun W => leap_in y W (by omega) (by omega)
  have ha := allS_pos h0 h1 hp
  have hFl : (freeS y p).length ≤ 60 := Nat.le_trans (List.length_filter_le _ _) ha.2
  have hpl : planY y p = planF (lp y) (cntP y (freeS y p) 1) (cntP y (freeS y p) 2) (cntP y (freeS y p) 3) (cntP y (freeS y p) 5) := rfl
  have hpr := fun n => prt_range y n
  unfold TCyc
  rw [hpl]
  clear hpl
  obtain ⟨L, hL⟩ : ∃ L, allS y p = L := ⟨_, rfl⟩
  obtain ⟨F, hF⟩ : ∃ F, freeS y p = F := ⟨_, rfl⟩
  rw [hL] at C1 ha ⊢
  rw [hF] at C2 hFl ⊢
  obtain ⟨a0, a1⟩ := ha
  obtain ⟨P, hP⟩ : ∃ P, planF (lp y) (cntP y F 1) (cntP y F 2) (cntP y F 3) (cntP y F 5) = P := ⟨_, rfl⟩
  rw [hP]
  have hP := Lib.hid hP
  clear hL hF hp G
  have hpr := Lib.hid hpr
  go_enter Tryq.func80, Tryq.ntmps80
  go_wp2_with (first | (go_at_call 114; refine (C1.out _ ((by repeat (first | exact Gr.refl _ | refine Gr.setCell ?_ _ _ (by first | exact Nat.le_refl _ | (simp; omega) | (simp; done)) | refine Gr.grown ?_ _ _ | refine Gr.drewN ?_ _ | refine Gr.drew ?_ | refine Gr.alloc ?_ _ | refine Gr.grow ?_ _ | (refine Gr.trans ?_ (by assumption)))))).mono ?_; rintro e wA ⟨v, rfl, hS, hgA⟩; obtain ⟨gA, capA, rfl, hI⟩ : ∃ g cap, v = .slice (some ⟨g, 0, none⟩) L.length cap ∧ Ints wA g L := (by rcases hS with ⟨q, -⟩ | ⟨g, cap, q, -, r⟩; (subst q; simp at a0); exact ⟨g, cap, q, r⟩); clear hS) | (go_at_call 115; refine (C2.out _ ((by repeat (first | exact Gr.refl _ | refine Gr.setCell ?_ _ _ (by first | exact Nat.le_refl _ | (simp; omega) | (simp; done)) | refine Gr.grown ?_ _ _ | refine Gr.drewN ?_ _ | refine Gr.drew ?_ | refine Gr.alloc ?_ _ | refine Gr.grow ?_ _ | (refine Gr.trans ?_ (by assumption)))))).mono ?_; rintro e wB ⟨vF, rfl, hSF, hgB⟩; have hIB := hI.gr hgB; obtain ⟨aF, cF, rfl, hFc⟩ := hSF.open))
  have hGB : Gr w wB := (by repeat (first | exact Gr.refl _ | refine Gr.setCell ?_ _ _ (by first | exact Nat.le_refl _ | (simp; omega) | (simp; done)) | refine Gr.grown ?_ _ _ | refine Gr.drewN ?_ _ | refine Gr.drew ?_ | refine Gr.alloc ?_ _ | refine Gr.grow ?_ _ | (refine Gr.trans ?_ (by assumption))))
  have PB0 : PB wB y (F.take 0) (wB.alloc (Obj.cells #[.int .i64 0, .int .i64 0, .int .i64 0, .int .i64 0, .int .i64 0, .int .i64 0] 163)) := ⟨(Gr.refl wB).alloc _, by rw [heap_alloc_new]; simp [cntP_nil]⟩
  clear hI hgA hgB C1 C2
  go_loopg [40] F.length (fun kx s40 wr => ∃ i : Nat, i ≤ F.length ∧ F.length - i ≤ kx ∧ s40 = .int .i64 (i : Int) ∧ PB wB y (F.take i) wr)
  case atStart => exact ⟨0, by omega, by omega, rfl, PB0⟩
  case round =>
    obtain ⟨i, hi, hm, rfl, hPB⟩ := hrel
    rename World => wo
    clear PB0
    by_cases e : i < F.length
    · have e' : (i : Int) < (F.length : Int) := by omega
      obtain ⟨n, hn⟩ : ∃ n, F[i]? = some n := ⟨_, List.getElem?_eq_getElem e⟩
      obtain ⟨gF, rfl, hIF⟩ := hFc (by omega)
      have k0 := (hIF.gr hPB.g).c i n hn
      have hst : ∀ k, cntP y (F.take (i + 1)) k = cntP y (F.take i) k + (if prt y n = k then 1 else 0) := fun k => by rw [List.take_add_one, hn]; exact cntP_snoc y _ n k
      have hcr := fun k => cntP_range y (F.take i) k
      have htl : (F.take i).length ≤ 60 := by rw [List.length_take]; omega
      obtain ⟨q0, q1⟩ := hpr.out n
      have hGo := hGB.trans hPB.g
      go_wp2_with (first | (go_at_call 116; fail))
      go_at_call 116
      refine (C3.out n _ ((by repeat (first | exact Gr.refl _ | refine Gr.setCell ?_ _ _ (by first | exact Nat.le_refl _ | (simp; omega) | (simp; done)) | refine Gr.grown ?_ _ _ | refine Gr.drewN ?_ _ | refine Gr.drew ?_ | refine Gr.alloc ?_ _ | refine Gr.grow ?_ _ | (refine Gr.trans ?_ (by assumption)))))).mono ?_
      rintro e1 wC ⟨rfl, hgC⟩
      have hbC : wC.heap[wB.heap.size]? = some (.cells #[.int .i64 (cntP y (F.take i) 0), .int .i64 (cntP y (F.take i) 1), .int .i64 (cntP y (F.take i) 2), .int .i64 (cntP y (F.take i) 3), .int .i64 (cntP y (F.take i) 4), .int .i64 (cntP y (F.take i) 5)] 163 (0, 0)) := by
        have hl : wB.heap.size < wo.heap.size := (Array.getElem?_eq_some_iff.1 hPB.hb).1
        exact (hgC.heap hl).trans hPB.hb
      have hgB' : Gr wB wC := hPB.g.trans hgC
      have r1 := hcr 1; have r2 := hcr 2; have r3 := hcr 3; have r4 := hcr 4; have r5 := hcr 5
      have s0 := hst 0; have s1 := hst 1; have s2 := hst 2; have s3 := hst 3; have s4 := hst 4; have s5 := hst 5
      obtain ⟨A0, hA0⟩ : ∃ a, cntP y (F.take i) 0 = a := ⟨_, rfl⟩
      obtain ⟨A1, hA1⟩ : ∃ a, cntP y (F.take i) 1 = a := ⟨_, rfl⟩
      obtain ⟨A2, hA2⟩ : ∃ a, cntP y (F.take i) 2 = a := ⟨_, rfl⟩
      obtain ⟨A3, hA3⟩ : ∃ a, cntP y (F.take i) 3 = a := ⟨_, rfl⟩
      obtain ⟨A4, hA4⟩ : ∃ a, cntP y (F.take i) 4 = a := ⟨_, rfl⟩
      obtain ⟨A5, hA5⟩ : ∃ a, cntP y (F.take i) 5 = a := ⟨_, rfl⟩
      obtain ⟨Q, hQ⟩ : ∃ a, prt y n = a := ⟨_, rfl⟩
      rw [hA0] at s0 hbC; rw [hA1] at s1 r1 hbC; rw [hA2] at s2 r2 hbC; rw [hA3] at s3 r3 hbC; rw [hA4] at s4 r4 hbC; rw [hA5] at s5 r5 hbC
      rw [hQ] at q0 q1 s0 s1 s2 s3 s4 s5 ⊢
      have v1 : wC.cell? ⟨wB.heap.size, 1, none⟩ = some (.int .i64 A1) := by rw [Lib.cell_of_heap hbC]; rfl
      have v2 : wC.cell? ⟨wB.heap.size, 2, none⟩ = some (.int .i64 A2) := by rw [Lib.cell_of_heap hbC]; rfl
      have v3 : wC.cell? ⟨wB.heap.size, 3, none⟩ = some (.int .i64 A3) := by rw [Lib.cell_of_heap hbC]; rfl
      have v4 : wC.cell? ⟨wB.heap.size, 4, none⟩ = some (.int .i64 A4) := by rw [Lib.cell_of_heap hbC]; rfl
      have v5 : wC.cell? ⟨wB.heap.size, 5, none⟩ = some (.int .i64 A5) := by rw [Lib.cell_of_heap hbC]; rfl
      have z1 : wC.frozen? ⟨wB.heap.size, 1, none⟩ = false := Lib.frozen_of_heap hbC _
      have z2 : wC.frozen? ⟨wB.heap.size, 2, none⟩ = false := Lib.frozen_of_heap hbC _
      have z3 : wC.frozen? ⟨wB.heap.size, 3, none⟩ = false := Lib.frozen_of_heap hbC _
      have z4 : wC.frozen? ⟨wB.heap.size, 4, none⟩ = false := Lib.frozen_of_heap hbC _
      have z5 : wC.frozen? ⟨wB.heap.size, 5, none⟩ = false := Lib.frozen_of_heap hbC _
      have hgo : ∀ P (v : Value), Gr wB (wC.setCell ⟨wB.heap.size, P, none⟩ v) := fun P v => hgB'.setCell ⟨wB.heap.size, P, none⟩ v (Nat.le_refl _)
      have hsb : ∀ P (v : Value), (wC.setCell ⟨wB.heap.size, P, none⟩ v).heap[wB.heap.size]? = _ := fun P v => heap_set_same wC wB.heap.size P v hbC
      have b1 : 0 ≤ A1 ∧ A1 ≤ 60 := by omega
      have b2 : 0 ≤ A2 ∧ A2 ≤ 60 := by omega
      have b3 : 0 ≤ A3 ∧ A3 ≤ 60 := by omega
      have b4 : 0 ≤ A4 ∧ A4 ≤ 60 := by omega
      have b5 : 0 ≤ A5 ∧ A5 ≤ 60 := by omega
      have u1 : IntKind.i64.wrap (A1 + 1) = A1 + 1 := by rw [IntKind.wrap_i64]; omega
      have u2 : IntKind.i64.wrap (A2 + 1) = A2 + 1 := by rw [IntKind.wrap_i64]; omega
      have u3 : IntKind.i64.wrap (A3 + 1) = A3 + 1 := by rw [IntKind.wrap_i64]; omega
      have u4 : IntKind.i64.wrap (A4 + 1) = A4 + 1 := by rw [IntKind.wrap_i64]; omega
      have u5 : IntKind.i64.wrap (A5 + 1) = A5 + 1 := by rw [IntKind.wrap_i64]; omega
      clear r1 r2 r3 r4 r5
      clear hst hcr hPB hGo hgC htl k0 hA0 hA1 hA2 hA3 hA4 hA5 hQ hbC hgB'
      have hQ : Q = 1 ∨ Q = 2 ∨ Q = 3 ∨ Q = 4 ∨ Q = 5 := by omega
      rcases hQ with rfl | rfl | rfl | rfl | rfl
      all_goals (
        simp only [Int.reduceEq, if_true, if_false, Int.add_zero, ↓reduceIte] at s0 s1 s2 s3 s4 s5
        clear q0 q1
        go_wp2
        go_roundg (F.length - (i + 1))
        case measure => omega
        case rel => exact ⟨i + 1, by omega, Nat.le_refl _, by go_num, hgo _ _, by rw [hsb, s0, s1, s2, s3, s4, s5]; simp [u1, u2, u3, u4, u5]⟩)
    · obtain rfl : i = F.length := by omega
      rw [List.take_of_length_le (Nat.le_refl _)] at hPB
      have hcr := fun k => cntP_range y F k
      have c1 := hcr 1; have c2 := hcr 2; have c3 := hcr 3; have c5 := hcr 5
      have hbo := hPB.hb
      have gBo := hPB.g
      have hlo : wB.heap.size < wo.heap.size := (Array.getElem?_eq_some_iff.1 hPB.hb).1
      obtain ⟨A0, hA0⟩ : ∃ a, cntP y F 0 = a := ⟨_, rfl⟩
      obtain ⟨A1, hA1⟩ : ∃ a, cntP y F 1 = a := ⟨_, rfl⟩
      obtain ⟨A2, hA2⟩ : ∃ a, cntP y F 2 = a := ⟨_, rfl⟩
      obtain ⟨A3, hA3⟩ : ∃ a, cntP y F 3 = a := ⟨_, rfl⟩
      obtain ⟨A4, hA4⟩ : ∃ a, cntP y F 4 = a := ⟨_, rfl⟩
      obtain ⟨A5, hA5⟩ : ∃ a, cntP y F 5 = a := ⟨_, rfl⟩
      have C5 := Lib.hid fun W => tof_c (lp y) (cntP y F 0) (cntP y F 1) (cntP y F 2) (cntP y F 3) (cntP y F 4) (cntP y F 5) W (by omega) (by omega) (by omega) (by omega)
      rw [hP.out, hA0, hA1, hA2, hA3, hA4, hA5] at C5
      rw [hA0, hA1, hA2, hA3, hA4, hA5] at hbo
      obtain ⟨l, hl⟩ : ∃ l, lp y = l := ⟨_, rfl⟩
      rw [hl] at C4 C5
      clear hcr hA0 hA1 hA2 hA3 hA4 hA5 hPB hl c1 c2 c3 c5 hP
      go_wp2_with (first | (go_at_call 18; (with_reducible refine (C4.out _).mono ?_); rintro e1 wC ⟨rfl, hgC⟩; have hbC := (hgC.heap hlo).trans hbo; have gBC := gBo.trans hgC; have v0 : wC.cell? ⟨wB.heap.size, 0, none⟩ = some (.int .i64 A0) := (by rw [Lib.cell_of_heap hbC]; rfl); have v1 : wC.cell? ⟨wB.heap.size, 1, none⟩ = some (.int .i64 A1) := (by rw [Lib.cell_of_heap hbC]; rfl); have v2 : wC.cell? ⟨wB.heap.size, 2, none⟩ = some (.int .i64 A2) := (by rw [Lib.cell_of_heap hbC]; rfl); have v3 : wC.cell? ⟨wB.heap.size, 3, none⟩ = some (.int .i64 A3) := (by rw [Lib.cell_of_heap hbC]; rfl); have v4 : wC.cell? ⟨wB.heap.size, 4, none⟩ = some (.int .i64 A4) := (by rw [Lib.cell_of_heap hbC]; rfl); have v5 : wC.cell? ⟨wB.heap.size, 5, none⟩ = some (.int .i64 A5) := (by rw [Lib.cell_of_heap hbC]; rfl)) | (go_at_call 118; refine (C5.out _).mono ?_; rintro e2 wD ⟨b, rfl, hM, hgD⟩; have gBD := gBC.trans hgD; clear v0 v1 v2 v3 v4 v5) | (go_at_call 117; fail))
      go_at_call 117
      refine (reader_c b _).mono ?_
      rintro e3 wE ⟨rfl, hwE⟩
      have hE0 : wE.heap.size = wD.heap.size + 2 := by rw [hwE]; simp
      have hEr : wE.heap[wD.heap.size]? = some (.cells #[.map (some b)] 167 (0, 0)) := by rw [hwE, Lib.alloc_old _ _ _ (by simp)]; exact heap_alloc_new _ _
      have hEq : wE.heap[wD.heap.size + 1]? = some (.cells #[.int .i64 1] 3 (0, 0)) := by
        rw [hwE]
        have := heap_alloc_new (wD.alloc (.cells #[.map (some b)] 167)) (.cells #[.int .i64 1] 3)
        simpa using this
      have gDE : Gr wD wE := by rw [hwE]; exact ((Gr.refl _).alloc _).alloc _
      clear hwE
      have hmk := make_rd L.length (by omega)
      have hRE := RB.made L.length wE
      rw [hE0] at hRE
      have hE1 : wD.heap.size + 2 = wE.heap.size := hE0.symm
      have gEF := (Gr.refl wE).alloc (.cells (madeCells #[.int .i64 0, .int .i64 0, .int .i64 0] (L.length * 3)) 72)
      have T0 : TS wD P F L b (wE.alloc (.cells (madeCells #[.int .i64 0, .int .i64 0, .int .i64 0] (L.length * 3)) 72)) 0 :=
        ⟨gDE.trans gEF, (gEF.heap (by omega)).trans hEr, (gEF.heap (by omega)).trans hEq, hRE.congr (fun i o _ _ => by simp)⟩
      clear hRE gEF hEr hEq gDE hE0
      go_wp2
      rw [← hE1]
      clear hE1 hmk
      go_loopg [70] L.length (fun kx s70 wr => ∃ i : Nat, i ≤ L.length ∧ L.length - i ≤ kx ∧ s70 = .int .i64 (i : Int) ∧ TS wD P F L b wr i)
      case atStart => exact ⟨0, by omega, by omega, rfl, T0⟩
      case round =>
        obtain ⟨i, hi, hm, rfl, hT⟩ := hrel
        clear T0
        by_cases e : i < L.length
        · have e' : (i : Int) < (L.length : Int) := by omega
          obtain ⟨n, hn⟩ : ∃ n, L[i]? = some n := ⟨_, List.getElem?_eq_getElem e⟩
          have k0 := ((hIB.gr gBD).gr hT.g).c i n hn
          have c2 := hT.hR.cell e (show 2 < 3 by decide)
          have z2 := hT.hR.thaw (i * 3 + 2)
          have G1 : Gr wD (wr.setCell ⟨wD.heap.size + 2, i * 3 + 2, none⟩ (.int .i64 n)) := hT.g.setCell ⟨wD.heap.size + 2, i * 3 + 2, none⟩ _ (by show wD.heap.size ≤ wD.heap.size + 2; omega)
          have C6 := Lib.hid (contains_c _ F n _ (by omega) ((hSF.gr gBD).gr G1))
          by_cases hF : n ∈ F
          · have hd : decide (n ∈ F) = true := decide_eq_true hF
            rw [hd] at C6
            have hTy := fun a m => hT.yes (a := a) (m := m) e hn hF
            obtain ⟨a, hA⟩ : ∃ a, nxt P F (L.take i) = a := ⟨_, rfl⟩
            obtain ⟨m, hMm⟩ : ∃ m : Int, (if P a = true then 2 else 1) = m := ⟨_, rfl⟩
            have hTy := hTy a m hA hMm
            have ra := nxt_range P F (L.take i)
            rw [hA] at ra
            have htl : (L.take i).length ≤ 60 := by rw [List.length_take]; omega
            have rm : 1 ≤ m ∧ m ≤ 2 := by rw [← hMm]; split <;> omega
            have R1 := hT.hR.set e (show 2 < 3 by decide) n
            have R3 := R1.other ⟨wD.heap.size + 1, 0, none⟩ (.int .i64 (a + m)) (by show wD.heap.size + 1 ≠ _; omega)
            have R4 := R3.set (o := 0) e (by decide) a
            have x0 := R3.cell e (show 0 < 3 by decide)
            have x1 := R3.cell e (show 1 < 3 by decide)
            have x2 := R4.cell e (show 1 < 3 by decide)
            have y0 := R3.thaw (i * 3)
            have y1 := R4.thaw (i * 3 + 1)
            simp only [Nat.add_zero] at x0 x2 y1
            have hq1 : (wr.setCell ⟨wD.heap.size + 2, i * 3 + 2, none⟩ (.int .i64 n)).heap[wD.heap.size + 1]? = some (.cells #[.int .i64 a] 3 (0, 0)) := by rw [heap_set_other _ _ _ (by show wD.heap.size + 2 ≠ _; omega), ← hA]; exact hT.hq
            have hr1 : (wr.setCell ⟨wD.heap.size + 2, i * 3 + 2, none⟩ (.int .i64 n)).heap[wD.heap.size]? = some (.cells #[.map (some b)] 167 (0, 0)) := by rw [heap_set_other _ _ _ (by show wD.heap.size + 2 ≠ _; omega)]; exact hT.hr
            have C7 := reader1_c (wD.heap.size + 1) wD.heap.size b 1000 P a _ (by omega) (by omega) (by rw [Lib.cell_of_heap hq1]; rfl) (Lib.frozen_of_heap hq1 0) (by rw [Lib.cell_of_heap hr1]; rfl) (hM.gr G1)
            rw [hMm] at C7
            have C7 := Lib.hid C7
            clear R1 R3 R4 hq1 hr1 G1 hd hA hMm
            go_wp2_with (first | (go_at_call 119; refine (C6.out).mono ?_; rintro e5 w5 ⟨rfl, rfl⟩) | (go_at_call 135; refine (C7.out).mono ?_; rintro e6 w6 ⟨rfl, rfl⟩))
            go_roundg (L.length - (i + 1))
            case measure => omega
            case rel => exact ⟨i + 1, by omega, Nat.le_refl _, by go_num, hTy⟩
          · have hd : decide (n ∈ F) = false := decide_eq_false hF
            rw [hd] at C6
            have hTn := hT.no e hn hF
            clear G1 hd
            go_wp2_with (first | (go_at_call 119; refine (C6.out).mono ?_; rintro e5 w5 ⟨rfl, rfl⟩))
            go_roundg (L.length - (i + 1))
            case measure => omega
            case rel => exact ⟨i + 1, by omega, Nat.le_refl _, by go_num, hTn⟩
        · obtain rfl : i = L.length := by omega
          have hRL := hT.hR.congr (f' := rdE P F L) (fun i o hi ho => by simp [hi])
          have hGL := hGB.trans (gBD.trans hT.g)
          go_wp2
          go_ret2
          exact ⟨_, rfl, hRL, hGL⟩
end Go.Proofs.YtegkbjpcgelomaaGreatDoor.Walks
end
/- torah.Of. -/
section
namespace Go.Proofs.YtegkbjpcgelomaaGreatDoor.Walks
open Go Go.RowKit Go.Sort Go.Proofs.YtegkbjpcgelomaaGreatDoor.Base Go.Proofs.YtegkbjpcgelomaaGreatDoor.Plain Go.Proofs.YtegkbjpcgelomaaGreatDoor.Math

set_option maxHeartbeats 4000000 in
theorem tof1_c (a b c D : Int) (q : Nat) (w : World) (hq : w.cell? ⟨q, 0, none⟩ = some (.int .i64 D)) (hl : q < w.heap.size) :
    Calls Tryq.prog 82 (#[.agg #[.int .i64 a, .int .i64 b, .int .i64 c]] ++ #[.pointer (some ⟨q, 0, none⟩)]) w fun e w' => e = .returned (.bool (c == D)) ∧ Gr w w' := by
  have hq2 : (w.alloc (.cells #[.int .i64 a, .int .i64 b, .int .i64 c] 72)).cell? ⟨q, 0, none⟩ = some (.int .i64 D) := ((Gr.refl w).alloc _).keep hl hq
  clear hq
  go_enter Tryq.func82, Tryq.ntmps82
  go_wp2
  go_ret
  exact ⟨rfl, (by repeat (first | exact Gr.refl _ | refine Gr.setCell ?_ _ _ (by first | exact Nat.le_refl _ | (simp; omega) | (simp; done)) | refine Gr.grown ?_ _ _ | refine Gr.drewN ?_ _ | refine Gr.drew ?_ | refine Gr.alloc ?_ _ | refine Gr.grow ?_ _ | (refine Gr.trans ?_ (by assumption))))⟩
def IdxF (w : World) (n : Nat) (f : Nat → Nat → Int) (D : Int) (e : Ending) (w' : World) : Prop :=
  ∃ r : Int, e = .returned (.int .i64 r) ∧ ((∃ i : Nat, r = i ∧ i < n ∧ f i 2 = D ∧ ∀ j, j < i → f j 2 ≠ D) ∨ r = -1 ∧ ∀ i, i < n → f i 2 ≠ D) ∧ Gr w w'
set_option maxHeartbeats 4000000 in
theorem indexf_c (g n q : Nat) (f : Nat → Nat → Int) (D : Int) (w : World) (hn : n ≤ 100000) (hR : RB w g n f) (hq : w.cell? ⟨q, 0, none⟩ = some (.int .i64 D)) (hl : q < w.heap.size) :
    Calls Tryq.prog 81 #[.slice (some ⟨g, 0, none⟩) n n, .func (.func 82) #[] #[.pointer (some ⟨q, 0, none⟩)]] w (IdxF w n f D) := by
  have C1 := Lib.hid fun a b c W (hW : Gr w W) => tof1_c a b c D q W (hW.keep hl hq) (hW.lt hl)
  go_enter Tryq.func81, Tryq.ntmps81
  go_wp2
  go_loopg [8] n (fun kx s8 wr => ∃ i : Nat, i ≤ n ∧ n - i ≤ kx ∧ s8 = .int .i64 (i : Int) ∧ (∀ j, j < i → f j 2 ≠ D) ∧ Gr w wr)
  case atStart => exact ⟨0, by omega, by omega, rfl, fun j hj => absurd hj (by omega), Gr.refl _⟩
  case round =>
    obtain ⟨i, hi, hm, rfl, hx, hg⟩ := hrel
    by_cases e : i < n
    · have e' : (i : Int) < (n : Int) := by omega
      have RR := hR.gr hg
      have k0 := RR.cell e (show 0 < 3 by decide)
      have k1 := RR.cell e (show 1 < 3 by decide)
      have k2 := RR.cell e (show 2 < 3 by decide)
      simp only [Nat.add_zero] at k0
      have hxx := Lib.hid hx
      clear hx
      by_cases c : f i 2 = D
      · have cc := Lib.hid c
        rw [c] at k2
        have b : (D == D) = true := beq_iff_eq.2 rfl
        clear c
        go_wp2_with (first | (go_at_call 82; (refine (C1.out _ _ _ _ hg).mono ?_); rintro e1 w1 ⟨rfl, hg1⟩; rw [b]))
        go_ret
        exact ⟨i, rfl, .inl ⟨i, rfl, e, cc.out, hxx.out⟩, hg.trans hg1⟩
      · have b : (f i 2 == D) = false := beq_eq_false_iff_ne.2 c
        go_wp2_with (first | (go_at_call 82; (refine (C1.out _ _ _ _ hg).mono ?_); rintro e1 w1 ⟨rfl, hg1⟩; rw [b]))
        go_roundg (n - (i + 1))
        case measure => omega
        case rel =>
          refine ⟨i + 1, by omega, Nat.le_refl _, by go_num, fun j hj => ?_, hg.trans hg1⟩
          rcases Nat.lt_or_ge j i with h | h
          · exact hxx.out j h
          · have : j = i := by omega
            subst this; exact c
    · obtain rfl : i = n := by omega
      have hxx := Lib.hid hx
      clear hx
      go_wp2
      go_ret
      exact ⟨-1, rfl, .inr ⟨rfl, hxx.out⟩, hg⟩
/-- What comes of Of. -/
def TOf (w : World) (y p n : Int) (e : Ending) (w' : World) : Prop :=
  ∃ a b c e', e = .returned (.tuple #[.agg #[.int .i64 a, .int .i64 b, .int .i64 c], .int .i64 e']) ∧ Gr w w' ∧
    ∀ i, cycE y p n = 0 → (allS (cycN y p n) p)[i]? = some n → (∀ j, j < i → (allS (cycN y p n) p)[j]? ≠ some n) → a = rdE (planY (cycN y p n) p) (freeS (cycN y p n) p) (allS (cycN y p n) p) i 0 ∧ e' = 0
theorem cyc_ok {y p n : Int} (h : cycE y p n = 0) : 1 ≤ cycN y p n ∧ cycN y p n ≤ 9998 := by
  unfold cycE at h
  unfold cycN
  split at h
  · cases h
  · rename_i q
    rw [if_neg q]
    omega
theorem cyc_no {y p n : Int} (h : cycE y p n ≠ 0) : cycN y p n = 0 ∧ cycE y p n = 2 := by
  unfold cycE at h ⊢
  unfold cycN
  split at h
  · rename_i q
    rw [if_pos q, if_pos q]
    exact ⟨rfl, rfl⟩
  · exact absurd rfl h
set_option maxRecDepth 20000 in
set_option maxHeartbeats 8000000 in
theorem tofday_c (y p n d : Int) (j : Nat) (w : World) (G : GT w) (hv : HV y j d) (hn : hd y j d = n) (hp : p = 0 ∨ p = 1) :
    Calls Tryq.prog 40 #[.int .i64 n, .int .i64 p] w (TOf w y p n) := by
  have C1 := Lib.hid fun W (hW : Gr w W) => scycle_in y p n d j W (G.gr hW) hv hn hp
  obtain ⟨Y, hY⟩ : ∃ Y, cycN y p n = Y := ⟨_, rfl⟩
  obtain ⟨E, hE⟩ : ∃ E, cycE y p n = E := ⟨_, rfl⟩
  by_cases hz : E = 0
  · have hok := cyc_ok (hE.trans hz)
    rw [hY] at hok
    rw [hY, hE, hz] at C1
    subst hz
    have hYh := Lib.hid hY
    have C2 := Lib.hid fun W (hW : Gr w W) => tcycle_c Y p W (G.gr hW) hok.1 hok.2 hp
    have hAl := allS_pos hok.1 hok.2 hp
    have C3 := Lib.hid fun g n q f D W h1 h2 h3 h4 => indexf_c g n q f D W h1 h2 h3 h4
    clear hY hE G hv hn hp hok
    go_enter Tryq.func40, Tryq.ntmps40
    go_wp2_with (first | (go_at_call 79; fail))
    go_at_call 79
    obtain ⟨W1, hW1⟩ : ∃ W1, W1 = (w.alloc (Obj.cells #[.int .i64 n] 3)).alloc (Obj.cells #[.int .i64 0, .int .i64 0, .int .i64 0] 72) := ⟨_, rfl⟩
    rw [← hW1]
    have G1 : Gr w W1 := by rw [hW1]; exact ((Gr.refl _).alloc _).alloc _
    have l0 : w.heap.size < W1.heap.size := by rw [hW1]; simp; omega
    have l1 : w.heap.size + 1 < W1.heap.size := by rw [hW1]; simp
    have x0 : W1.heap[w.heap.size]? = some (.cells #[.int .i64 n] 3 (0, 0)) := by rw [hW1, Lib.alloc_old _ _ _ (by simp)]; exact heap_alloc_new _ _
    have x1 : W1.heap[w.heap.size + 1]? = some (.cells #[.int .i64 0, .int .i64 0, .int .i64 0] 72 (0, 0)) := by
      rw [hW1]
      have := heap_alloc_new (w.alloc (Obj.cells #[.int .i64 n] 3)) (Obj.cells #[.int .i64 0, .int .i64 0, .int .i64 0] 72)
      simpa using this
    clear hW1
    refine (C1.out _ G1).mono ?_
    rintro e1 wA ⟨rfl, hgA⟩
    have GA := G1.trans hgA
    have x0 := (hgA.heap l0).trans x0
    have x1 := (hgA.heap l1).trans x1
    have l0 := hgA.lt l0
    have l1 := hgA.lt l1
    clear hgA G1
    go_wp2_with (first | (go_at_call 80; fail))
    go_at_call 80
    refine (C2.out _ GA).mono ?_
    rintro e2 wB ⟨g, rfl, hR, hgB⟩
    have GB := GA.trans hgB
    have x0 := (hgB.heap l0).trans x0
    have x1 := (hgB.heap l1).trans x1
    have l0 := hgB.lt l0
    have l1 := hgB.lt l1
    clear hgB GA
    have C4 := Lib.hid (C3.out g (allS Y p).length w.heap.size _ n wB (by omega) hR (by rw [Lib.cell_of_heap x0]; rfl) l0)
    obtain ⟨F, hF⟩ : ∃ F, rdE (planY Y p) (freeS Y p) (allS Y p) = F := ⟨_, rfl⟩
    have hF2 : RowKit.Hid (∀ i, i < (allS Y p).length → F i 2 = (allS Y p).getD i 0) := Lib.hid fun i hi => by rw [← hF]; rfl
    rw [hF] at hR C4
    replace hF := Lib.hid hF
    go_wp2_with (first | (go_at_call 81; fail))
    go_at_call 81
    refine (C4.out).mono ?_
    rintro e3 wC ⟨r, rfl, hr, hgC⟩
    have GC := GB.trans hgC
    have hRC := hR.gr hgC
    have x1 := (hgC.heap l1).trans x1
    have z0 : wC.frozen? ⟨w.heap.size + 1, 0, none⟩ = false := Lib.frozen_of_heap x1 0
    have z1 : wC.frozen? ⟨w.heap.size + 1, 1, none⟩ = false := Lib.frozen_of_heap x1 1
    have z2 : wC.frozen? ⟨w.heap.size + 1, 2, none⟩ = false := Lib.frozen_of_heap x1 2
    have y0 : wC.cell? ⟨w.heap.size + 1, 0, none⟩ = some (.int .i64 0) := by rw [Lib.cell_of_heap x1]; rfl
    have y1 : wC.cell? ⟨w.heap.size + 1, 1, none⟩ = some (.int .i64 0) := by rw [Lib.cell_of_heap x1]; rfl
    have y2 : wC.cell? ⟨w.heap.size + 1, 2, none⟩ = some (.int .i64 0) := by rw [Lib.cell_of_heap x1]; rfl
    have l1 := hgC.lt l1
    clear hgC GB hR C4 x0 l0
    rcases hr with ⟨i, rfl, hi, hD, hno⟩ | ⟨rfl, hno⟩
    · have e' : (i : Int) < ((allS Y p).length : Int) := by omega
      have k0 := hRC.cell hi (show 0 < 3 by decide)
      have k1 := hRC.cell hi (show 1 < 3 by decide)
      have k2 := hRC.cell hi (show 2 < 3 by decide)
      simp only [Nat.add_zero] at k0
      replace hD := Lib.hid hD
      replace hno := Lib.hid hno
      go_wp2
      refine bodyPost_ret (v := .tuple #[.agg #[.int .i64 (F i 0), .int .i64 (F i 1), .int .i64 (F i 2)], .int .i64 0]) (by simp [results, Tryz.results40, go_sem, *]) rfl ?_
      refine ⟨_, _, _, _, rfl, ((GC.setCell ⟨w.heap.size + 1, 0, none⟩ _ (Nat.le_succ _)).setCell ⟨w.heap.size + 1, 1, none⟩ _ (Nat.le_succ _)).setCell ⟨w.heap.size + 1, 2, none⟩ _ (Nat.le_succ _), fun i' _ h1 h2 => ?_⟩
      rw [hYh.out] at h1 h2 ⊢
      have hLi : (allS Y p)[i]? = some n := by
        have := hF2.out i hi
        rw [hD.out] at this
        rw [this, List.getD, List.getElem?_eq_getElem hi]
        rfl
      have : i' = i := by
        rcases Nat.lt_trichotomy i' i with h | h | h
        · refine absurd ?_ (hno.out i' h)
          rw [hF2.out i' (by omega), List.getD, h1]
          rfl
        · exact h
        · exact absurd hLi (h2 i h)
      subst this
      exact ⟨by rw [hF.out], rfl⟩
    · replace hno := Lib.hid hno
      go_wp2
      refine bodyPost_ret (v := .tuple #[.agg #[.int .i64 0, .int .i64 0, .int .i64 0], .int .i64 4]) (by simp [results, Tryz.results40, go_sem, *]) rfl ?_
      refine ⟨_, _, _, _, rfl, ((GC.setCell ⟨w.heap.size + 1, 0, none⟩ _ (Nat.le_succ _)).setCell ⟨w.heap.size + 1, 1, none⟩ _ (Nat.le_succ _)).setCell ⟨w.heap.size + 1, 2, none⟩ _ (Nat.le_succ _), fun i' _ h1 h2 => ?_⟩
      rw [hYh.out] at h1
      have hi' := (List.getElem?_eq_some_iff.1 h1).1
      refine absurd ?_ (hno.out i' hi')
      rw [hF2.out i' hi', List.getD, h1]
      rfl
  · obtain ⟨q1, q2⟩ := cyc_no (by rw [hE]; exact hz)
    rw [hY] at q1
    rw [hE] at q2
    subst q1 q2
    rw [hY, hE] at C1
    clear hY G hv hn hp
    have hz' : RowKit.Hid (cycE y p n ≠ 0) := Lib.hid (by rw [hE]; decide)
    clear hE hz
    go_enter Tryq.func40, Tryq.ntmps40
    go_wp2_with (first | (go_at_call 79; fail))
    go_at_call 79
    obtain ⟨W1, hW1⟩ : ∃ W1, W1 = (w.alloc (Obj.cells #[.int .i64 n] 3)).alloc (Obj.cells #[.int .i64 0, .int .i64 0, .int .i64 0] 72) := ⟨_, rfl⟩
    rw [← hW1]
    have G1 : Gr w W1 := by rw [hW1]; exact ((Gr.refl _).alloc _).alloc _
    have l1 : w.heap.size + 1 < W1.heap.size := by rw [hW1]; simp
    have x1 : W1.heap[w.heap.size + 1]? = some (.cells #[.int .i64 0, .int .i64 0, .int .i64 0] 72 (0, 0)) := by
      rw [hW1]
      have := heap_alloc_new (w.alloc (Obj.cells #[.int .i64 n] 3)) (Obj.cells #[.int .i64 0, .int .i64 0, .int .i64 0] 72)
      simpa using this
    clear hW1
    refine (C1.out _ G1).mono ?_
    rintro e1 wC ⟨rfl, hgA⟩
    have GA := G1.trans hgA
    have x1 := (hgA.heap l1).trans x1
    have l1 := hgA.lt l1
    clear hgA G1
    have z0 : wC.frozen? ⟨w.heap.size + 1, 0, none⟩ = false := Lib.frozen_of_heap x1 0
    have z1 : wC.frozen? ⟨w.heap.size + 1, 1, none⟩ = false := Lib.frozen_of_heap x1 1
    have z2 : wC.frozen? ⟨w.heap.size + 1, 2, none⟩ = false := Lib.frozen_of_heap x1 2
    have y0 : wC.cell? ⟨w.heap.size + 1, 0, none⟩ = some (.int .i64 0) := by rw [Lib.cell_of_heap x1]; rfl
    have y1 : wC.cell? ⟨w.heap.size + 1, 1, none⟩ = some (.int .i64 0) := by rw [Lib.cell_of_heap x1]; rfl
    have y2 : wC.cell? ⟨w.heap.size + 1, 2, none⟩ = some (.int .i64 0) := by rw [Lib.cell_of_heap x1]; rfl
    go_wp2
    refine bodyPost_ret (v := .tuple #[.agg #[.int .i64 0, .int .i64 0, .int .i64 0], .int .i64 2]) (by simp [results, Tryz.results40, go_sem, *]) rfl ?_
    exact ⟨_, _, _, _, rfl, ((GA.setCell ⟨w.heap.size + 1, 0, none⟩ _ (Nat.le_succ _)).setCell ⟨w.heap.size + 1, 1, none⟩ _ (Nat.le_succ _)).setCell ⟨w.heap.size + 1, 2, none⟩ _ (Nat.le_succ _), fun i' h => absurd h hz'.out⟩
end Go.Proofs.YtegkbjpcgelomaaGreatDoor.Walks
end
/- The fixed facts of awake, reckoned. No program in sight. -/
section
namespace Go.Proofs.YtegkbjpcgelomaaGreatDoor.Math
open Go Go.RowKit Go.Proofs.YtegkbjpcgelomaaGreatDoor.Plain Go.Proofs.YtegkbjpcgelomaaGreatDoor.Walks

theorem aw_hd1 : hd 5784 7 15 = 738999 := by decide +kernel
theorem aw_hd2 : hd 5784 7 5 = 738989 := by decide +kernel
theorem aw_code : cN (lp 5784) 7 = 7 ∧ cL (lp 5784) 7 = false := by decide +kernel
theorem aw_rej : rej 5784 0 = 738801 := by decide +kernel
theorem aw_idx : (allS 5784 0)[26]? = some 738989 := by decide +kernel
theorem aw_no : ∀ j, j < 26 → (allS 5784 0)[j]? ≠ some 738989 := by decide +kernel
theorem aw_first : rdE (planY 5784 0) (freeS 5784 0) (allS 5784 0) 26 0 = 27 := by decide +kernel
end Go.Proofs.YtegkbjpcgelomaaGreatDoor.Math
end
/- strings.Builder's grow, at a builder without a buffer. -/
section
set_option maxRecDepth 100000
namespace Go.Proofs.YtegkbjpcgelomaaGreatDoor.Walks
open Go Go.RowKit Go.Sort Go.Proofs.YtegkbjpcgelomaaGreatDoor.Base

set_option maxHeartbeats 2000000 in
/-- The buffer of a builder that has none. -/
theorem bgrow_c (B b n : Nat) (w : World) (hB : B ≤ b) (hbk : w.heap[b]? = some (.cells #[.pointer (some ⟨b, 0, none⟩), .slice none 0 0] 154 (0, 0))) (hBw : B ≤ w.heap.size) (hn : n ≤ 281474976710656) :
    Calls Tryq.prog 127 #[.pointer (some ⟨b, 0, none⟩), .int .i64 n] w fun e w' => e = .returned (.tuple #[]) ∧ BA B b (.pointer (some ⟨b, 0, none⟩)) [] w' ∧ BG B w w' := by
  obtain ⟨cs, hcall, hle, hmax⟩ := makeNo n w.drew hn
  have hw : IntKind.i64.wrap (IntKind.i64.wrap 0 + (n : Int)) = n := by
    rw [IntKind.wrap_i64, IntKind.wrap_i64]
    omega
  rw [← hw] at hcall
  have hlt : b < w.heap.size := by
    rcases Nat.lt_or_ge b w.heap.size with h' | h'
    · exact h'
    · simp [Array.getElem?_eq_none h'] at hbk
  have c1 : w.drew.cell? ⟨b, 1, none⟩ = some (.slice none 0 0) := by
    have : w.drew.heap[b]? = _ := hbk
    rw [Lib.cell_of_heap this]; rfl
  have c2 : (w.alloc (.cells cs 5)).cell? ⟨b, 1, none⟩ = some (.slice none 0 0) := by
    have : (w.alloc (.cells cs 5)).heap[b]? = _ := (Lib.alloc_old w _ b hlt).trans hbk
    rw [Lib.cell_of_heap this]; rfl
  have f2 : (w.alloc (.cells cs 5)).frozen? ⟨b, 1, none⟩ = false := Lib.frozen_of_heap ((Lib.alloc_old w _ b hlt).trans hbk) 1
  have hcopy : ∀ W : World, (Builtin.copy_ #[152, 152] 3 #[.slice (some ⟨w.heap.size, 0, none⟩) 0 cs.size, .slice none 0 0]).run Tryq.prog W = .ok (goInt 0) W :=
    fun W => run_copy_none W 152 152 3 5 _ _ 0 cs.size 0 0 Tryq.underlying152 (by kernel_rfl) rfl
  clear hw
  go_enter Tryq.func127, Tryq.ntmps127
  go_wp2
  have hfin := Lib.grown_fresh (T := 154) (e := 5) (cs := cs) hB hbk hBw (hmax (by unfold maxLen; omega)) (by decide)
  have hd : w.drawn ≤ ((w.alloc (.cells cs 5)).setCell ⟨b, 1, none⟩ (.slice (some ⟨w.heap.size, 0, none⟩) 0 cs.size)).drew.drew.drew.drawn := by
    show w.drawn ≤ w.drawn + 1 + 1 + 1
    omega
  have mx := mixed
  go_region_o
  all_goals (go_wp2; go_end0; first | exact ⟨rfl, hfin.1, hfin.2, hd⟩ | (rw [alloc_set w _ _ _ hlt]; exact ⟨rfl, hfin.1, hfin.2, hd⟩))
end Go.Proofs.YtegkbjpcgelomaaGreatDoor.Walks
end
/- strings.Builder: Grow at a fresh one, WriteString, String. -/
section
set_option maxRecDepth 100000
namespace Go.Proofs.YtegkbjpcgelomaaGreatDoor.Walks
open Go Go.RowKit Go.Sort Go.Proofs.YtegkbjpcgelomaaGreatDoor.Base

theorem BG.grown {B : Nat} {a b c : World} (h : BG B a b) {row : Option Nat} (hg : b.grownBy c row) (hb : B ≤ b.heap.size) (hr : ∀ j, row = some j → B ≤ j) (hd : b.drawn ≤ c.drawn) : BG B a c :=
  ⟨h.b.grown hg hb hr, Nat.le_trans h.d hd⟩
set_option maxHeartbeats 2000000 in
theorem bGrow_c (B b n : Nat) (w : World) (hB : B ≤ b) (hbk : w.heap[b]? = some (.cells #[.pointer none, .slice none 0 0] 154 (0, 0))) (hBw : B ≤ w.heap.size) (hn : n ≤ 281474976710656) (n0 : 0 < n) :
    Calls Tryq.prog 109 #[.pointer (some ⟨b, 0, none⟩), .int .i64 n] w fun e w' => e = .returned (.tuple #[]) ∧ BA B b (.pointer (some ⟨b, 0, none⟩)) [] w' ∧ BG B w w' := by
  have hbk1 : (w.setCell ⟨b, 0, none⟩ (.pointer (some ⟨b, 0, none⟩))).heap[b]? = some (.cells #[.pointer (some ⟨b, 0, none⟩), .slice none 0 0] 154 (0, 0)) := by
    simp [World.setCell, Array.getElem?_modify, hbk]
  have c1 : (w.setCell ⟨b, 0, none⟩ (.pointer (some ⟨b, 0, none⟩))).cell? ⟨b, 1, none⟩ = some (.slice none 0 0) := by rw [Lib.cell_of_heap hbk1]; rfl
  have hb1 : BG B w (w.setCell ⟨b, 0, none⟩ (.pointer (some ⟨b, 0, none⟩))) := (BG.refl B w).setCell (p := ⟨b, 0, none⟩) hB _
  have c1' : (w.setCell ⟨b, 0, none⟩ (.pointer (some ⟨b, 0, none⟩))).drew.cell? ⟨b, 1, none⟩ = some (.slice none 0 0) := c1
  have hn0 : ¬ ((n : Int) < 0) := by omega
  have hn1 : (0 : Int) < (n : Int) := by omega
  go_enter Tryq.func109, Tryq.ntmps109
  have mx := mixed
  go_wp2_with (first | (go_at_call 126; refine (cc_fresh b w (by rw [Lib.cell_of_heap hbk]; rfl) (by simp [World.shape?, hbk]) (Lib.frozen_of_heap hbk 0)).mono ?_; rintro e w' ⟨rfl, rfl⟩))
  go_region_o
  all_goals go_wp2_with (first | (go_at_call 127; refine (bgrow_c B b n (w.setCell ⟨b, 0, none⟩ (.pointer (some ⟨b, 0, none⟩))).drew hB hbk1 (by simpa [World.setCell, World.drew, -World.drew_eq] using hBw) hn).mono ?_; rintro e w' ⟨rfl, h1, h2⟩))
  all_goals (go_end0; exact ⟨rfl, h1, hb1.drew.trans h2⟩)
set_option maxHeartbeats 2000000 in
theorem bwrite_c (B b : Nat) (bs : List Value) (s : ByteArray) (w : World) (h : BA B b (.pointer (some ⟨b, 0, none⟩)) bs w) (hs : 0 < s.size) (hlen : bs.length + s.size ≤ 140737488355328) (hBw : B ≤ w.heap.size) :
    Calls Tryq.prog 110 #[.pointer (some ⟨b, 0, none⟩), .string s] w fun e w' => e = .returned (.tuple #[.int .i64 s.size, .nilIface]) ∧ BA B b (.pointer (some ⟨b, 0, none⟩)) (bs ++ Lib.strCells s) w' ∧ BG B w w' := by
  obtain ⟨i0, hi, hz0, hz1, hz2⟩ := info_u8
  have h0 := h
  obtain ⟨hB, v, hbk, hown, hne⟩ := h
  have c0 : w.cell? ⟨b, 0, none⟩ = some (.pointer (some ⟨b, 0, none⟩)) := by rw [Lib.cell_of_heap hbk]; rfl
  have c1 : w.cell? ⟨b, 1, none⟩ = some v := by rw [Lib.cell_of_heap hbk]; rfl
  clear h0
  go_enter Tryq.func110, Tryq.ntmps110
  go_wp2_with (first | (go_at_call 126; refine (cc_used b w c0).mono ?_; rintro e w' ⟨rfl, rfl⟩) | (at_builtin; refine wpList_append_str _ rfl _ _ 152 9 rfl B 5 i0 Tryq.underlying152 Tryq.underlying9 hi hz0 hz1 hz2 _ _ _ rfl hown s rfl hs ?c3 ?c4 ?c5 ?_))
  case c3 => unfold maxLen; omega
  case c4 => omega
  case c5 => omega
  intro v' w2 hown' hgrow hd
  have hlt : b < w'.heap.size := by
    rcases Nat.lt_or_ge b w'.heap.size with h' | h'
    · exact h'
    · simp [Array.getElem?_eq_none h'] at hbk
  have hb2 : w2.heap[b]? = some (.cells #[.pointer (some ⟨b, 0, none⟩), v] 154 (0, 0)) := by
    rw [hgrow.block b hlt (fun e => hne e.symm)]
    exact hbk
  have d0 : w2.cell? ⟨b, 0, none⟩ = some (.pointer (some ⟨b, 0, none⟩)) := by rw [Lib.cell_of_heap hb2]; rfl
  have d1 : w2.cell? ⟨b, 1, none⟩ = some v := by rw [Lib.cell_of_heap hb2]; rfl
  have f1 : w2.frozen? ⟨b, 1, none⟩ = false := Lib.frozen_of_heap hb2 1
  obtain ⟨ao, n', cap, rfl⟩ : ∃ ao n' cap, v' = .slice ao n' cap := by
    rcases hown'.2 with ⟨hv, _⟩ | ⟨g, cap, cur, hv, _⟩
    · exact ⟨_, _, _, hv⟩
    · exact ⟨_, _, _, hv⟩
  go_wp2
  go_ret2
  refine ⟨rfl, ?_, ?_⟩
  · exact Lib.BuilderAt.put (T := 154) (e := 5) hB hb2 (bs' := bs ++ Lib.strCells s) (by simpa [Lib.strCells_length] using hown') (by decide)
  · exact ((BG.refl B w').grown hgrow hBw (fun k hk => (hown.lt k hk).1) hd).setCell (p := ⟨b, 1, none⟩) hB _
theorem freeze_drawn (w : World) (p : Addr) (n : Nat) : (w.freeze p n).drawn = w.drawn := by
  unfold World.freeze
  (repeat' split) <;> rfl
set_option maxHeartbeats 2000000 in
theorem bstring_c (B b : Nat) (p : Value) (l : List UInt8) (w : World) (h : BA B b p (Lib.byteCells l) w) (h0 : l ≠ []) :
    Calls Tryq.prog 111 #[.pointer (some ⟨b, 0, none⟩)] w fun e w' => e = .returned (.string ⟨l.toArray⟩) ∧ BG B w w' := by
  obtain ⟨hB, v, hbk, hown, hne⟩ := h
  have hl0 : l.length ≠ 0 := by simpa using h0
  rw [Lib.byteCells_length] at hown
  obtain ⟨g, cap, cur, rfl, hbg, hg, hnc, hcm, hcs, htake⟩ : ∃ g cap cur, v = .slice (some ⟨g, 0, none⟩) l.length cap ∧ B ≤ g ∧ w.heap[g]? = some (.cells cur 5 (0, 0)) ∧ l.length ≤ cap ∧ cap ≤ maxLen ∧ cur.size = cap * 1 ∧ cur.toList.take (l.length * 1) = Lib.byteCells l := by
    rcases hown.2 with ⟨_, hz⟩ | ⟨g, cap, cur, hv, r⟩
    · exact absurd hz hl0
    · exact ⟨g, cap, cur, hv, r⟩
  have c1 : w.drew.cell? ⟨b, 1, none⟩ = some (.slice (some ⟨g, 0, none⟩) l.length cap) := by
    have : w.drew.heap[b]? = some (.cells #[p, .slice (some ⟨g, 0, none⟩) l.length cap] 154 (0, 0)) := hbk
    rw [Lib.cell_of_heap this]; rfl
  have hSD : (Builtin.unsafeSliceData_ #[152] 178 #[.slice (some ⟨g, 0, none⟩) l.length cap]).run Tryq.prog w.drew = .ok (.pointer (some ⟨g, 0, none⟩)) w.drew :=
    Lib.run_unsafeSliceData_row _ _ _ _ _ _ (by omega)
  have hUS : (Builtin.unsafeString_ #[178, 3] 9 #[.pointer (some ⟨g, 0, none⟩), .int .i64 l.length]).run Tryq.prog w.drew = .ok (.string ⟨l.toArray⟩) (w.drew.freeze ⟨g, 0, none⟩ l.length) := by
    refine Lib.run_unsafeString_row w.drew 178 3 9 5 Tryq.underlying178 (by kernel_rfl) g cur.size (by have hg' : w.drew.heap[g]? = some (.cells cur 5 (0, 0)) := hg; simp [World.shape?, hg']) l h0 (by omega) (by unfold maxLen at hcm; omega) ?_
    intro j x hx
    have := hown.cells (g := g) rfl j (.int .u8 x.toNat) (by simp [Lib.byteCells, hx])
    exact this
  have mx := mixed
  clear hl0
  go_enter Tryq.func111, Tryq.ntmps111
  go_wp2
  go_region_o
  all_goals (go_wp2; go_ret; exact ⟨rfl, Lib.below_freeze (Below.drew (Below.refl B w)) (p := ⟨g, 0, none⟩) hbg _, by rw [freeze_drawn]; exact Nat.le_succ _⟩)
end Go.Proofs.YtegkbjpcgelomaaGreatDoor.Walks
end
/- text.Heb of the fixed date. -/
section
set_option maxRecDepth 100000
namespace Go.Proofs.YtegkbjpcgelomaaGreatDoor.Walks
open Go Go.RowKit Go.Sort Go.Proofs.YtegkbjpcgelomaaGreatDoor.Base Go.Proofs.YtegkbjpcgelomaaGreatDoor.Plain Go.Proofs.YtegkbjpcgelomaaGreatDoor.Math

theorem BG.cell {B : Nat} {w w' : World} (h : BG B w w') {g o : Nat} {v : Value} (hg : g < B) (hc : w.cell? ⟨g, o, none⟩ = some v) : w'.cell? ⟨g, o, none⟩ = some v := by
  have e := h.b.block g hg
  unfold World.cell? at hc ⊢
  rw [e]
  exact hc
theorem itoa_107 (w : World) (p : PT w) : Calls Tryq.prog 108 #[.int .i64 107] w fun e w' => e = .returned (.string ⟨#[49, 48, 55]⟩) ∧ Gr w w' := by
  refine (Any.strconv_Itoa Tryq.lays171 107 (by decide) (by decide) w p.tab).mono ?_
  rintro e w' ⟨rfl, k, os, rfl⟩
  exact ⟨by rw [show Lib.itoa 107 = [49, 48, 55] from by decide +kernel], (Gr.refl w).grown k os⟩
abbrev tS0 : ByteArray := ⟨#[53, 55, 56, 52]⟩
abbrev tS1 : ByteArray := ⟨#[77, 48, 55]⟩
abbrev tS2 : ByteArray := ⟨#[49, 53]⟩
abbrev tSep : ByteArray := ⟨#[45]⟩
set_option maxHeartbeats 4000000 in
theorem join_c (g : Nat) (w : World) (hg : g < w.heap.size) (k0 : w.cell? ⟨g, 0, none⟩ = some (.string tS0)) (k1 : w.cell? ⟨g, 1, none⟩ = some (.string tS1)) (k2 : w.cell? ⟨g, 2, none⟩ = some (.string tS2)) :
    Calls Tryq.prog 77 #[.slice (some ⟨g, 0, none⟩) 3 3, .string tSep] w fun e w' => e = .returned (.string ⟨#[53, 55, 56, 52, 45, 77, 48, 55, 45, 49, 53]⟩) ∧ Gr w w' := by
  have hS0 : tS0.size = 4 := rfl
  have hS1 : tS1.size = 3 := rfl
  have hS2 : tS2.size = 2 := rfl
  have hS3 : tSep.size = 1 := rfl
  have q0 := Lib.hid k0
  have q1 := Lib.hid k1
  have q2 := Lib.hid k2
  go_enter Tryq.func77, Tryq.ntmps77
  go_wp2
  refine wp_loop_rounds 4 ?_
  repeat any_goals (rw [rounds_succ]; go_wp2_with (first | (go_at_call 109; refine (bGrow_c w.heap.size w.heap.size 11 _ (Nat.le_refl _) (heap_alloc_new w _) (by simp) (by decide) (by decide)).mono ?_; rintro e w1 ⟨rfl, hA, hG'⟩; have hG : BG w.heap.size w w1 := BG.trans ((BG.refl _ w).alloc (Nat.le_refl _) _) hG'; clear hG'; have c0 := hG.cell hg q0.out; have c1 := hG.cell hg q1.out; have c2 := hG.cell hg q2.out; have hz := hG.b.size) | (go_at_call 110; refine (bwrite_c w.heap.size w.heap.size _ _ _ hA (by decide) (by decide) hz).mono ?_; rintro e w2 ⟨rfl, hA', hG'⟩; have hG2 := BG.trans hG hG'; clear hG hA hG' hz c0 c1 c2; have hG := hG2; have hA := hA'; clear hG2 hA'; have c0 := hG.cell hg q0.out; have c1 := hG.cell hg q1.out; have c2 := hG.cell hg q2.out; have hz := hG.b.size) | (go_at_call 111; refine (bstring_c w.heap.size w.heap.size _ [53, 55, 56, 52, 45, 77, 48, 55, 45, 49, 53] _ hA (by decide)).mono ?_; rintro e w2 ⟨rfl, hG'⟩; have hE := BG.trans hG hG')))
  clear k0 k1 k2
  refine wp_loop_rounds 3 ?_
  repeat any_goals (rw [rounds_succ]; go_wp2_with (first | (go_at_call 109; refine (bGrow_c w.heap.size w.heap.size 11 _ (Nat.le_refl _) (heap_alloc_new w _) (by simp) (by decide) (by decide)).mono ?_; rintro e w1 ⟨rfl, hA, hG'⟩; have hG : BG w.heap.size w w1 := BG.trans ((BG.refl _ w).alloc (Nat.le_refl _) _) hG'; clear hG'; have c0 := hG.cell hg q0.out; have c1 := hG.cell hg q1.out; have c2 := hG.cell hg q2.out; have hz := hG.b.size) | (go_at_call 110; refine (bwrite_c w.heap.size w.heap.size _ _ _ hA (by decide) (by decide) hz).mono ?_; rintro e w2 ⟨rfl, hA', hG'⟩; have hG2 := BG.trans hG hG'; clear hG hA hG' hz c0 c1 c2; have hG := hG2; have hA := hA'; clear hG2 hA'; have c0 := hG.cell hg q0.out; have c1 := hG.cell hg q1.out; have c2 := hG.cell hg q2.out; have hz := hG.b.size) | (go_at_call 111; refine (bstring_c w.heap.size w.heap.size _ [53, 55, 56, 52, 45, 77, 48, 55, 45, 49, 53] _ hA (by decide)).mono ?_; rintro e w2 ⟨rfl, hG'⟩; have hE := BG.trans hG hG')))
  go_ret
  exact ⟨rfl, hE.gr⟩

set_option maxHeartbeats 4000000 in
theorem ctext_c (w : World) (p : PT w) : Calls Tryq.prog 76 #[.agg #[.int .i64 7, .bool false]] w fun e w' => e = .returned (.tuple #[.string tS1, .bool true]) ∧ Gr w w' := by
  have C1 := Lib.hid fun W => cright_c 7 false W
  rw [show cR 7 false = true from by decide] at C1
  have C2 := Lib.hid fun W (hW : Gr w W) => itoa_107 W (p.gr hW)
  clear p
  go_enter Tryq.func76, Tryq.ntmps76
  go_wp2_with (first | ((go_at_call 91; (with_reducible refine (C1.out _).mono ?_); rintro e wA ⟨rfl, hgwA⟩; obtain ⟨hclwA, hfzwA, hszwA⟩ := gcell hgwA; (try simp [Nat.add_one_le_iff] at hszwA); have hlwA_w : w.heap.size < wA.heap.size := (by omega)); have c0 := hgwA.keep (b := w.heap.size) (o := 0) (v := .int .i64 7) (by first | (simp; done) | (simp; omega)) (by simp [go_sem]); have c1 := hgwA.keep (b := w.heap.size) (o := 1) (v := .bool false) (by first | (simp; done) | (simp; omega)) (by simp [go_sem]); clear hclwA hfzwA hszwA) | ((go_at_call 108; (with_reducible refine (C2.out _ ((by repeat (first | exact Gr.refl _ | refine Gr.setCell ?_ _ _ (by first | exact Nat.le_refl _ | (simp; omega) | (simp; done)) | refine Gr.grown ?_ _ _ | refine Gr.drewN ?_ _ | refine Gr.drew ?_ | refine Gr.alloc ?_ _ | refine Gr.grow ?_ _ | (refine Gr.trans ?_ (by assumption)))))).mono ?_); rintro e wB ⟨rfl, hgwB⟩; obtain ⟨hclwB, hfzwB, hszwB⟩ := gcell hgwB; (try simp [Nat.add_one_le_iff] at hszwB); have hlwB_w : w.heap.size < wB.heap.size := (by omega)); have e0 := hgwB.keep hlwA_w c0; have e1 := hgwB.keep hlwA_w c1; clear hclwB hfzwB hszwB))
  go_ret2
  exact ⟨by kernel_rfl, (by repeat (first | exact Gr.refl _ | refine Gr.setCell ?_ _ _ (by first | exact Nat.le_refl _ | (simp; omega) | (simp; done)) | refine Gr.grown ?_ _ _ | refine Gr.drewN ?_ _ | refine Gr.drew ?_ | refine Gr.alloc ?_ _ | refine Gr.grow ?_ _ | (refine Gr.trans ?_ (by assumption))))⟩
set_option maxHeartbeats 8000000 in
theorem theb_c (w : World) (G : GT w) (p : PT w) : Calls Tryq.prog 39 #[.agg #[.int .i64 5784, .int .i64 7, .bool false, .int .i64 15]] w fun e w' => e = .returned (.tuple #[.string ⟨#[53, 55, 56, 52, 45, 77, 48, 55, 45, 49, 53]⟩, .int .i64 0]) ∧ Gr w w' := by
  have hv : HV 5784 7 15 := ⟨by decide, by decide, by decide, by decide, by have := mlen_range (kk 5784) (lp 5784) 7; omega⟩
  have C1 : RowKit.Hid (∀ W, Gr w W → Calls Tryq.prog 27 #[.agg #[.int .i64 5784, .int .i64 7, .bool false, .int .i64 15]] W fun e w' => e = .returned (.int .i64 0) ∧ Gr W w') := Lib.hid fun W hW => hcheck_in 5784 7 15 W (G.gr hW) hv
  have C2 := Lib.hid fun W (hW : Gr w W) => ctext_c W (p.gr hW)
  have C3 := Lib.hid fun W (hW : Gr w W) => pad_big W (p.gr hW)
  have C4 := Lib.hid fun W (hW : Gr w W) => pad_small W
  clear hv G p
  go_enter Tryq.func39, Tryq.ntmps39
  go_wp2_with (first | ((go_at_call 27; (with_reducible refine (C1.out _ ((by repeat (first | exact Gr.refl _ | refine Gr.setCell ?_ _ _ (by first | exact Nat.le_refl _ | (simp; omega) | (simp; done)) | refine Gr.grown ?_ _ _ | refine Gr.drewN ?_ _ | refine Gr.drew ?_ | refine Gr.alloc ?_ _ | refine Gr.grow ?_ _ | (refine Gr.trans ?_ (by assumption)))))).mono ?_); rintro e wA ⟨rfl, hgwA⟩; obtain ⟨hclwA, hfzwA, hszwA⟩ := gcell hgwA; (try simp [Nat.add_one_le_iff] at hszwA); have hlwA_w : w.heap.size < wA.heap.size := (by omega)); have c0 := hgwA.keep (b := w.heap.size) (o := 0) (v := .int .i64 5784) (by first | (simp; done) | (simp; omega)) (by simp [go_sem]); have c1 := hgwA.keep (b := w.heap.size) (o := 1) (v := .int .i64 7) (by first | (simp; done) | (simp; omega)) (by simp [go_sem]); have c2 := hgwA.keep (b := w.heap.size) (o := 2) (v := .bool false) (by first | (simp; done) | (simp; omega)) (by simp [go_sem]); have c3 := hgwA.keep (b := w.heap.size) (o := 3) (v := .int .i64 15) (by first | (simp; done) | (simp; omega)) (by simp [go_sem]); clear hclwA hfzwA hszwA) | ((go_at_call 76; (with_reducible refine (C2.out _ ((by repeat (first | exact Gr.refl _ | refine Gr.setCell ?_ _ _ (by first | exact Nat.le_refl _ | (simp; omega) | (simp; done)) | refine Gr.grown ?_ _ _ | refine Gr.drewN ?_ _ | refine Gr.drew ?_ | refine Gr.alloc ?_ _ | refine Gr.grow ?_ _ | (refine Gr.trans ?_ (by assumption)))))).mono ?_); rintro e wB ⟨rfl, hgwB⟩; obtain ⟨hclwB, hfzwB, hszwB⟩ := gcell hgwB; (try simp [Nat.add_one_le_iff] at hszwB); have hlwB_w : w.heap.size < wB.heap.size := (by omega)); have e0 := hgwB.keep hlwA_w c0; have e1 := hgwB.keep hlwA_w c1; have e2 := hgwB.keep hlwA_w c2; have e3 := hgwB.keep hlwA_w c3; clear hclwB hfzwB hszwB))
  have GW : Gr w wB := (by repeat (first | exact Gr.refl _ | refine Gr.setCell ?_ _ _ (by first | exact Nat.le_refl _ | (simp; omega) | (simp; done)) | refine Gr.grown ?_ _ _ | refine Gr.drewN ?_ _ | refine Gr.drew ?_ | refine Gr.alloc ?_ _ | refine Gr.grow ?_ _ | (refine Gr.trans ?_ (by assumption))))
  have x0 := gcell_in hlwB_w e0; have x1 := gcell_in hlwB_w e1; have x2 := gcell_in hlwB_w e2; have x3 := gcell_in hlwB_w e3
  clear hgwA hgwB c0 c1 c2 c3 e0 e1 e2 e3
  (refine wp_region_grown_tail 7 mixed (by kernel_rfl) ?_; simp only [List.take_succ_cons, List.take_zero, List.drop_succ_cons, List.drop_zero]; (repeat (first | go_big_quiet_step ((go_at_call 78; first | with_reducible exact gr_of (C3.out _ ((by repeat (first | exact Gr.refl _ | refine Gr.setCell ?_ _ _ (by first | exact Nat.le_refl _ | (simp; omega) | (simp; done)) | refine Gr.grown ?_ _ _ | refine Gr.drewN ?_ _ | refine Gr.drew ?_ | refine Gr.alloc ?_ _ | refine Gr.grow ?_ _ | (refine Gr.trans ?_ (by assumption)))))) | with_reducible exact gr_of (C4.out _ ((by repeat (first | exact Gr.refl _ | refine Gr.setCell ?_ _ _ (by first | exact Nat.le_refl _ | (simp; omega) | (simp; done)) | refine Gr.grown ?_ _ _ | refine Gr.drewN ?_ _ | refine Gr.drew ?_ | refine Gr.alloc ?_ _ | refine Gr.grow ?_ _ | (refine Gr.trans ?_ (by assumption)))))))) | quiet_step ((go_at_call 78; first | with_reducible exact gr_of (C3.out _ ((by repeat (first | exact Gr.refl _ | refine Gr.setCell ?_ _ _ (by first | exact Nat.le_refl _ | (simp; omega) | (simp; done)) | refine Gr.grown ?_ _ _ | refine Gr.drewN ?_ _ | refine Gr.drew ?_ | refine Gr.alloc ?_ _ | refine Gr.grow ?_ _ | (refine Gr.trans ?_ (by assumption)))))) | with_reducible exact gr_of (C4.out _ ((by repeat (first | exact Gr.refl _ | refine Gr.setCell ?_ _ _ (by first | exact Nat.le_refl _ | (simp; omega) | (simp; done)) | refine Gr.grown ?_ _ _ | refine Gr.drewN ?_ _ | refine Gr.drew ?_ | refine Gr.alloc ?_ _ | refine Gr.grow ?_ _ | (refine Gr.trans ?_ (by assumption)))))))))); refine wpQuiet_nil ?_; intro _ hw'; obtain ⟨⟨nq, osq⟩, hw''⟩ := hw'; subst hw'')
  obtain ⟨W, hW⟩ : ∃ W, W = grow (wB.drewN nq) osq := ⟨_, rfl⟩
  have GWW : Gr w W := by rw [hW]; exact GW.grown _ _
  rw [← hW]
  clear hW x0 x1 x2 x3
  go_wp2_with (first | (go_at_call 77; refine (join_c W.heap.size _ (by simp) (by simp [go_sem]) (by simp [go_sem]) (by simp [go_sem])).mono ?_; rintro e wE ⟨rfl, hgE⟩))
  go_ret2
  exact ⟨rfl, (by repeat (first | exact Gr.refl _ | refine Gr.setCell ?_ _ _ (by first | exact Nat.le_refl _ | (simp; omega) | (simp; done)) | refine Gr.grown ?_ _ _ | refine Gr.drewN ?_ _ | refine Gr.drew ?_ | refine Gr.alloc ?_ _ | refine Gr.grow ?_ _ | (refine Gr.trans ?_ (by assumption))))⟩
end Go.Proofs.YtegkbjpcgelomaaGreatDoor.Walks
end
/- The Gregorian calendar in plain numbers: no program in sight. -/
section
namespace Go.Proofs.YtegkbjpcgelomaaGreatDoor.Math
open Go Go.RowKit Go.Proofs.YtegkbjpcgelomaaGreatDoor.Plain

/-- Is a year a leap year? -/
def gl (y : Int) : Bool := y % 400 == 0 || (y % 4 == 0 && !(y % 100 == 0))
/-- How many days a month has. -/
def gmd (l : Bool) (m : Int) : Int :=
  if m = 2 then (if l = true then 29 else 28) else if m = 4 ∨ m = 6 ∨ m = 9 ∨ m = 11 then 30 else if 1 ≤ m ∧ m ≤ 12 then 31 else 0
/-- The days ahead of a month. -/
def gc (l : Bool) : Nat → Int
  | 0 => 0
  | m + 1 => gc l m + gmd l m
/-- The day ahead of a year's first one. -/
def gb (y : Int) : Int := 365 * (y - 1) + (y - 1) / 4 - (y - 1) / 100 + (y - 1) / 400
/-- A date's day. -/
def gd (y : Int) (m : Nat) (d : Int) : Int := gb y + gc (gl y) m + d
theorem gmd_12 (l : Bool) (m : Int) (h0 : 1 ≤ m) (h1 : m ≤ 12) : 28 ≤ gmd l m ∧ gmd l m ≤ 31 := by unfold gmd; cases l <;> split <;> (try split) <;> (try split) <;> simp_all <;> omega
theorem gmd_no (l : Bool) (m : Int) (h : m < 1 ∨ 12 < m) : gmd l m = 0 := by
  unfold gmd
  rw [if_neg (by omega), if_neg (by omega), if_neg (by omega)]
theorem gmd_range (l : Bool) (m : Int) : 0 ≤ gmd l m ∧ gmd l m ≤ 31 := by
  by_cases h : 1 ≤ m ∧ m ≤ 12
  · have := gmd_12 l m h.1 h.2; omega
  · rw [gmd_no l m (by omega)]; omega
theorem gc_13 (l : Bool) : gc l 13 = if l = true then 366 else 365 := by cases l <;> decide
theorem gc_le (l : Bool) (m : Nat) (h : m ≤ 13) : 0 ≤ gc l m ∧ gc l m ≤ 366 := by
  have : m = 0 ∨ m = 1 ∨ m = 2 ∨ m = 3 ∨ m = 4 ∨ m = 5 ∨ m = 6 ∨ m = 7 ∨ m = 8 ∨ m = 9 ∨ m = 10 ∨ m = 11 ∨ m = 12 ∨ m = 13 := by omega
  rcases this with rfl | rfl | rfl | rfl | rfl | rfl | rfl | rfl | rfl | rfl | rfl | rfl | rfl | rfl <;> cases l <;> decide
/-- How long a year is. -/
theorem gb_next (y : Int) : gb (y + 1) = gb y + gc (gl y) 13 := by
  rw [gc_13]
  unfold gb gl
  by_cases h4 : y % 400 = 0
  · rw [beq_iff_eq.2 h4, Bool.true_or, if_pos rfl]; omega
  · rw [beq_eq_false_iff_ne.2 h4, Bool.false_or]
    by_cases h1 : y % 100 = 0
    · rw [beq_iff_eq.2 h1, Bool.not_true, Bool.and_false, if_neg (by decide)]; omega
    · rw [beq_eq_false_iff_ne.2 h1, Bool.not_false, Bool.and_true]
      by_cases h2 : y % 4 = 0
      · rw [beq_iff_eq.2 h2, if_pos rfl]; omega
      · rw [beq_eq_false_iff_ne.2 h2, if_neg (by decide)]; omega
/-- The year of a day, as it is reckoned. -/
def gyr (n : Int) : Int :=
  let big := (n - 1) % 146097
  let a := (n - 1) / 146097
  let b := if big / 36524 < 3 then big / 36524 else 3
  let r := big - b * 36524
  let c := r / 1461
  let s := r % 1461
  let d := if s / 365 < 3 then s / 365 else 3
  400 * a + 100 * b + 4 * c + d + 1
theorem gc_mono (l : Bool) (m : Nat) : ∀ d, gc l m ≤ gc l (m + d) := by
  intro d
  induction d with
  | zero => exact Int.le_refl _
  | succ d ih =>
    have h := (gmd_range l ((m + d : Nat) : Int)).1
    show gc l m ≤ gc l (m + d) + gmd l ((m + d : Nat) : Int)
    omega
/-- A date that may be. -/
def gok (y : Int) (m : Nat) (d : Int) : Prop := 1 ≤ m ∧ m ≤ 12 ∧ 1 ≤ d ∧ d ≤ gmd (gl y) m
theorem gd_in {y : Int} {m : Nat} {d : Int} (h : gok y m d) : gb y < gd y m d ∧ gd y m d ≤ gb (y + 1) := by
  obtain ⟨m0, m1, d0, d1⟩ := h
  have a := (gc_le (gl y) m (by omega)).1
  have b : gc (gl y) (m + 1) ≤ gc (gl y) 13 := by have := gc_mono (gl y) (m + 1) (12 - m); rwa [show m + 1 + (12 - m) = 13 from by omega] at this
  have c : gc (gl y) (m + 1) = gc (gl y) m + gmd (gl y) m := rfl
  rw [gb_next]
  unfold gd
  omega

end Go.Proofs.YtegkbjpcgelomaaGreatDoor.Math
end
