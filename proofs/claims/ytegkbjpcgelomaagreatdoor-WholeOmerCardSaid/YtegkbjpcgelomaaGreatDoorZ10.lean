/- sabbath.upto's region that asks the tape for its order: the two channels are made, the boxes of out and end, and the channels are laid into the boxes. -/
import Derived.Test.YtegkbjpcgelomaaGreatDoorZ9
import Derived.Conc.CompanyDraw
import Derived.Test.YtegkbjpcgelomaaGreatDoorZ6
set_option linter.unusedVariables false
set_option linter.unusedSimpArgs false
set_option linter.unusedSectionVars false
section
set_option maxRecDepth 100000
set_option maxHeartbeats 4000000
namespace Go.Proofs.YtegkbjpcgelomaaGreatDoor.Wk
open Go Go.Proofs Go.Conc Go.ConcX Go.ConcX.Gen Go.Conc.Lib Go.RowKit Go.Ph

noncomputable def bodyP : Code := Tryz.f133.body.getD .skip
noncomputable abbrev rp (n : Nat) : Array Oper := opsOf (headSeq (dropSeq n bodyP))
noncomputable abbrev kp (n : Nat) : Code := dropSeq n bodyP
theorem termsS (E : Event → Prop) : Terms AtRel (DE E) := ⟨atRel_trans, fun _ => by intro e he; simp at he⟩
theorem drawS (E : Event → Prop) : LetsDraw (DE E) := fun _ => by intro e he; simp at he
/-- One operation, in whatever world the others have left. -/
theorem opC_some {P : Program} {R : World → World → Prop} {D : World → World → Array Event → Prop} {fn : FuncId} {ops : Array Oper} {i : Nat} {o : Oper} {K : Act → World → Prop} {a : Act} {w : World} (ho : ops[i]? = some o) (hw : Region.wanted o (yielded ops a.tmps) = true)
    (h : ∀ w₁, R w w₁ → uponK o a (fun a' w' => D w₁ w' (listed P fn a o w₁) ∧ K a' w') ((execOp a.eval o).run P w₁)) : OpC P R D fn ops i K a w := by
  unfold OpC
  simp only [ho, hw, if_true]
  exact h
section
variable {N : Nat} {x st : Int} {W : World} {v3 v5 v6 v7 v8 v9 v10 v11 v12 v13 v14 v15 v16 v17 v18 v19 v20 v21 v22 v23 v24 v25 v26 v27 : Value}
variable (N x st W v3 v5 v6 v7 v8 v9 v10 v11 v12 v13 v14 v15 v16 v17 v18 v19 v20 v21 v22 v23 v24 v25 v26 v27) in
/-- What has been done of it. -/
structure Rg (b0 b1 b2 b3 b4 b5 : Bool) (c1 c2 po pe : Nat) (a : Act) (w : World) : Prop where
  tm : a = ⟨#[.int .i64 x, .int .i64 st, .pointer (some ⟨N, 0, none⟩), v3, .slice none 0 0, (if b2 then .pointer (some ⟨po, 0, none⟩) else v5), (if b3 then .pointer (some ⟨pe, 0, none⟩) else v6), v7, v8, v9, (if b0 then .chan (some c1) else v10), (if b1 then .chan (some c2) else v11), v12, v13, v14, v15, v16, v17, v18, v19, v20, v21, v22, v23, v24, v25, v26, v27], []⟩
  size : w.heap.size = N + 1 + ((if b0 then 1 else 0) + (if b1 then 1 else 0) + (if b2 then 1 else 0) + (if b3 then 1 else 0))
  low : ∀ b, b ≤ N → w.heap[b]? = W.heap[b]?
  rest : w.tape = W.tape ∧ w.os = W.os ∧ w.output = W.output
  k1 : b0 = true → N < c1 ∧ c1 < w.heap.size ∧ w.heap[c1]? = some (.chan 0 #[] false 0 0 false)
  k2 : b1 = true → N < c2 ∧ c2 < w.heap.size ∧ w.heap[c2]? = some (.chan 0 #[] false 0 0 false)
  o : b2 = true → N < po ∧ po < w.heap.size ∧ w.heap[po]? = some (.cells #[if b4 then .chan (some c1) else .chan none] 205)
  e : b3 = true → N < pe ∧ pe < w.heap.size ∧ w.heap[pe]? = some (.cells #[if b5 then .chan (some c2) else .chan none] 206)
  ne : (b0 = true → b1 = true → c1 ≠ c2) ∧ (b0 = true → b2 = true → c1 ≠ po) ∧ (b0 = true → b3 = true → c1 ≠ pe) ∧ (b1 = true → b2 = true → c2 ≠ po) ∧ (b1 = true → b3 = true → c2 ≠ pe) ∧ (b2 = true → b3 = true → po ≠ pe)

theorem push_old {w : World} {o : Obj} {d b : Nat} (h : b < w.heap.size) : ((w.at d).alloc o).heap[b]? = w.heap[b]? := by
  show (w.heap.push o)[b]? = _
  rw [Array.getElem?_push, if_neg (by omega)]
theorem push_new {w : World} {o : Obj} {d : Nat} : ((w.at d).alloc o).heap[w.heap.size]? = some o := by
  show (w.heap.push o)[w.heap.size]? = _
  rw [Array.getElem?_push, if_pos rfl]
theorem push_size {w : World} {o : Obj} {d : Nat} : ((w.at d).alloc o).heap.size = w.heap.size + 1 := by
  show (w.heap.push o).size = _
  rw [Array.size_push]
theorem bytes3 : ∃ i, Tryz.prog.info? 3 = some i ∧ i.bytes = 8 := Option.map_eq_some_iff.1 (show (Tryz.prog.info? 3).map (·.bytes) = some 8 by kernel_rfl)
theorem bytes207 : ∃ i, Tryz.prog.info? 207 = some i ∧ i.bytes = 0 := Option.map_eq_some_iff.1 (show (Tryz.prog.info? 207).map (·.bytes) = some 0 by kernel_rfl)
theorem mk205 (w : World) : (Instr.makeChan 205 (.int .i64 0)).run Tryz.prog w = .ok (.chan (some w.heap.size)) (w.alloc (.chan 0 #[] false 0 0 false)) ∧ (Instr.makeChan 205 (.int .i64 0)).events Tryz.prog w #[] = #[] := by
  obtain ⟨i, hi, hb⟩ := bytes3
  exact ⟨by simpa using run_makeChan (P := Tryz.prog) (w := w) Tryz.underlying205 hi .i64 0 (by omega) (by rw [hb]; omega), by simpa using events_makeChan (P := Tryz.prog) (w := w) Tryz.underlying205 hi .i64 0 (by omega) (by rw [hb]; omega) #[]⟩
theorem mk206 (w : World) : (Instr.makeChan 206 (.int .i64 0)).run Tryz.prog w = .ok (.chan (some w.heap.size)) (w.alloc (.chan 0 #[] false 0 0 false)) ∧ (Instr.makeChan 206 (.int .i64 0)).events Tryz.prog w #[] = #[] := by
  obtain ⟨i, hi, hb⟩ := bytes207
  exact ⟨by simpa using run_makeChan (P := Tryz.prog) (w := w) Tryz.underlying206 hi .i64 0 (by omega) (by rw [hb]; omega), by simpa using events_makeChan (P := Tryz.prog) (w := w) Tryz.underlying206 hi .i64 0 (by omega) (by rw [hb]; omega) #[]⟩
section
variable {b0 b1 b2 b3 b4 b5 : Bool} {c1 c2 po pe : Nat} {a : Act} {w : World} {E : Event → Prop} {K : Act → World → Prop}
/-- A block is laid. -/
theorem Rg.keep {o : Obj} {d : Nat} (h : Rg N x st W v3 v5 v6 v7 v8 v9 v10 v11 v12 v13 v14 v15 v16 v17 v18 v19 v20 v21 v22 v23 v24 v25 v26 v27 b0 b1 b2 b3 b4 b5 c1 c2 po pe a w) : ∀ b, b < w.heap.size → ((w.at d).alloc o).heap[b]? = w.heap[b]? := fun b hb => push_old hb
theorem Rg.pos_ (h : Rg N x st W v3 v5 v6 v7 v8 v9 v10 v11 v12 v13 v14 v15 v16 v17 v18 v19 v20 v21 v22 v23 v24 v25 v26 v27 b0 b1 b2 b3 b4 b5 c1 c2 po pe a w) : N < w.heap.size := by have := h.size; omega

theorem op0 (h : Rg N x st W v3 v5 v6 v7 v8 v9 v10 v11 v12 v13 v14 v15 v16 v17 v18 v19 v20 v21 v22 v23 v24 v25 v26 v27 false b1 b2 b3 false b5 c1 c2 po pe a w) (hK : ∀ d, Rg N x st W v3 v5 v6 v7 v8 v9 v10 v11 v12 v13 v14 v15 v16 v17 v18 v19 v20 v21 v22 v23 v24 v25 v26 v27 true b1 b2 b3 false b5 w.heap.size c2 po pe (a.put (some 10) (.chan (some w.heap.size))) ((w.at d).alloc (.chan 0 #[] false 0 0 false)) → K (a.put (some 10) (.chan (some w.heap.size))) ((w.at d).alloc (.chan 0 #[] false 0 0 false))) :
    OpC Tryz.prog AtRel (DE E) 133 (rp 1) 0 K a w := by
  refine opC_some (o := { dst := some 10, op := Op.makeChan 205 (Operand.const (Value.int IntKind.i64 0)), type := 205, pos := "sabbath.go:49", after := #[], guard := none }) (by rfl) (by rfl) fun w₁ h₁ => ?_
  obtain ⟨d, rfl⟩ := h₁
  have run : (execOp a.eval { dst := some 10, op := Op.makeChan 205 (Operand.const (Value.int IntKind.i64 0)), type := 205, pos := "sabbath.go:49", after := #[], guard := none }).run Tryz.prog (w.at d) = .ok (.value (.chan (some w.heap.size))) ((w.at d).alloc (.chan 0 #[] false 0 0 false)) := by
    show (Sem.bind (Instr.makeChan 205 (.int .i64 0)) _).run _ _ = _
    rw [Sem.run_bind', (mk205 (w.at d)).1]
    rfl
  have evs : (execOp a.eval { dst := some 10, op := Op.makeChan 205 (Operand.const (Value.int IntKind.i64 0)), type := 205, pos := "sabbath.go:49", after := #[], guard := none }).events Tryz.prog (w.at d) #[] = #[] := by
    simp [execOp, go_sem, (mk205 (w.at d)).2]
  rw [run]
  refine ⟨by rw [listed_nil evs]; intro e he; simp at he, hK d ⟨?_, ?_, ?_, ?_, ?_, ?_, ?_, ?_, ?_⟩⟩
  · rw [h.tm]; simp [Act.put]
  · rw [push_size, h.size]; simp; try omega
  · intro b hb; rw [push_old (by have := h.pos_; omega)]; exact h.low b hb
  · exact h.rest
  all_goals try (first
    | exact fun hb => absurd hb (by decide)
    | exact fun hb => ⟨h.pos_, by rw [push_size]; omega, push_new⟩
    | (intro hb; obtain ⟨p1, p2, p3⟩ := h.k1 hb; exact ⟨p1, by rw [push_size]; omega, (push_old p2).trans p3⟩)
    | (intro hb; obtain ⟨p1, p2, p3⟩ := h.k2 hb; exact ⟨p1, by rw [push_size]; omega, (push_old p2).trans p3⟩)
    | (intro hb; obtain ⟨p1, p2, p3⟩ := h.o hb; exact ⟨p1, by rw [push_size]; omega, (push_old p2).trans (by simpa using p3)⟩)
    | (intro hb; obtain ⟨p1, p2, p3⟩ := h.e hb; exact ⟨p1, by rw [push_size]; omega, (push_old p2).trans (by simpa using p3)⟩))
  · obtain ⟨n1, n2, n3, n4, n5, n6⟩ := h.ne
    refine ⟨?_, ?_, ?_, ?_, ?_, ?_⟩ <;> intro i1 i2 <;> (first
      | exact absurd i1 (by decide) | exact absurd i2 (by decide)
      | exact n1 i1 i2 | exact n2 i1 i2 | exact n3 i1 i2 | exact n4 i1 i2 | exact n5 i1 i2 | exact n6 i1 i2
      | (have := (h.k1 i1).2.1; omega) | (have := (h.k1 i2).2.1; omega) | (have := (h.k2 i1).2.1; omega) | (have := (h.k2 i2).2.1; omega) | (have := (h.o i1).2.1; omega) | (have := (h.o i2).2.1; omega) | (have := (h.e i1).2.1; omega) | (have := (h.e i2).2.1; omega))

theorem op1 (h : Rg N x st W v3 v5 v6 v7 v8 v9 v10 v11 v12 v13 v14 v15 v16 v17 v18 v19 v20 v21 v22 v23 v24 v25 v26 v27 b0 false b2 b3 b4 false c1 c2 po pe a w) (hK : ∀ d, Rg N x st W v3 v5 v6 v7 v8 v9 v10 v11 v12 v13 v14 v15 v16 v17 v18 v19 v20 v21 v22 v23 v24 v25 v26 v27 b0 true b2 b3 b4 false c1 w.heap.size po pe (a.put (some 11) (.chan (some w.heap.size))) ((w.at d).alloc (.chan 0 #[] false 0 0 false)) → K (a.put (some 11) (.chan (some w.heap.size))) ((w.at d).alloc (.chan 0 #[] false 0 0 false))) :
    OpC Tryz.prog AtRel (DE E) 133 (rp 1) 1 K a w := by
  refine opC_some (o := { dst := some 11, op := Op.makeChan 206 (Operand.const (Value.int IntKind.i64 0)), type := 206, pos := "sabbath.go:49", after := #[], guard := none }) (by rfl) (by rfl) fun w₁ h₁ => ?_
  obtain ⟨d, rfl⟩ := h₁
  have run : (execOp a.eval { dst := some 11, op := Op.makeChan 206 (Operand.const (Value.int IntKind.i64 0)), type := 206, pos := "sabbath.go:49", after := #[], guard := none }).run Tryz.prog (w.at d) = .ok (.value (.chan (some w.heap.size))) ((w.at d).alloc (.chan 0 #[] false 0 0 false)) := by
    show (Sem.bind (Instr.makeChan 206 (.int .i64 0)) _).run _ _ = _
    rw [Sem.run_bind', (mk206 (w.at d)).1]
    rfl
  have evs : (execOp a.eval { dst := some 11, op := Op.makeChan 206 (Operand.const (Value.int IntKind.i64 0)), type := 206, pos := "sabbath.go:49", after := #[], guard := none }).events Tryz.prog (w.at d) #[] = #[] := by
    simp [execOp, go_sem, (mk206 (w.at d)).2]
  rw [run]
  refine ⟨by rw [listed_nil evs]; intro e he; simp at he, hK d ⟨?_, ?_, ?_, ?_, ?_, ?_, ?_, ?_, ?_⟩⟩
  · rw [h.tm]; simp [Act.put]
  · rw [push_size, h.size]; simp; try omega
  · intro b hb; rw [push_old (by have := h.pos_; omega)]; exact h.low b hb
  · exact h.rest
  all_goals try (first
    | exact fun hb => absurd hb (by decide)
    | exact fun hb => ⟨h.pos_, by rw [push_size]; omega, push_new⟩
    | (intro hb; obtain ⟨p1, p2, p3⟩ := h.k1 hb; exact ⟨p1, by rw [push_size]; omega, (push_old p2).trans p3⟩)
    | (intro hb; obtain ⟨p1, p2, p3⟩ := h.k2 hb; exact ⟨p1, by rw [push_size]; omega, (push_old p2).trans p3⟩)
    | (intro hb; obtain ⟨p1, p2, p3⟩ := h.o hb; exact ⟨p1, by rw [push_size]; omega, (push_old p2).trans (by simpa using p3)⟩)
    | (intro hb; obtain ⟨p1, p2, p3⟩ := h.e hb; exact ⟨p1, by rw [push_size]; omega, (push_old p2).trans (by simpa using p3)⟩))
  · obtain ⟨n1, n2, n3, n4, n5, n6⟩ := h.ne
    refine ⟨?_, ?_, ?_, ?_, ?_, ?_⟩ <;> intro i1 i2 <;> (first
      | exact absurd i1 (by decide) | exact absurd i2 (by decide)
      | exact n1 i1 i2 | exact n2 i1 i2 | exact n3 i1 i2 | exact n4 i1 i2 | exact n5 i1 i2 | exact n6 i1 i2
      | (have := (h.k1 i1).2.1; omega) | (have := (h.k1 i2).2.1; omega) | (have := (h.k2 i1).2.1; omega) | (have := (h.k2 i2).2.1; omega) | (have := (h.o i1).2.1; omega) | (have := (h.o i2).2.1; omega) | (have := (h.e i1).2.1; omega) | (have := (h.e i2).2.1; omega))

theorem op2 (h : Rg N x st W v3 v5 v6 v7 v8 v9 v10 v11 v12 v13 v14 v15 v16 v17 v18 v19 v20 v21 v22 v23 v24 v25 v26 v27 b0 b1 false b3 false b5 c1 c2 po pe a w) (hK : ∀ d, Rg N x st W v3 v5 v6 v7 v8 v9 v10 v11 v12 v13 v14 v15 v16 v17 v18 v19 v20 v21 v22 v23 v24 v25 v26 v27 b0 b1 true b3 false b5 c1 c2 w.heap.size pe (a.put (some 5) (.pointer (some ⟨w.heap.size, 0, none⟩))) ((w.at d).alloc (.cells #[.chan none] 205)) → K (a.put (some 5) (.pointer (some ⟨w.heap.size, 0, none⟩))) ((w.at d).alloc (.cells #[.chan none] 205))) :
    OpC Tryz.prog AtRel (DE E) 133 (rp 1) 2 K a w := by
  refine opC_some (o := { dst := some 5, op := Op.alloc 205, type := 0, pos := "sabbath.go:49", after := #[], guard := none }) (by rfl) (by rfl) fun w₁ h₁ => ?_
  obtain ⟨d, rfl⟩ := h₁
  have run : (execOp a.eval { dst := some 5, op := Op.alloc 205, type := 0, pos := "sabbath.go:49", after := #[], guard := none }).run Tryz.prog (w.at d) = .ok (.value (.pointer (some ⟨w.heap.size, 0, none⟩))) ((w.at d).alloc (.cells #[.chan none] 205)) := by
    simp [execOp, go_sem]
  have evs : (execOp a.eval { dst := some 5, op := Op.alloc 205, type := 0, pos := "sabbath.go:49", after := #[], guard := none }).events Tryz.prog (w.at d) #[] = #[] := by
    simp [execOp, go_sem]
  rw [run]
  refine ⟨by rw [listed_nil evs]; intro e he; simp at he, hK d ⟨?_, ?_, ?_, ?_, ?_, ?_, ?_, ?_, ?_⟩⟩
  · rw [h.tm]; simp [Act.put]
  · rw [push_size, h.size]; simp; try omega
  · intro b hb; rw [push_old (by have := h.pos_; omega)]; exact h.low b hb
  · exact h.rest
  all_goals try (first
    | exact fun hb => absurd hb (by decide)
    | exact fun hb => ⟨h.pos_, by rw [push_size]; omega, push_new⟩
    | (intro hb; obtain ⟨p1, p2, p3⟩ := h.k1 hb; exact ⟨p1, by rw [push_size]; omega, (push_old p2).trans p3⟩)
    | (intro hb; obtain ⟨p1, p2, p3⟩ := h.k2 hb; exact ⟨p1, by rw [push_size]; omega, (push_old p2).trans p3⟩)
    | (intro hb; obtain ⟨p1, p2, p3⟩ := h.o hb; exact ⟨p1, by rw [push_size]; omega, (push_old p2).trans (by simpa using p3)⟩)
    | (intro hb; obtain ⟨p1, p2, p3⟩ := h.e hb; exact ⟨p1, by rw [push_size]; omega, (push_old p2).trans (by simpa using p3)⟩))
  · obtain ⟨n1, n2, n3, n4, n5, n6⟩ := h.ne
    refine ⟨?_, ?_, ?_, ?_, ?_, ?_⟩ <;> intro i1 i2 <;> (first
      | exact absurd i1 (by decide) | exact absurd i2 (by decide)
      | exact n1 i1 i2 | exact n2 i1 i2 | exact n3 i1 i2 | exact n4 i1 i2 | exact n5 i1 i2 | exact n6 i1 i2
      | (have := (h.k1 i1).2.1; omega) | (have := (h.k1 i2).2.1; omega) | (have := (h.k2 i1).2.1; omega) | (have := (h.k2 i2).2.1; omega) | (have := (h.o i1).2.1; omega) | (have := (h.o i2).2.1; omega) | (have := (h.e i1).2.1; omega) | (have := (h.e i2).2.1; omega))

theorem op3 (h : Rg N x st W v3 v5 v6 v7 v8 v9 v10 v11 v12 v13 v14 v15 v16 v17 v18 v19 v20 v21 v22 v23 v24 v25 v26 v27 b0 b1 b2 false b4 false c1 c2 po pe a w) (hK : ∀ d, Rg N x st W v3 v5 v6 v7 v8 v9 v10 v11 v12 v13 v14 v15 v16 v17 v18 v19 v20 v21 v22 v23 v24 v25 v26 v27 b0 b1 b2 true b4 false c1 c2 po w.heap.size (a.put (some 6) (.pointer (some ⟨w.heap.size, 0, none⟩))) ((w.at d).alloc (.cells #[.chan none] 206)) → K (a.put (some 6) (.pointer (some ⟨w.heap.size, 0, none⟩))) ((w.at d).alloc (.cells #[.chan none] 206))) :
    OpC Tryz.prog AtRel (DE E) 133 (rp 1) 3 K a w := by
  refine opC_some (o := { dst := some 6, op := Op.alloc 206, type := 0, pos := "sabbath.go:49", after := #[], guard := none }) (by rfl) (by rfl) fun w₁ h₁ => ?_
  obtain ⟨d, rfl⟩ := h₁
  have run : (execOp a.eval { dst := some 6, op := Op.alloc 206, type := 0, pos := "sabbath.go:49", after := #[], guard := none }).run Tryz.prog (w.at d) = .ok (.value (.pointer (some ⟨w.heap.size, 0, none⟩))) ((w.at d).alloc (.cells #[.chan none] 206)) := by
    simp [execOp, go_sem]
  have evs : (execOp a.eval { dst := some 6, op := Op.alloc 206, type := 0, pos := "sabbath.go:49", after := #[], guard := none }).events Tryz.prog (w.at d) #[] = #[] := by
    simp [execOp, go_sem]
  rw [run]
  refine ⟨by rw [listed_nil evs]; intro e he; simp at he, hK d ⟨?_, ?_, ?_, ?_, ?_, ?_, ?_, ?_, ?_⟩⟩
  · rw [h.tm]; simp [Act.put]
  · rw [push_size, h.size]; simp; try omega
  · intro b hb; rw [push_old (by have := h.pos_; omega)]; exact h.low b hb
  · exact h.rest
  all_goals try (first
    | exact fun hb => absurd hb (by decide)
    | exact fun hb => ⟨h.pos_, by rw [push_size]; omega, push_new⟩
    | (intro hb; obtain ⟨p1, p2, p3⟩ := h.k1 hb; exact ⟨p1, by rw [push_size]; omega, (push_old p2).trans p3⟩)
    | (intro hb; obtain ⟨p1, p2, p3⟩ := h.k2 hb; exact ⟨p1, by rw [push_size]; omega, (push_old p2).trans p3⟩)
    | (intro hb; obtain ⟨p1, p2, p3⟩ := h.o hb; exact ⟨p1, by rw [push_size]; omega, (push_old p2).trans (by simpa using p3)⟩)
    | (intro hb; obtain ⟨p1, p2, p3⟩ := h.e hb; exact ⟨p1, by rw [push_size]; omega, (push_old p2).trans (by simpa using p3)⟩))
  · obtain ⟨n1, n2, n3, n4, n5, n6⟩ := h.ne
    refine ⟨?_, ?_, ?_, ?_, ?_, ?_⟩ <;> intro i1 i2 <;> (first
      | exact absurd i1 (by decide) | exact absurd i2 (by decide)
      | exact n1 i1 i2 | exact n2 i1 i2 | exact n3 i1 i2 | exact n4 i1 i2 | exact n5 i1 i2 | exact n6 i1 i2
      | (have := (h.k1 i1).2.1; omega) | (have := (h.k1 i2).2.1; omega) | (have := (h.k2 i1).2.1; omega) | (have := (h.k2 i2).2.1; omega) | (have := (h.o i1).2.1; omega) | (have := (h.o i2).2.1; omega) | (have := (h.e i1).2.1; omega) | (have := (h.e i2).2.1; omega))

theorem op4 (hok : ∀ a : Addr, N < a.block → a.block < N + 5 → E ⟨.cell a, true, false⟩) (h : Rg N x st W v3 v5 v6 v7 v8 v9 v10 v11 v12 v13 v14 v15 v16 v17 v18 v19 v20 v21 v22 v23 v24 v25 v26 v27 true b1 true true false false c1 c2 po pe a w) (hK : ∀ d, Rg N x st W v3 v5 v6 v7 v8 v9 v10 v11 v12 v13 v14 v15 v16 v17 v18 v19 v20 v21 v22 v23 v24 v25 v26 v27 true b1 true true true false c1 c2 po pe (a.put none undef) ((w.at d).setCell ⟨po, 0, none⟩ (.chan (some c1))) → K (a.put none undef) ((w.at d).setCell ⟨po, 0, none⟩ (.chan (some c1)))) :
    OpC Tryz.prog AtRel (DE E) 133 (rp 1) 4 K a w := by
  refine opC_some (o := (rp 1).getD 4 default) (by rfl) (by rfl) fun w₁ h₁ => ?_
  obtain ⟨d, rfl⟩ := h₁
  obtain ⟨p1, p2, p3⟩ := h.o rfl
  have hsz := h.size
  have hc : (w.at d).cell? ⟨po, 0, none⟩ = some (.chan none) := by
    unfold World.cell?
    rw [show (w.at d).heap = w.heap from rfl, p3]
    rfl
  have hz : (w.at d).frozen? ⟨po, 0, none⟩ = false := by
    unfold World.frozen?
    rw [show (w.at d).heap = w.heap from rfl, p3]
    rfl
  have e1 : a.eval (.tmp 5) = .pointer (some ⟨po, 0, none⟩) := by rw [h.tm]; rfl
  have e2 : a.eval (.tmp 10) = .chan (some c1) := by rw [h.tm]; rfl
  have e1' : a.tmps.getD 5 undef = .pointer (some ⟨po, 0, none⟩) := e1
  have e2' : a.tmps.getD 10 undef = .chan (some c1) := e2
  have hop : ((rp 1).getD 4 default).op = .store 205 (.tmp 5) (.tmp 10) := rfl
  have run : (execOp a.eval ((rp 1).getD 4 default)).run Tryz.prog (w.at d) = .ok .skip ((w.at d).setCell ⟨po, 0, none⟩ (.chan (some c1))) := by
    unfold execOp
    simp only [hop, e1, e2]
    simp [go_sem, stored, hc, hz]
  have evs : (execOp a.eval ((rp 1).getD 4 default)).events Tryz.prog (w.at d) #[] = #[⟨.cell ⟨po, 0, none⟩, true, false⟩] := by
    unfold execOp
    simp only [hop, e1, e2]
    simp [go_sem, storedEv, hc, hz]
  have hp : ∀ b, b ≠ po → ((w.at d).setCell ⟨po, 0, none⟩ (.chan (some c1))).heap[b]? = w.heap[b]? := fun b hb => by
    show (w.heap.modify po _)[b]? = _
    rw [Array.getElem?_modify, if_neg (fun e => hb e.symm)]
  have hn : ((w.at d).setCell ⟨po, 0, none⟩ (.chan (some c1))).heap[po]? = some (.cells #[.chan (some c1)] 205) := by
    show (w.heap.modify po _)[po]? = _
    rw [Array.getElem?_modify, if_pos rfl, p3]
    rfl
  have hs : ((w.at d).setCell ⟨po, 0, none⟩ (.chan (some c1))).heap.size = w.heap.size := by
    show (w.heap.modify po _).size = _
    rw [Array.size_modify]
  rw [run]
  refine ⟨fun e he => ?_, hK d ⟨h.tm, by rw [hs]; exact h.size, fun b hb => (hp b (by omega)).trans (h.low b hb), h.rest, ?_, ?_, ?_, ?_, h.ne⟩⟩
  · have := mem_listed he
    rw [evs] at this
    simp at this
    subst this
    exact hok _ (by simp; omega) (by simp at hsz ⊢; first | omega | (split at hsz <;> omega))
  · intro hb; obtain ⟨q1, q2, q3⟩ := h.k1 hb; exact ⟨q1, by rw [hs]; exact q2, (hp _ (h.ne.2.1 rfl rfl)).trans q3⟩
  · intro hb; obtain ⟨q1, q2, q3⟩ := h.k2 hb; exact ⟨q1, by rw [hs]; exact q2, (hp _ (h.ne.2.2.2.1 hb rfl)).trans q3⟩
  · intro hb; exact ⟨p1, by rw [hs]; exact p2, hn⟩
  · intro hb; obtain ⟨q1, q2, q3⟩ := h.e hb; exact ⟨q1, by rw [hs]; exact q2, (hp _ (Ne.symm (h.ne.2.2.2.2.2 rfl rfl))).trans q3⟩

theorem op5 (hok : ∀ a : Addr, N < a.block → a.block < N + 5 → E ⟨.cell a, true, false⟩) (h : Rg N x st W v3 v5 v6 v7 v8 v9 v10 v11 v12 v13 v14 v15 v16 v17 v18 v19 v20 v21 v22 v23 v24 v25 v26 v27 true true true true true false c1 c2 po pe a w) (hK : ∀ d, Rg N x st W v3 v5 v6 v7 v8 v9 v10 v11 v12 v13 v14 v15 v16 v17 v18 v19 v20 v21 v22 v23 v24 v25 v26 v27 true true true true true true c1 c2 po pe (a.put none undef) ((w.at d).setCell ⟨pe, 0, none⟩ (.chan (some c2))) → K (a.put none undef) ((w.at d).setCell ⟨pe, 0, none⟩ (.chan (some c2)))) :
    OpC Tryz.prog AtRel (DE E) 133 (rp 1) 5 K a w := by
  refine opC_some (o := (rp 1).getD 5 default) (by rfl) (by rfl) fun w₁ h₁ => ?_
  obtain ⟨d, rfl⟩ := h₁
  obtain ⟨p1, p2, p3⟩ := h.e rfl
  have hsz := h.size
  have hc : (w.at d).cell? ⟨pe, 0, none⟩ = some (.chan none) := by
    unfold World.cell?
    rw [show (w.at d).heap = w.heap from rfl, p3]
    rfl
  have hz : (w.at d).frozen? ⟨pe, 0, none⟩ = false := by
    unfold World.frozen?
    rw [show (w.at d).heap = w.heap from rfl, p3]
    rfl
  have e1 : a.eval (.tmp 6) = .pointer (some ⟨pe, 0, none⟩) := by rw [h.tm]; rfl
  have e2 : a.eval (.tmp 11) = .chan (some c2) := by rw [h.tm]; rfl
  have e1' : a.tmps.getD 6 undef = .pointer (some ⟨pe, 0, none⟩) := e1
  have e2' : a.tmps.getD 11 undef = .chan (some c2) := e2
  have hop : ((rp 1).getD 5 default).op = .store 206 (.tmp 6) (.tmp 11) := rfl
  have run : (execOp a.eval ((rp 1).getD 5 default)).run Tryz.prog (w.at d) = .ok .skip ((w.at d).setCell ⟨pe, 0, none⟩ (.chan (some c2))) := by
    unfold execOp
    simp only [hop, e1, e2]
    simp [go_sem, stored, hc, hz]
  have evs : (execOp a.eval ((rp 1).getD 5 default)).events Tryz.prog (w.at d) #[] = #[⟨.cell ⟨pe, 0, none⟩, true, false⟩] := by
    unfold execOp
    simp only [hop, e1, e2]
    simp [go_sem, storedEv, hc, hz]
  have hp : ∀ b, b ≠ pe → ((w.at d).setCell ⟨pe, 0, none⟩ (.chan (some c2))).heap[b]? = w.heap[b]? := fun b hb => by
    show (w.heap.modify pe _)[b]? = _
    rw [Array.getElem?_modify, if_neg (fun e => hb e.symm)]
  have hn : ((w.at d).setCell ⟨pe, 0, none⟩ (.chan (some c2))).heap[pe]? = some (.cells #[.chan (some c2)] 206) := by
    show (w.heap.modify pe _)[pe]? = _
    rw [Array.getElem?_modify, if_pos rfl, p3]
    rfl
  have hs : ((w.at d).setCell ⟨pe, 0, none⟩ (.chan (some c2))).heap.size = w.heap.size := by
    show (w.heap.modify pe _).size = _
    rw [Array.size_modify]
  rw [run]
  refine ⟨fun e he => ?_, hK d ⟨h.tm, by rw [hs]; exact h.size, fun b hb => (hp b (by omega)).trans (h.low b hb), h.rest, ?_, ?_, ?_, ?_, h.ne⟩⟩
  · have := mem_listed he
    rw [evs] at this
    simp at this
    subst this
    exact hok _ (by simp; omega) (by simp at hsz ⊢; first | omega | (split at hsz <;> omega))
  · intro hb; obtain ⟨q1, q2, q3⟩ := h.k1 hb; exact ⟨q1, by rw [hs]; exact q2, (hp _ (h.ne.2.2.1 rfl rfl)).trans q3⟩
  · intro hb; obtain ⟨q1, q2, q3⟩ := h.k2 hb; exact ⟨q1, by rw [hs]; exact q2, (hp _ (h.ne.2.2.2.2.1 rfl rfl)).trans q3⟩
  · intro hb; obtain ⟨q1, q2, q3⟩ := h.o hb; exact ⟨q1, by rw [hs]; exact q2, (hp _ (h.ne.2.2.2.2.2 rfl rfl)).trans q3⟩
  · intro hb; exact ⟨p1, by rw [hs]; exact p2, hn⟩
theorem st_111111 (hok : ∀ a : Addr, N < a.block → a.block < N + 5 → E ⟨.cell a, true, false⟩) {Q : Exit → Act → World → Prop} (hQ : ∀ c1 c2 po pe a w, Rg N x st W v3 v5 v6 v7 v8 v9 v10 v11 v12 v13 v14 v15 v16 v17 v18 v19 v20 v21 v22 v23 v24 v25 v26 v27 true true true true true true c1 c2 po pe a w → Q .normal a w) (h : Rg N x st W v3 v5 v6 v7 v8 v9 v10 v11 v12 v13 v14 v15 v16 v17 v18 v19 v20 v21 v22 v23 v24 v25 v26 v27 true true true true true true c1 c2 po pe a w) : AnyCH Tryz.prog AtRel (DE E) 133 .any (rp 1) Q (fun _ => True) 0 #[true, true, true, true, true, true] a w := by
  exact anyCH_done (by kernel_rfl) (hQ _ _ _ _ _ _ h) _
theorem st_111110 (hok : ∀ a : Addr, N < a.block → a.block < N + 5 → E ⟨.cell a, true, false⟩) {Q : Exit → Act → World → Prop} (hQ : ∀ c1 c2 po pe a w, Rg N x st W v3 v5 v6 v7 v8 v9 v10 v11 v12 v13 v14 v15 v16 v17 v18 v19 v20 v21 v22 v23 v24 v25 v26 v27 true true true true true true c1 c2 po pe a w → Q .normal a w) (h : Rg N x st W v3 v5 v6 v7 v8 v9 v10 v11 v12 v13 v14 v15 v16 v17 v18 v19 v20 v21 v22 v23 v24 v25 v26 v27 true true true true true false c1 c2 po pe a w) : AnyCH Tryz.prog AtRel (DE E) 133 .any (rp 1) Q (fun _ => True) 1 #[true, true, true, true, true, false] a w := by
  refine anyCH_all (rs := [5]) (by kernel_rfl) (by simp) fun i hi => ?_
  simp only [List.mem_cons, List.not_mem_nil, or_false] at hi
  subst hi
  · exact op5 hok h fun d h' => ⟨trivial, st_111111 hok hQ h'⟩
theorem st_101110 (hok : ∀ a : Addr, N < a.block → a.block < N + 5 → E ⟨.cell a, true, false⟩) {Q : Exit → Act → World → Prop} (hQ : ∀ c1 c2 po pe a w, Rg N x st W v3 v5 v6 v7 v8 v9 v10 v11 v12 v13 v14 v15 v16 v17 v18 v19 v20 v21 v22 v23 v24 v25 v26 v27 true true true true true true c1 c2 po pe a w → Q .normal a w) (h : Rg N x st W v3 v5 v6 v7 v8 v9 v10 v11 v12 v13 v14 v15 v16 v17 v18 v19 v20 v21 v22 v23 v24 v25 v26 v27 true false true true true false c1 c2 po pe a w) : AnyCH Tryz.prog AtRel (DE E) 133 .any (rp 1) Q (fun _ => True) 2 #[true, false, true, true, true, false] a w := by
  refine anyCH_all (rs := [1]) (by kernel_rfl) (by simp) fun i hi => ?_
  simp only [List.mem_cons, List.not_mem_nil, or_false] at hi
  subst hi
  · exact op1 h fun d h' => ⟨trivial, st_111110 hok hQ h'⟩
theorem st_111100 (hok : ∀ a : Addr, N < a.block → a.block < N + 5 → E ⟨.cell a, true, false⟩) {Q : Exit → Act → World → Prop} (hQ : ∀ c1 c2 po pe a w, Rg N x st W v3 v5 v6 v7 v8 v9 v10 v11 v12 v13 v14 v15 v16 v17 v18 v19 v20 v21 v22 v23 v24 v25 v26 v27 true true true true true true c1 c2 po pe a w → Q .normal a w) (h : Rg N x st W v3 v5 v6 v7 v8 v9 v10 v11 v12 v13 v14 v15 v16 v17 v18 v19 v20 v21 v22 v23 v24 v25 v26 v27 true true true true false false c1 c2 po pe a w) : AnyCH Tryz.prog AtRel (DE E) 133 .any (rp 1) Q (fun _ => True) 2 #[true, true, true, true, false, false] a w := by
  refine anyCH_all (rs := [4]) (by kernel_rfl) (by simp) fun i hi => ?_
  simp only [List.mem_cons, List.not_mem_nil, or_false] at hi
  subst hi
  · exact op4 hok h fun d h' => ⟨trivial, st_111110 hok hQ h'⟩
theorem st_011100 (hok : ∀ a : Addr, N < a.block → a.block < N + 5 → E ⟨.cell a, true, false⟩) {Q : Exit → Act → World → Prop} (hQ : ∀ c1 c2 po pe a w, Rg N x st W v3 v5 v6 v7 v8 v9 v10 v11 v12 v13 v14 v15 v16 v17 v18 v19 v20 v21 v22 v23 v24 v25 v26 v27 true true true true true true c1 c2 po pe a w → Q .normal a w) (h : Rg N x st W v3 v5 v6 v7 v8 v9 v10 v11 v12 v13 v14 v15 v16 v17 v18 v19 v20 v21 v22 v23 v24 v25 v26 v27 false true true true false false c1 c2 po pe a w) : AnyCH Tryz.prog AtRel (DE E) 133 .any (rp 1) Q (fun _ => True) 3 #[false, true, true, true, false, false] a w := by
  refine anyCH_all (rs := [0]) (by kernel_rfl) (by simp) fun i hi => ?_
  simp only [List.mem_cons, List.not_mem_nil, or_false] at hi
  subst hi
  · exact op0 h fun d h' => ⟨trivial, st_111100 hok hQ h'⟩
theorem st_101100 (hok : ∀ a : Addr, N < a.block → a.block < N + 5 → E ⟨.cell a, true, false⟩) {Q : Exit → Act → World → Prop} (hQ : ∀ c1 c2 po pe a w, Rg N x st W v3 v5 v6 v7 v8 v9 v10 v11 v12 v13 v14 v15 v16 v17 v18 v19 v20 v21 v22 v23 v24 v25 v26 v27 true true true true true true c1 c2 po pe a w → Q .normal a w) (h : Rg N x st W v3 v5 v6 v7 v8 v9 v10 v11 v12 v13 v14 v15 v16 v17 v18 v19 v20 v21 v22 v23 v24 v25 v26 v27 true false true true false false c1 c2 po pe a w) : AnyCH Tryz.prog AtRel (DE E) 133 .any (rp 1) Q (fun _ => True) 3 #[true, false, true, true, false, false] a w := by
  refine anyCH_all (rs := [1, 4]) (by kernel_rfl) (by simp) fun i hi => ?_
  simp only [List.mem_cons, List.not_mem_nil, or_false] at hi
  rcases hi with rfl | rfl
  · exact op1 h fun d h' => ⟨trivial, st_111100 hok hQ h'⟩
  · exact op4 hok h fun d h' => ⟨trivial, st_101110 hok hQ h'⟩
theorem st_110100 (hok : ∀ a : Addr, N < a.block → a.block < N + 5 → E ⟨.cell a, true, false⟩) {Q : Exit → Act → World → Prop} (hQ : ∀ c1 c2 po pe a w, Rg N x st W v3 v5 v6 v7 v8 v9 v10 v11 v12 v13 v14 v15 v16 v17 v18 v19 v20 v21 v22 v23 v24 v25 v26 v27 true true true true true true c1 c2 po pe a w → Q .normal a w) (h : Rg N x st W v3 v5 v6 v7 v8 v9 v10 v11 v12 v13 v14 v15 v16 v17 v18 v19 v20 v21 v22 v23 v24 v25 v26 v27 true true false true false false c1 c2 po pe a w) : AnyCH Tryz.prog AtRel (DE E) 133 .any (rp 1) Q (fun _ => True) 3 #[true, true, false, true, false, false] a w := by
  refine anyCH_all (rs := [2]) (by kernel_rfl) (by simp) fun i hi => ?_
  simp only [List.mem_cons, List.not_mem_nil, or_false] at hi
  subst hi
  · exact op2 h fun d h' => ⟨trivial, st_111100 hok hQ h'⟩
theorem st_111000 (hok : ∀ a : Addr, N < a.block → a.block < N + 5 → E ⟨.cell a, true, false⟩) {Q : Exit → Act → World → Prop} (hQ : ∀ c1 c2 po pe a w, Rg N x st W v3 v5 v6 v7 v8 v9 v10 v11 v12 v13 v14 v15 v16 v17 v18 v19 v20 v21 v22 v23 v24 v25 v26 v27 true true true true true true c1 c2 po pe a w → Q .normal a w) (h : Rg N x st W v3 v5 v6 v7 v8 v9 v10 v11 v12 v13 v14 v15 v16 v17 v18 v19 v20 v21 v22 v23 v24 v25 v26 v27 true true true false false false c1 c2 po pe a w) : AnyCH Tryz.prog AtRel (DE E) 133 .any (rp 1) Q (fun _ => True) 3 #[true, true, true, false, false, false] a w := by
  refine anyCH_all (rs := [3]) (by kernel_rfl) (by simp) fun i hi => ?_
  simp only [List.mem_cons, List.not_mem_nil, or_false] at hi
  subst hi
  · exact op3 h fun d h' => ⟨trivial, st_111100 hok hQ h'⟩
theorem st_001100 (hok : ∀ a : Addr, N < a.block → a.block < N + 5 → E ⟨.cell a, true, false⟩) {Q : Exit → Act → World → Prop} (hQ : ∀ c1 c2 po pe a w, Rg N x st W v3 v5 v6 v7 v8 v9 v10 v11 v12 v13 v14 v15 v16 v17 v18 v19 v20 v21 v22 v23 v24 v25 v26 v27 true true true true true true c1 c2 po pe a w → Q .normal a w) (h : Rg N x st W v3 v5 v6 v7 v8 v9 v10 v11 v12 v13 v14 v15 v16 v17 v18 v19 v20 v21 v22 v23 v24 v25 v26 v27 false false true true false false c1 c2 po pe a w) : AnyCH Tryz.prog AtRel (DE E) 133 .any (rp 1) Q (fun _ => True) 4 #[false, false, true, true, false, false] a w := by
  refine anyCH_all (rs := [0, 1]) (by kernel_rfl) (by simp) fun i hi => ?_
  simp only [List.mem_cons, List.not_mem_nil, or_false] at hi
  rcases hi with rfl | rfl
  · exact op0 h fun d h' => ⟨trivial, st_101100 hok hQ h'⟩
  · exact op1 h fun d h' => ⟨trivial, st_011100 hok hQ h'⟩
theorem st_010100 (hok : ∀ a : Addr, N < a.block → a.block < N + 5 → E ⟨.cell a, true, false⟩) {Q : Exit → Act → World → Prop} (hQ : ∀ c1 c2 po pe a w, Rg N x st W v3 v5 v6 v7 v8 v9 v10 v11 v12 v13 v14 v15 v16 v17 v18 v19 v20 v21 v22 v23 v24 v25 v26 v27 true true true true true true c1 c2 po pe a w → Q .normal a w) (h : Rg N x st W v3 v5 v6 v7 v8 v9 v10 v11 v12 v13 v14 v15 v16 v17 v18 v19 v20 v21 v22 v23 v24 v25 v26 v27 false true false true false false c1 c2 po pe a w) : AnyCH Tryz.prog AtRel (DE E) 133 .any (rp 1) Q (fun _ => True) 4 #[false, true, false, true, false, false] a w := by
  refine anyCH_all (rs := [0, 2]) (by kernel_rfl) (by simp) fun i hi => ?_
  simp only [List.mem_cons, List.not_mem_nil, or_false] at hi
  rcases hi with rfl | rfl
  · exact op0 h fun d h' => ⟨trivial, st_110100 hok hQ h'⟩
  · exact op2 h fun d h' => ⟨trivial, st_011100 hok hQ h'⟩
theorem st_011000 (hok : ∀ a : Addr, N < a.block → a.block < N + 5 → E ⟨.cell a, true, false⟩) {Q : Exit → Act → World → Prop} (hQ : ∀ c1 c2 po pe a w, Rg N x st W v3 v5 v6 v7 v8 v9 v10 v11 v12 v13 v14 v15 v16 v17 v18 v19 v20 v21 v22 v23 v24 v25 v26 v27 true true true true true true c1 c2 po pe a w → Q .normal a w) (h : Rg N x st W v3 v5 v6 v7 v8 v9 v10 v11 v12 v13 v14 v15 v16 v17 v18 v19 v20 v21 v22 v23 v24 v25 v26 v27 false true true false false false c1 c2 po pe a w) : AnyCH Tryz.prog AtRel (DE E) 133 .any (rp 1) Q (fun _ => True) 4 #[false, true, true, false, false, false] a w := by
  refine anyCH_all (rs := [0, 3]) (by kernel_rfl) (by simp) fun i hi => ?_
  simp only [List.mem_cons, List.not_mem_nil, or_false] at hi
  rcases hi with rfl | rfl
  · exact op0 h fun d h' => ⟨trivial, st_111000 hok hQ h'⟩
  · exact op3 h fun d h' => ⟨trivial, st_011100 hok hQ h'⟩
theorem st_100100 (hok : ∀ a : Addr, N < a.block → a.block < N + 5 → E ⟨.cell a, true, false⟩) {Q : Exit → Act → World → Prop} (hQ : ∀ c1 c2 po pe a w, Rg N x st W v3 v5 v6 v7 v8 v9 v10 v11 v12 v13 v14 v15 v16 v17 v18 v19 v20 v21 v22 v23 v24 v25 v26 v27 true true true true true true c1 c2 po pe a w → Q .normal a w) (h : Rg N x st W v3 v5 v6 v7 v8 v9 v10 v11 v12 v13 v14 v15 v16 v17 v18 v19 v20 v21 v22 v23 v24 v25 v26 v27 true false false true false false c1 c2 po pe a w) : AnyCH Tryz.prog AtRel (DE E) 133 .any (rp 1) Q (fun _ => True) 4 #[true, false, false, true, false, false] a w := by
  refine anyCH_all (rs := [1, 2]) (by kernel_rfl) (by simp) fun i hi => ?_
  simp only [List.mem_cons, List.not_mem_nil, or_false] at hi
  rcases hi with rfl | rfl
  · exact op1 h fun d h' => ⟨trivial, st_110100 hok hQ h'⟩
  · exact op2 h fun d h' => ⟨trivial, st_101100 hok hQ h'⟩
theorem st_101000 (hok : ∀ a : Addr, N < a.block → a.block < N + 5 → E ⟨.cell a, true, false⟩) {Q : Exit → Act → World → Prop} (hQ : ∀ c1 c2 po pe a w, Rg N x st W v3 v5 v6 v7 v8 v9 v10 v11 v12 v13 v14 v15 v16 v17 v18 v19 v20 v21 v22 v23 v24 v25 v26 v27 true true true true true true c1 c2 po pe a w → Q .normal a w) (h : Rg N x st W v3 v5 v6 v7 v8 v9 v10 v11 v12 v13 v14 v15 v16 v17 v18 v19 v20 v21 v22 v23 v24 v25 v26 v27 true false true false false false c1 c2 po pe a w) : AnyCH Tryz.prog AtRel (DE E) 133 .any (rp 1) Q (fun _ => True) 4 #[true, false, true, false, false, false] a w := by
  refine anyCH_all (rs := [1, 3]) (by kernel_rfl) (by simp) fun i hi => ?_
  simp only [List.mem_cons, List.not_mem_nil, or_false] at hi
  rcases hi with rfl | rfl
  · exact op1 h fun d h' => ⟨trivial, st_111000 hok hQ h'⟩
  · exact op3 h fun d h' => ⟨trivial, st_101100 hok hQ h'⟩
theorem st_110000 (hok : ∀ a : Addr, N < a.block → a.block < N + 5 → E ⟨.cell a, true, false⟩) {Q : Exit → Act → World → Prop} (hQ : ∀ c1 c2 po pe a w, Rg N x st W v3 v5 v6 v7 v8 v9 v10 v11 v12 v13 v14 v15 v16 v17 v18 v19 v20 v21 v22 v23 v24 v25 v26 v27 true true true true true true c1 c2 po pe a w → Q .normal a w) (h : Rg N x st W v3 v5 v6 v7 v8 v9 v10 v11 v12 v13 v14 v15 v16 v17 v18 v19 v20 v21 v22 v23 v24 v25 v26 v27 true true false false false false c1 c2 po pe a w) : AnyCH Tryz.prog AtRel (DE E) 133 .any (rp 1) Q (fun _ => True) 4 #[true, true, false, false, false, false] a w := by
  refine anyCH_all (rs := [2, 3]) (by kernel_rfl) (by simp) fun i hi => ?_
  simp only [List.mem_cons, List.not_mem_nil, or_false] at hi
  rcases hi with rfl | rfl
  · exact op2 h fun d h' => ⟨trivial, st_111000 hok hQ h'⟩
  · exact op3 h fun d h' => ⟨trivial, st_110100 hok hQ h'⟩
theorem st_000100 (hok : ∀ a : Addr, N < a.block → a.block < N + 5 → E ⟨.cell a, true, false⟩) {Q : Exit → Act → World → Prop} (hQ : ∀ c1 c2 po pe a w, Rg N x st W v3 v5 v6 v7 v8 v9 v10 v11 v12 v13 v14 v15 v16 v17 v18 v19 v20 v21 v22 v23 v24 v25 v26 v27 true true true true true true c1 c2 po pe a w → Q .normal a w) (h : Rg N x st W v3 v5 v6 v7 v8 v9 v10 v11 v12 v13 v14 v15 v16 v17 v18 v19 v20 v21 v22 v23 v24 v25 v26 v27 false false false true false false c1 c2 po pe a w) : AnyCH Tryz.prog AtRel (DE E) 133 .any (rp 1) Q (fun _ => True) 5 #[false, false, false, true, false, false] a w := by
  refine anyCH_all (rs := [0, 1, 2]) (by kernel_rfl) (by simp) fun i hi => ?_
  simp only [List.mem_cons, List.not_mem_nil, or_false] at hi
  rcases hi with rfl | rfl | rfl
  · exact op0 h fun d h' => ⟨trivial, st_100100 hok hQ h'⟩
  · exact op1 h fun d h' => ⟨trivial, st_010100 hok hQ h'⟩
  · exact op2 h fun d h' => ⟨trivial, st_001100 hok hQ h'⟩
theorem st_001000 (hok : ∀ a : Addr, N < a.block → a.block < N + 5 → E ⟨.cell a, true, false⟩) {Q : Exit → Act → World → Prop} (hQ : ∀ c1 c2 po pe a w, Rg N x st W v3 v5 v6 v7 v8 v9 v10 v11 v12 v13 v14 v15 v16 v17 v18 v19 v20 v21 v22 v23 v24 v25 v26 v27 true true true true true true c1 c2 po pe a w → Q .normal a w) (h : Rg N x st W v3 v5 v6 v7 v8 v9 v10 v11 v12 v13 v14 v15 v16 v17 v18 v19 v20 v21 v22 v23 v24 v25 v26 v27 false false true false false false c1 c2 po pe a w) : AnyCH Tryz.prog AtRel (DE E) 133 .any (rp 1) Q (fun _ => True) 5 #[false, false, true, false, false, false] a w := by
  refine anyCH_all (rs := [0, 1, 3]) (by kernel_rfl) (by simp) fun i hi => ?_
  simp only [List.mem_cons, List.not_mem_nil, or_false] at hi
  rcases hi with rfl | rfl | rfl
  · exact op0 h fun d h' => ⟨trivial, st_101000 hok hQ h'⟩
  · exact op1 h fun d h' => ⟨trivial, st_011000 hok hQ h'⟩
  · exact op3 h fun d h' => ⟨trivial, st_001100 hok hQ h'⟩
theorem st_010000 (hok : ∀ a : Addr, N < a.block → a.block < N + 5 → E ⟨.cell a, true, false⟩) {Q : Exit → Act → World → Prop} (hQ : ∀ c1 c2 po pe a w, Rg N x st W v3 v5 v6 v7 v8 v9 v10 v11 v12 v13 v14 v15 v16 v17 v18 v19 v20 v21 v22 v23 v24 v25 v26 v27 true true true true true true c1 c2 po pe a w → Q .normal a w) (h : Rg N x st W v3 v5 v6 v7 v8 v9 v10 v11 v12 v13 v14 v15 v16 v17 v18 v19 v20 v21 v22 v23 v24 v25 v26 v27 false true false false false false c1 c2 po pe a w) : AnyCH Tryz.prog AtRel (DE E) 133 .any (rp 1) Q (fun _ => True) 5 #[false, true, false, false, false, false] a w := by
  refine anyCH_all (rs := [0, 2, 3]) (by kernel_rfl) (by simp) fun i hi => ?_
  simp only [List.mem_cons, List.not_mem_nil, or_false] at hi
  rcases hi with rfl | rfl | rfl
  · exact op0 h fun d h' => ⟨trivial, st_110000 hok hQ h'⟩
  · exact op2 h fun d h' => ⟨trivial, st_011000 hok hQ h'⟩
  · exact op3 h fun d h' => ⟨trivial, st_010100 hok hQ h'⟩
theorem st_100000 (hok : ∀ a : Addr, N < a.block → a.block < N + 5 → E ⟨.cell a, true, false⟩) {Q : Exit → Act → World → Prop} (hQ : ∀ c1 c2 po pe a w, Rg N x st W v3 v5 v6 v7 v8 v9 v10 v11 v12 v13 v14 v15 v16 v17 v18 v19 v20 v21 v22 v23 v24 v25 v26 v27 true true true true true true c1 c2 po pe a w → Q .normal a w) (h : Rg N x st W v3 v5 v6 v7 v8 v9 v10 v11 v12 v13 v14 v15 v16 v17 v18 v19 v20 v21 v22 v23 v24 v25 v26 v27 true false false false false false c1 c2 po pe a w) : AnyCH Tryz.prog AtRel (DE E) 133 .any (rp 1) Q (fun _ => True) 5 #[true, false, false, false, false, false] a w := by
  refine anyCH_all (rs := [1, 2, 3]) (by kernel_rfl) (by simp) fun i hi => ?_
  simp only [List.mem_cons, List.not_mem_nil, or_false] at hi
  rcases hi with rfl | rfl | rfl
  · exact op1 h fun d h' => ⟨trivial, st_110000 hok hQ h'⟩
  · exact op2 h fun d h' => ⟨trivial, st_101000 hok hQ h'⟩
  · exact op3 h fun d h' => ⟨trivial, st_100100 hok hQ h'⟩
theorem st_000000 (hok : ∀ a : Addr, N < a.block → a.block < N + 5 → E ⟨.cell a, true, false⟩) {Q : Exit → Act → World → Prop} (hQ : ∀ c1 c2 po pe a w, Rg N x st W v3 v5 v6 v7 v8 v9 v10 v11 v12 v13 v14 v15 v16 v17 v18 v19 v20 v21 v22 v23 v24 v25 v26 v27 true true true true true true c1 c2 po pe a w → Q .normal a w) (h : Rg N x st W v3 v5 v6 v7 v8 v9 v10 v11 v12 v13 v14 v15 v16 v17 v18 v19 v20 v21 v22 v23 v24 v25 v26 v27 false false false false false false c1 c2 po pe a w) : AnyCH Tryz.prog AtRel (DE E) 133 .any (rp 1) Q (fun _ => True) 6 #[false, false, false, false, false, false] a w := by
  refine anyCH_all (rs := [0, 1, 2, 3]) (by kernel_rfl) (by simp) fun i hi => ?_
  simp only [List.mem_cons, List.not_mem_nil, or_false] at hi
  rcases hi with rfl | rfl | rfl | rfl
  · exact op0 h fun d h' => ⟨trivial, st_100000 hok hQ h'⟩
  · exact op1 h fun d h' => ⟨trivial, st_010000 hok hQ h'⟩
  · exact op2 h fun d h' => ⟨trivial, st_001000 hok hQ h'⟩
  · exact op3 h fun d h' => ⟨trivial, st_000100 hok hQ h'⟩
end
end
end Go.Proofs.YtegkbjpcgelomaaGreatDoor.Wk
end
/- sabbath.upto, goroutine 0: from its entry to the call of Add. -/
section
set_option maxRecDepth 100000
set_option maxHeartbeats 4000000
namespace Go.Proofs.YtegkbjpcgelomaaGreatDoor.Wk
open Go Go.Proofs Go.Conc Go.ConcX Go.ConcX.Gen Go.Conc.Lib Go.RowKit Go.Ph

/-- The world behind the allocations: w0 is the one that upto was entered in. -/
structure Mw (w0 : World) (c1 c2 po pe : Nat) (x : Int) (st6 : Int) (w : World) : Prop where
  pos : Pos w0.heap.size c1 c2 po pe
  size : w.heap.size = w0.heap.size + 6
  low : ∀ b, b < w0.heap.size → w.heap[b]? = w0.heap[b]?
  rest : w.tape = w0.tape ∧ w.os = w0.os ∧ w.output = w0.output
  full : w.heap[w0.heap.size]? = some (.cells #[.int .i64 x] 3)
  k1 : w.heap[c1]? = some (.chan 0 #[] false 0 0 false)
  k2 : w.heap[c2]? = some (.chan 0 #[] false 0 0 false)
  o : w.heap[po]? = some (.cells #[.chan (some c1)] 205)
  e : w.heap[pe]? = some (.cells #[.chan (some c2)] 206)
  wg : WgAt 214 (w0.heap.size + 5) w st6 0
theorem Mw.at {w0 w w' : World} {c1 c2 po pe : Nat} {x st6 : Int} (h : Mw w0 c1 c2 po pe x st6 w) (r : AtRel w w') : Mw w0 c1 c2 po pe x st6 w' := by
  obtain ⟨d, rfl⟩ := r
  exact ⟨h.pos, h.size, h.low, h.rest, h.full, h.k1, h.k2, h.o, h.e, h.wg⟩
theorem Rg.at {N : Nat} {x st : Int} {W : World} {v3 v5 v6 v7 v8 v9 v10 v11 v12 v13 v14 v15 v16 v17 v18 v19 v20 v21 v22 v23 v24 v25 v26 v27 : Value} {b0 b1 b2 b3 b4 b5 : Bool} {c1 c2 po pe : Nat} {a : Act} {w w' : World}
    (h : Rg N x st W v3 v5 v6 v7 v8 v9 v10 v11 v12 v13 v14 v15 v16 v17 v18 v19 v20 v21 v22 v23 v24 v25 v26 v27 b0 b1 b2 b3 b4 b5 c1 c2 po pe a w) (r : AtRel w w') : Rg N x st W v3 v5 v6 v7 v8 v9 v10 v11 v12 v13 v14 v15 v16 v17 v18 v19 v20 v21 v22 v23 v24 v25 v26 v27 b0 b1 b2 b3 b4 b5 c1 c2 po pe a w' := by
  obtain ⟨d, rfl⟩ := r
  exact ⟨h.tm, h.size, h.low, h.rest, h.k1, h.k2, h.o, h.e, h.ne⟩
section
variable {w0 : World} {c1 c2 po pe : Nat} {x st : Int} {cs : List Frame} {E : Event → Prop}
variable {v2 v3 v4 v5 v6 v7 v8 v9 v10 v11 v12 v13 v14 v15 v16 v17 v18 v19 v20 v21 v22 v23 v24 v25 v26 v27 : Value}
variable (w0 c1 c2 po pe x st cs v3 v8 v9 v12 v13 v14 v15 v16 v17 v18 v19 v20 v21 v22 v23 v24 v25 v26 v27) in
/-- Ahead of the call of Add. -/
noncomputable def addG : Goroutine := G ((base 133).at ⟨#[.int .i64 x, .int .i64 st, .pointer (some ⟨w0.heap.size, 0, none⟩), v3, .slice none 0 0, .pointer (some ⟨po, 0, none⟩), .pointer (some ⟨pe, 0, none⟩), .pointer (some ⟨w0.heap.size + 5, 0, none⟩), v8, v9, .chan (some c1), .chan (some c2), v12, v13, v14, v15, v16, v17, v18, v19, v20, v21, v22, v23, v24, v25, v26, v27], []⟩
  (.inRegion (rp 3) (0 :: []) :: .code (kp 4) :: [])) cs
theorem p_first (hok : ∀ a : Addr, w0.heap.size < a.block → a.block < w0.heap.size + 5 → E ⟨.cell a, true, false⟩) :
    Goes Tryz.prog true AtRel (DE E) (fun g w => ∃ c1 c2 po pe, Mw w0 c1 c2 po pe x 0 w ∧ g = addG w0 c1 c2 po pe x st cs v3 v8 v9 v12 v13 v14 v15 v16 v17 v18 v19 v20 v21 v22 v23 v24 v25 v26 v27) (6 + 8 + 6)
      (G ((base 133).at ⟨#[.int .i64 x, .int .i64 st, v2, v3, v4, v5, v6, v7, v8, v9, v10, v11, v12, v13, v14, v15, v16, v17, v18, v19, v20, v21, v22, v23, v24, v25, v26, v27], []⟩ [.code bodyP]) cs) w0 := by
  simp only [bodyP, Tryz.f133, Option.getD_some]
  have rl : ∀ {w w' : World}, AtRel w0 w → AtRel w w' → AtRel w0 w' := fun h r => atRel_trans _ _ _ h r
  have hF : AtRel w0 w0 := atRel_refl _
  refine Goes.step rfl (fun _ h₁ => ?_); replace hF := rl hF h₁; clear h₁; rw [stepG_seq]; simp only [goes_go]; refine ⟨(by first | exact (fun e he => absurd he (by simp)) | exact ⟨⟨_, rfl⟩, by simp⟩ | exact ⟨fun _ _ _ => rfl, by simp⟩ | exact ⟨fun _ _ => rfl, by simp⟩ | exact ⟨Aside.refl _ _, by simp⟩), ?_⟩
  refine Goes.step rfl (fun _ h₁ => ?_); replace hF := rl hF h₁; clear h₁; rw [stepG_region]; simp only [goes_go, List.size_toArray, List.length_cons, List.length_nil, Nat.reduceAdd, Nat.zero_add, List.range, List.range.loop]; refine ⟨(by first | exact (fun e he => absurd he (by simp)) | exact ⟨⟨_, rfl⟩, by simp⟩ | exact ⟨fun _ _ _ => rfl, by simp⟩ | exact ⟨fun _ _ => rfl, by simp⟩ | exact ⟨Aside.refl _ _, by simp⟩), ?_⟩
  refine Goes.step rfl (fun w₁ h₁ => ?_)
  replace hF := rl hF h₁
  clear h₁
  obtain ⟨d, hd⟩ := hF
  subst hd
  refine goes_oper_k rfl rfl (by k_ne) (fun K hK => ?_)
  go_simp
  refine hK _ _ ⟨by rw [listed_nil (by simp [go_sem])]; exact (by first | exact (fun e he => absurd he (by simp)) | exact ⟨⟨_, rfl⟩, by simp⟩ | exact ⟨fun _ _ _ => rfl, by simp⟩ | exact ⟨fun _ _ => rfl, by simp⟩ | exact ⟨Aside.refl _ _, by simp⟩), ?_⟩
  clear hK K
  try walk_nrm
  clear rl
  have hF : Rg w0.heap.size x st (w0.alloc (.cells #[.int .i64 x] 3)) v3 v5 v6 v7 v8 v9 v10 v11 v12 v13 v14 v15 v16 v17 v18 v19 v20 v21 v22 v23 v24 v25 v26 v27 false false false false false false 0 0 0 0
      ⟨#[.int .i64 x, .int .i64 st, .pointer (some ⟨w0.heap.size, 0, none⟩), v3, .slice none 0 0, v5, v6, v7, v8, v9, v10, v11, v12, v13, v14, v15, v16, v17, v18, v19, v20, v21, v22, v23, v24, v25, v26, v27], []⟩ ((w0.at d).alloc (.cells #[.int .i64 x] 3)) := by
    refine ⟨rfl, ?_, fun _ _ => rfl, ⟨rfl, rfl, rfl⟩, ?_, ?_, ?_, ?_, ?_, ?_, ?_, ?_, ?_, ?_⟩
    · rw [push_size]; rfl
    all_goals first | exact fun h => absurd h (by decide) | exact fun h _ => absurd h (by decide)
  have rl := fun {w w' : World} (h : Rg w0.heap.size x st (w0.alloc (.cells #[.int .i64 x] 3)) v3 v5 v6 v7 v8 v9 v10 v11 v12 v13 v14 v15 v16 v17 v18 v19 v20 v21 v22 v23 v24 v25 v26 v27 false false false false false false 0 0 0 0
      ⟨#[.int .i64 x, .int .i64 st, .pointer (some ⟨w0.heap.size, 0, none⟩), v3, .slice none 0 0, v5, v6, v7, v8, v9, v10, v11, v12, v13, v14, v15, v16, v17, v18, v19, v20, v21, v22, v23, v24, v25, v26, v27], []⟩ w) (r : AtRel w w') => h.at r
  refine Goes.step rfl (fun _ h₁ => ?_); replace hF := rl hF h₁; clear h₁; refine goes_oper_k rfl rfl (by k_ne) (fun K hK => ?_); go_simp; refine hK _ _ ⟨by rw [show listed _ _ _ _ _ = #[] from listed_nil (by simp [go_sem, *])]; exact (by first | exact (fun e he => absurd he (by simp)) | exact ⟨⟨_, rfl⟩, by simp⟩ | exact ⟨fun _ _ _ => rfl, by simp⟩ | exact ⟨fun _ _ => rfl, by simp⟩ | exact ⟨Aside.refl _ _, by simp⟩), ?_⟩; clear hK K; try walk_nrm
  refine Goes.step rfl (fun _ h₁ => ?_); replace hF := rl hF h₁; clear h₁; rw [stepG_region_end]; simp only [goes_go]; refine ⟨(by first | exact (fun e he => absurd he (by simp)) | exact ⟨⟨_, rfl⟩, by simp⟩ | exact ⟨fun _ _ _ => rfl, by simp⟩ | exact ⟨fun _ _ => rfl, by simp⟩ | exact ⟨Aside.refl _ _, by simp⟩), ?_⟩
  refine Goes.step rfl (fun _ h₁ => ?_); replace hF := rl hF h₁; clear h₁; rw [stepG_seq]; simp only [goes_go]; refine ⟨(by first | exact (fun e he => absurd he (by simp)) | exact ⟨⟨_, rfl⟩, by simp⟩ | exact ⟨fun _ _ _ => rfl, by simp⟩ | exact ⟨fun _ _ => rfl, by simp⟩ | exact ⟨Aside.refl _ _, by simp⟩), ?_⟩
  refine wpC_goes (n := 8) (m := 6) (Q := fun e a w => e = .normal ∧ ∃ c1 c2 po pe, Rg w0.heap.size x st (w0.alloc (.cells #[.int .i64 x] 3)) v3 v5 v6 v7 v8 v9 v10 v11 v12 v13 v14 v15 v16 v17 v18 v19 v20 v21 v22 v23 v24 v25 v26 v27 true true true true true true c1 c2 po pe a w) ?_ rfl (by k_ne) ?_
  · refine wpC_region_held (S := fun _ => True) (termsS E) (drawS E) mixedP fun w₁ h₁ => ?_
    have h2 := (hF.at h₁).at (w' := { w₁ with drawn := w₁.drawn + 1 }) ⟨_, rfl⟩
    exact st_000000 hok (fun c1 c2 po pe a w h => ⟨rfl, c1, c2, po, pe, h⟩) h2
  · rintro e a w ⟨rfl, c1, c2, po, pe, hR⟩
    obtain ⟨htm, hsz, hlow, hrest, hk1, hk2, ho, he, hne⟩ := id hR
    subst htm
    have rl := fun {w w' : World} (h : Rg w0.heap.size x st (w0.alloc (.cells #[.int .i64 x] 3)) v3 v5 v6 v7 v8 v9 v10 v11 v12 v13 v14 v15 v16 v17 v18 v19 v20 v21 v22 v23 v24 v25 v26 v27 true true true true true true c1 c2 po pe
      ⟨#[.int .i64 x, .int .i64 st, .pointer (some ⟨w0.heap.size, 0, none⟩), v3, .slice none 0 0, .pointer (some ⟨po, 0, none⟩), .pointer (some ⟨pe, 0, none⟩), v7, v8, v9, .chan (some c1), .chan (some c2), v12, v13, v14, v15, v16, v17, v18, v19, v20, v21, v22, v23, v24, v25, v26, v27], []⟩ w) (r : AtRel w w') => h.at r
    have hF := hR
    clear hR
    simp only [if_true, ↓reduceIte] at hF ⊢
    show Goes _ _ _ _ _ _ _ _
    refine Goes.step rfl (fun _ h₁ => ?_); replace hF := rl hF h₁; clear h₁; rw [stepG_seq]; simp only [goes_go]; refine ⟨(by first | exact (fun e he => absurd he (by simp)) | exact ⟨⟨_, rfl⟩, by simp⟩ | exact ⟨fun _ _ _ => rfl, by simp⟩ | exact ⟨fun _ _ => rfl, by simp⟩ | exact ⟨Aside.refl _ _, by simp⟩), ?_⟩
    refine Goes.step rfl (fun _ h₁ => ?_); replace hF := rl hF h₁; clear h₁; rw [stepG_region]; simp only [goes_go, List.size_toArray, List.length_cons, List.length_nil, Nat.reduceAdd, Nat.zero_add, List.range, List.range.loop]; refine ⟨(by first | exact (fun e he => absurd he (by simp)) | exact ⟨⟨_, rfl⟩, by simp⟩ | exact ⟨fun _ _ _ => rfl, by simp⟩ | exact ⟨fun _ _ => rfl, by simp⟩ | exact ⟨Aside.refl _ _, by simp⟩), ?_⟩
    refine Goes.step rfl (fun w₁ h₁ => ?_)
    replace hF := hF.at h₁
    clear h₁ rl hsz hlow hrest hk1 hk2 ho he hne
    refine goes_oper_k rfl rfl (by k_ne) (fun K hK => ?_)
    go_simp
    refine hK _ _ ⟨by rw [listed_nil (by simp [go_sem])]; exact (by first | exact (fun e he => absurd he (by simp)) | exact ⟨⟨_, rfl⟩, by simp⟩ | exact ⟨fun _ _ _ => rfl, by simp⟩ | exact ⟨fun _ _ => rfl, by simp⟩ | exact ⟨Aside.refl _ _, by simp⟩), ?_⟩
    clear hK K
    try walk_nrm
    have hs := hF.size
    simp at hs
    have hM : Mw w0 c1 c2 po pe x 0 (w₁.alloc (.cells #[.int .u64 0, .int .u32 0] 214)) := by
      obtain ⟨htm, -, hlow, hrest, hk1, hk2, ho, he, hne⟩ := hF
      obtain ⟨q1, q2, q3⟩ := hk1 rfl
      obtain ⟨r1, r2, r3⟩ := hk2 rfl
      obtain ⟨s1, s2, s3⟩ := ho rfl
      obtain ⟨t1, t2, t3⟩ := he rfl
      have old : ∀ b, b < w₁.heap.size → (w₁.alloc (.cells #[.int .u64 0, .int .u32 0] 214)).heap[b]? = w₁.heap[b]? := fun b hb => by
        show (w₁.heap.push _)[b]? = _
        rw [Array.getElem?_push, if_neg (by omega)]
      refine ⟨⟨⟨q1, by omega⟩, ⟨r1, by omega⟩, ⟨s1, by omega⟩, ⟨t1, by omega⟩, ⟨hne.1 rfl rfl, hne.2.1 rfl rfl, hne.2.2.1 rfl rfl, hne.2.2.2.1 rfl rfl, hne.2.2.2.2.1 rfl rfl, hne.2.2.2.2.2 rfl rfl⟩⟩, ?_, fun b hb => ?_, hrest, ?_, (old _ q2).trans q3, (old _ r2).trans r3, (old _ s2).trans (by simpa using s3), (old _ t2).trans (by simpa using t3), ?_⟩
      · show (w₁.heap.push _).size = _
        rw [Array.size_push]; omega
      · rw [old b (by omega), hlow b (by omega)]
        show (w0.heap.push _)[b]? = _
        rw [Array.getElem?_push, if_neg (by omega)]
      · rw [old _ (by omega), hlow _ (Nat.le_refl _)]
        show (w0.heap.push _)[w0.heap.size]? = _
        rw [Array.getElem?_push, if_pos rfl]
      · unfold WgAt
        show (w₁.heap.push _)[w0.heap.size + 5]? = _
        rw [Array.getElem?_push, if_pos (by omega)]
        rfl
    rw [show w₁.heap.size = w0.heap.size + 5 by omega]
    have rl := fun {w w' : World} (h : Mw w0 c1 c2 po pe x 0 w) (r : AtRel w w') => h.at r
    clear hF hs
    have hF := hM
    clear hM
    refine Goes.step rfl (fun _ h₁ => ?_); replace hF := rl hF h₁; clear h₁; rw [stepG_region_end]; simp only [goes_go]; refine ⟨(by first | exact (fun e he => absurd he (by simp)) | exact ⟨⟨_, rfl⟩, by simp⟩ | exact ⟨fun _ _ _ => rfl, by simp⟩ | exact ⟨fun _ _ => rfl, by simp⟩ | exact ⟨Aside.refl _ _, by simp⟩), ?_⟩
    refine Goes.step rfl (fun _ h₁ => ?_); replace hF := rl hF h₁; clear h₁; rw [stepG_seq]; simp only [goes_go]; refine ⟨(by first | exact (fun e he => absurd he (by simp)) | exact ⟨⟨_, rfl⟩, by simp⟩ | exact ⟨fun _ _ _ => rfl, by simp⟩ | exact ⟨fun _ _ => rfl, by simp⟩ | exact ⟨Aside.refl _ _, by simp⟩), ?_⟩
    refine Goes.step rfl (fun _ h₁ => ?_); replace hF := rl hF h₁; clear h₁; rw [stepG_region]; simp only [goes_go, List.size_toArray, List.length_cons, List.length_nil, Nat.reduceAdd, Nat.zero_add, List.range, List.range.loop]; refine ⟨(by first | exact (fun e he => absurd he (by simp)) | exact ⟨⟨_, rfl⟩, by simp⟩ | exact ⟨fun _ _ _ => rfl, by simp⟩ | exact ⟨fun _ _ => rfl, by simp⟩ | exact ⟨Aside.refl _ _, by simp⟩), ?_⟩
    refine Goes.stop fun w₂ r₂ => ⟨c1, c2, po, pe, hF.at r₂, rfl⟩
end
end Go.Proofs.YtegkbjpcgelomaaGreatDoor.Wk
end
/- buildSlice and append, in the lone run and in the true machine. -/
section
set_option maxRecDepth 100000
namespace Go.Proofs.YtegkbjpcgelomaaGreatDoor.Wk
open Go Go.Proofs Go.Conc Go.ConcX Go.ConcX.Gen Go.Conc.Lib Go.RowKit Go.Ph Go.Sim

/-- What goroutine 0 lists there. -/
def EvMain (H : HSet) (n : Nat) (e : Event) : Prop := (∃ a wr, e = ⟨.cell a, wr, false⟩ ∧ ¬ H a.block ∧ a.block < n) ∨ ∃ m, e = ⟨.mark m, false, true⟩ ∧ (m = .noRoom ∨ ∃ f, m = .extern f)
theorem evMain_of {H : HSet} {n : Nat} {e : Event} (h : EvOk H n e) (k : EvP #[] e) : EvMain H n e := by
  rcases k with k | ⟨a, wr, rfl⟩ | ⟨m, rfl⟩
  · exact absurd k (by simp)
  · exact .inl ⟨a, wr, rfl, h.1, h.2⟩
  · exact .inr ⟨m, rfl, h⟩
section
variable {T : Frame → List Frame → World → Prop} {c : Frame} {xs : List Frame} {v w : World} {H : HSet}
theorem twin {s : Sem Value} (hf : Fine0 Tryq.prog Tryz.prog s) (hp : Pl Tryz.prog 1 s) (hd : Hid H (re v w.tape w.drawn) w) (ha : ∀ {h : Halt} {v' : World}, s.run Tryq.prog (re v w.tape w.drawn) = .halt h v' → ¬ Dead h) :
    ∃ y u1 w1, s.run Tryq.prog (re v w.tape w.drawn) = .ok y u1 ∧ s.run Tryz.prog w = .ok y w1 ∧ Hid H u1 w1 ∧ w.heap.size ≤ w1.heap.size ∧ w1.heap.size ≤ w.heap.size + 1 ∧ (∀ e ∈ s.events Tryz.prog w #[], EvMain H w1.heap.size e) ∧ ∀ b, H b → w1.heap[b]? = w.heap[b]? := by
  rcases Fine0.lock lay_wf hf (re v w.tape w.drawn) w #[] hd with ⟨y, u1, w1, es, r1, r2, h', sz, ev, st⟩ | ⟨h, v', r, d⟩
  · have r3 := Sem.runT_eq (p := Tryz.prog) s w #[]
    rw [r2] at r3
    simp only [Prod.mk.injEq] at r3
    obtain ⟨q1, q2⟩ := pl_run hp r2
    refine ⟨y, u1, w1, r1, r3.1.symm, h', sz, q1, fun e he => ?_, st⟩
    rw [← r3.2] at he
    exact evMain_of ((ev e he).elim (fun x => absurd x (by simp)) id) (q2 e he)
  · exact absurd d (ha r)
theorem twin_bsl (hG : Goal Tryq.prog T) (hxs : ∀ x ∈ c :: xs, x.defers = []) {t : Array Value} {n : Int} (h9 : t[9]? = some (.int .i64 n)) (hW : Wf Tryq.prog T (at_ t kB) (c :: xs) v) (hd : Hid H (re v w.tape w.drawn) w) :
    ∃ y u1 w1, (Instr.buildSlice 70 1 #[(0, .int .i64 n)]).run Tryq.prog (re v w.tape w.drawn) = .ok y u1 ∧ (Instr.buildSlice 70 1 #[(0, .int .i64 n)]).run Tryz.prog w = .ok y w1 ∧ Hid H u1 w1 ∧ w.heap.size ≤ w1.heap.size ∧ w1.heap.size ≤ w.heap.size + 1 ∧ (∀ e ∈ (Instr.buildSlice 70 1 #[(0, .int .i64 n)]).events Tryz.prog w #[], EvMain H w1.heap.size e) ∧ ∀ b, H b → w1.heap[b]? = w.heap[b]? :=
  twin (fine_buildSlice _ _ _) (pl_buildSlice _ _ _) hd fun r => bsl_alive hG hxs h9 (hW.at_re hG w.tape w.drawn) r
theorem twin_app (hG : Goal Tryq.prog T) (hxs : ∀ x ∈ c :: xs, x.defers = []) {t : Array Value} {s bs : Value} (h8 : t[8]? = some s) (h23 : t[23]? = some bs) (hW : Wf Tryq.prog T (at_ t kA) (c :: xs) v) (hd : Hid H (re v w.tape w.drawn) w) :
    ∃ y u1 w1, (Builtin.append_ #[70, 70] 70 #[s, bs]).run Tryq.prog (re v w.tape w.drawn) = .ok y u1 ∧ (Builtin.append_ #[70, 70] 70 #[s, bs]).run Tryz.prog w = .ok y w1 ∧ Hid H u1 w1 ∧ w.heap.size ≤ w1.heap.size ∧ w1.heap.size ≤ w.heap.size + 1 ∧ (∀ e ∈ (Builtin.append_ #[70, 70] 70 #[s, bs]).events Tryz.prog w #[], EvMain H w1.heap.size e) ∧ ∀ b, H b → w1.heap[b]? = w.heap[b]? :=
  twin (fine_append _ _ _) (pl_append Tryz.underlying70 _ _ _) hd fun r => app_alive hG hxs h8 h23 (hW.at_re hG w.tape w.drawn) r
/-- The hidden blocks may turn, if they stay what they may be. -/
theorem hid_turn {v w w' : World} (h : Hid H (re v w.tape w.drawn) w) (ht : w'.tape = w.tape) (ho : w'.os = w.os) (hu : w'.output = w.output) (hs : w'.heap.size = w.heap.size) (hb : ∀ b, ¬ H b → w'.heap[b]? = w.heap[b]?) (hh : ∀ b, H b → ∃ o, w'.heap[b]? = some o ∧ HidObj o ∧ (b < H.n → H.o b = some o)) : Hid H (re v w'.tape w'.drawn) w' := by
  refine ⟨rfl, rfl, ?_, ?_, ?_, fun b n => ?_, fun b n => ⟨(h.hid b n).1, hh b n⟩, by rw [hs]; exact h.low, h.ok⟩
  · rw [ho]; exact h.os
  · rw [hu]; exact h.output
  · rw [hs]; exact h.size
  · rw [hb b n]; exact h.same b n
theorem hid_at {v w w' : World} (h : Hid H (re v w.tape w.drawn) w) (r : AtRel w w') : Hid H (re v w'.tape w'.drawn) w' := by
  obtain ⟨d, rfl⟩ := r
  exact hid_turn h rfl rfl rfl rfl (fun _ _ => rfl) fun b hb => (h.hid b hb).2
theorem hid_re {u w : World} (h : Hid H u w) : Hid H (re u w.tape w.drawn) w := by rw [re_of_hid h]; exact h
end
end Go.Proofs.YtegkbjpcgelomaaGreatDoor.Wk
end
