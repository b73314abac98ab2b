/- The two programs fit. -/
import Derived.Test.YtegkbjpcgelomaaGreatDoorZ7
import Derived.Test.YtegkbjpcgelomaaGreatDoorZ3
import Derived.Test.YtegkbjpcgelomaaGreatDoorZ5
set_option linter.unusedVariables false
set_option linter.unusedSimpArgs false
section
set_option maxRecDepth 20000
namespace Go.Proofs.YtegkbjpcgelomaaGreatDoor.Wk
open Go Go.Proofs Go.Sim

def stand (k : FuncId) : Prop := k = 133 ∨ k = 126
theorem fine_noZero {P : Program} {fs : Array Func} (ps rs : Array TypeId) (a : Array Value) : Fine0 (wf P fs) P (Extern.BytealgMakeNoZero.makeNoZero ps rs a) := by
  have main : ∀ k n, Fine0 (wf P fs) P (Extern.BytealgMakeNoZero.makeNoZero ps rs #[.int k n]) := fun k n => by
    unfold Extern.BytealgMakeNoZero.makeNoZero
    cases k
    case i64 =>
      cases rs[0]? with
      | none => exact fine_stuck _
      | some t =>
        refine fine_bind (fine_under _) fun u => ?_
        cases u
        case slice e =>
          refine fine_ite (fine_bind (fine_rtPanic _) fun _ => ?_) ?_
          all_goals exact fine_bind (fine_choose _) fun c => fine_bind (fine_askRoom _) fun _ => fine_bind (fine_choose _) fun b => fine_bind (fine_row _ _) fun r => fine_pure _
        all_goals exact fine_stuck _
    all_goals exact fine_stuck _
  rcases a with ⟨_ | ⟨y, _ | ⟨z, l⟩⟩⟩
  · exact fine_stuck _
  · cases y
    case int k n => exact main k n
    all_goals exact fine_stuck _
  · cases y
    case int k n => cases k <;> exact fine_stuck _
    all_goals exact fine_stuck _
noncomputable def okFn (k : Nat) (f : Func) : Bool := !(f.name == "runtime.NumGoroutine") && (match f.body with | some c => okCode Tryz.prog c | none => k == 150)
noncomputable def okAll : Bool := (List.range Tryz.prog.funcs.size).all fun k => Tryq.own k || (match Tryz.prog.funcs[k]? with | some f => okFn k f | none => true)
theorem okAll_eq : okAll = true := by kernel_rfl
theorem ok_at {k : Nat} {f : Func} (h : Tryz.prog.funcs[k]? = some f) (ho : Tryq.own k = false) : okFn k f = true := by
  have hk : k < Tryz.prog.funcs.size := (Array.getElem?_eq_some_iff.1 h).1
  have := List.all_eq_true.1 okAll_eq k (List.mem_range.2 hk)
  rw [ho, h] at this
  simpa using this
theorem find150 : Extern.findNext Tryz.f150 = none ∧ Extern.find Tryz.f150 = some (Extern.BytealgMakeNoZero.makeNoZero Tryz.f150.params Tryz.f150.resultTypes) := ⟨by kernel_rfl, by kernel_rfl⟩
theorem own_of {k : Nat} (h1 : ¬ k = 133) (h2 : ¬ k = 126) (h3 : ¬ Tryq.bad k = true) : Tryq.own k = false := by
  unfold Tryq.own
  simp only [Bool.or_eq_false_iff, beq_eq_false_iff_ne, ne_eq]
  exact ⟨⟨h1, h2⟩, by simpa using h3⟩
theorem body_up : Tryz.f133.body.isSome = true := by kernel_rfl
theorem body_cc : Tryz.f126.body.isSome = true := by kernel_rfl
theorem pair : Pair Tryq.prog Tryz.prog stand where
  lay := lay_wf
  fns := by
    intro f fn h
    rw [Tryq.get] at h
    obtain ⟨g, hg, rfl⟩ := Option.map_eq_some_iff.1 h
    by_cases h1 : f = 133
    · subst h1
      exact ⟨by kernel_rfl, .inl ⟨_, rfl, code_of (by kernel_rfl), .inr (.inl (.inl rfl))⟩⟩
    by_cases h2 : f = 126
    · subst h2
      exact ⟨by kernel_rfl, .inl ⟨_, rfl, code_of (by kernel_rfl), .inr (.inl (.inr rfl))⟩⟩
    by_cases h3 : Tryq.bad f = true
    · rw [if_neg h1, if_neg h2, if_pos h3]
      exact ⟨by kernel_rfl, .inl ⟨_, rfl, trivial, .inr (.inr ⟨_, rfl⟩)⟩⟩
    · rw [if_neg h1, if_neg h2, if_neg h3]
      have k := ok_at hg (own_of h1 h2 h3)
      unfold okFn at k
      simp only [Bool.and_eq_true, Bool.not_eq_true'] at k
      refine ⟨k.1, ?_⟩
      cases hb : g.body with
      | some c =>
        rw [hb] at k
        exact .inl ⟨c, rfl, code_of k.2, .inl hg⟩
      | none =>
        rw [hb] at k
        have e : f = 150 := by simpa using k.2
        subst e
        rw [Tryz.func150] at hg
        cases hg
        exact .inr ⟨hb, find150.1, ⟨_, find150.2, fun a => fine_noZero _ _ a⟩, Tryz.func150⟩
  up := by
    rintro f (rfl | rfl)
    · obtain ⟨c, hc⟩ := Option.isSome_iff_exists.1 body_up
      exact ⟨_, c, Tryz.func133, hc, by kernel_rfl⟩
    · obtain ⟨c, hc⟩ := Option.isSome_iff_exists.1 body_cc
      exact ⟨_, c, Tryz.func126, hc, by kernel_rfl⟩
  follows := rfl
  res := fun fn tmps => fine_results fn tmps
end Go.Proofs.YtegkbjpcgelomaaGreatDoor.Wk
end
/- The stand-in of sabbath.upto, step by step. -/
section
set_option maxRecDepth 100000
namespace Go.Proofs.YtegkbjpcgelomaaGreatDoor.Wk
open Go Go.Proofs Go.Conc Go.Sim Go.RowKit

theorem array28 (T : Array Value) (h : T.size = 28) : ∃ v0 v1 v2 v3 v4 v5 v6 v7 v8 v9 v10 v11 v12 v13 v14 v15 v16 v17 v18 v19 v20 v21 v22 v23 v24 v25 v26 v27 : Value, T = #[v0, v1, v2, v3, v4, v5, v6, v7, v8, v9, v10, v11, v12, v13, v14, v15, v16, v17, v18, v19, v20, v21, v22, v23, v24, v25, v26, v27] := by
  obtain ⟨l⟩ := T
  simp only [List.size_toArray] at h
  iterate 28 (rcases l with _ | ⟨_, l⟩; · simp at h)
  rcases l with _ | ⟨_, l⟩
  · exact ⟨_, _, _, _, _, _, _, _, _, _, _, _, _, _, _, _, _, _, _, _, _, _, _, _, _, _, _, _, rfl⟩
  · simp at h
noncomputable def bodyQ : Code := Tryq.up.body.getD .skip
def dropSeq : Nat → Code → Code
  | 0, c => c
  | n + 1, .seq _ r => dropSeq n r
  | _, c => c
def headSeq : Code → Code
  | .seq a _ => a
  | c => c
def opsOf : Code → Array Oper
  | .region _ ops _ => ops
  | _ => #[]
noncomputable abbrev rq (n : Nat) : Array Oper := opsOf (headSeq (dropSeq n bodyQ))
noncomputable abbrev kq (n : Nat) : Code := dropSeq n bodyQ
noncomputable def loopQ : Code := match headSeq (kq 20) with | .block _ (.loop c) => c | _ => .skip
noncomputable def headQ (t : Array Value) : Frame := (base 133).at ⟨t, []⟩ [.code loopQ, .inLoop loopQ, .inBlock 0, .code (kq 21)]
section
variable {T : Frame → List Frame → World → Prop} {c : Frame} {xs : List Frame} {v : World}
theorem enterQ (a : Array Value) : Frame.enter Tryq.prog 133 a .normal = (base 133).at ⟨a ++ Array.replicate (28 - a.size) undef, []⟩ [.code bodyQ] := enter_at a Tryq.func133 rfl
abbrev at_ (t : Array Value) (todo : List Item) : Frame := (base 133).at ⟨t, []⟩ todo
theorem q_alive (hG : Goal Tryq.prog T) (hxs : ∀ x ∈ c :: xs, x.defers = []) {t : Array Value} {ops : Array Oper} {i : Nat} {rest : List Nat} {k : List Item} {o : Oper} (hW : Wf Tryq.prog T (at_ t (.inRegion ops (i :: rest) :: k)) (c :: xs) v) (ho : ops[i]? = some o) (hw : Region.wanted o (yielded ops t) = true) {h : Halt} {v' : World}
    (r : (execOp (at_ t (.inRegion ops (i :: rest) :: k)).eval o).run Tryq.prog v = .halt h v') : ¬ Dead h :=
  wf_alive hG rfl rfl rfl hxs hW (deep_not hG) rfl rfl ho hw r
/-- It has not more than 28 slots. -/
theorem q_size (hG : Goal Tryq.prog T) (hxs : ∀ x ∈ c :: xs, x.defers = []) {t : Array Value} (hW : Wf Tryq.prog T (at_ t [.code bodyQ]) (c :: xs) v) : ¬ 28 < t.size ∧
    Lds Tryq.prog T (at_ t [.code bodyQ]) (c :: xs) v (at_ (t.setIfInBounds 28 (.pointer none)) (.inRegion (rq 1) (0 :: []) :: .code (kq 2) :: [])) (c :: xs) v := by
  have A : Lds Tryq.prog T (at_ t [.code bodyQ]) (c :: xs) v (at_ (t.setIfInBounds 28 (.pointer none)) (.inRegion (rq 1) (0 :: []) :: .code (kq 2) :: [])) (c :: xs) v := by
    refine Lds.go hG stepG_seq ?_
    refine Lds.go hG stepG_region ?_
    refine Lds.go hG (stepG_value rfl (by rfl) (by k_ne) rfl) ?_
    refine Lds.go hG stepG_region_end ?_
    refine Lds.go hG stepG_seq ?_
    refine Lds.go hG stepG_region ?_
    exact .refl _ _ _
  refine ⟨fun hlt => ?_, A⟩
  have e : (at_ (t.setIfInBounds 28 (.pointer none)) (.inRegion (rq 1) (0 :: []) :: .code (kq 2) :: [])).eval (.tmp 28) = .pointer none := by
    show (t.setIfInBounds 28 (.pointer none)).getD 28 undef = _
    simp [Array.getD_eq_getD_getElem?, hlt]
  refine q_alive hG hxs (wf_lds hW A) (o := (rq 1).getD 0 default) (by rfl) (by rfl) (h := .panic (.iface Tryq.prog.rt.errorString (strVal "invalid memory address or nil pointer dereference"))) (v' := v) ?_ trivial
  show (execOp _ ({ dst := none, op := Op.nilCheck (Operand.tmp 28), type := 0, pos := "", after := #[], guard := none } : Oper)).run Tryq.prog v = _
  unfold execOp
  simp only [e]
  rfl
/-- A test of two numbers, in a tree: both are numbers. -/
theorem cmp_num {b : BinOp} (hb : b = .geq ∨ b = .leq) {y : Value} {n : Int} {ρ : Operand → Value} {X Y : Operand} (hX : ρ X = y) (hY : ρ Y = .int .i64 n) {d : Option Tmp} {ty : TypeId} {pos : String}
    (ha : ∀ {h : Halt} {v' : World}, (execOp ρ ({ dst := d, op := Op.binOp b 3 X Y 3, type := ty, pos := pos, after := #[], guard := none } : Oper)).run Tryq.prog v = .halt h v' → ¬ Dead h) : ∃ m, y = .int .i64 m := by
  have go : ∀ (h : Halt), Dead h → (execOp ρ ({ dst := d, op := Op.binOp b 3 X Y 3, type := ty, pos := pos, after := #[], guard := none } : Oper)).run Tryq.prog v ≠ .halt h v := fun h dd e => ha e dd
  unfold execOp at go
  simp only [hX, hY] at go
  cases y
  case int k m =>
    cases k
    case i64 => exact ⟨m, rfl⟩
    all_goals (rcases hb with rfl | rfl <;> exact absurd rfl (go (.stuck "BinOp: operands of different kinds") trivial))
  case pointer a => cases a <;> (rcases hb with rfl | rfl <;> exact absurd rfl (go (.unsupported .addressObserved) trivial))
  all_goals (rcases hb with rfl | rfl <;> exact absurd rfl (go (.stuck "BinOp: no such operator on these operands") trivial))
theorem up_begin (hG : Goal Tryq.prog T) (hxs : ∀ x ∈ c :: xs, x.defers = []) {t : Array Value} (ht : 28 ≤ t.size) (hW : Wf Tryq.prog T (at_ t [.code bodyQ]) (c :: xs) v) :
    ∃ (x st : Int) (v2 v3 v4 v5 v6 v7 v8 v9 v10 v11 v12 v13 v14 v15 v16 v17 v18 v19 v20 v21 v22 v23 v24 v25 v26 v27 : Value), t = #[.int .i64 x, .int .i64 st, v2, v3, v4, v5, v6, v7, v8, v9, v10, v11, v12, v13, v14, v15, v16, v17, v18, v19, v20, v21, v22, v23, v24, v25, v26, v27] ∧ -10000000 ≤ x ∧ x ≤ 100000000 ∧ st ≤ 100000000 ∧
      ∃ v10' : Value, Lds Tryq.prog T (at_ t [.code bodyQ]) (c :: xs) v (at_ #[.int .i64 x, .int .i64 st, v2, v3, v4, v5, v6, v7, v8, v9, v10', v11, v12, v13, v14, v15, v16, v17, v18, v19, v20, v21, v22, v23, v24, v25, v26, v27] (.inRegion (rq 8) (0 :: []) :: .code (kq 9) :: [])) (c :: xs) v := by
  obtain ⟨h28, A⟩ := q_size hG hxs hW
  obtain ⟨v0, v1, v2, v3, v4, v5, v6, v7, v8, v9, v10, v11, v12, v13, v14, v15, v16, v17, v18, v19, v20, v21, v22, v23, v24, v25, v26, v27, rfl⟩ := array28 t (by omega)
  have A' : Lds Tryq.prog T (at_ #[v0, v1, v2, v3, v4, v5, v6, v7, v8, v9, v10, v11, v12, v13, v14, v15, v16, v17, v18, v19, v20, v21, v22, v23, v24, v25, v26, v27] [.code bodyQ]) (c :: xs) v (at_ #[v0, v1, v2, v3, v4, v5, v6, v7, v8, v9, v10, v11, v12, v13, v14, v15, v16, v17, v18, v19, v20, v21, v22, v23, v24, v25, v26, v27] (.inRegion (rq 1) (0 :: []) :: .code (kq 2) :: [])) (c :: xs) v := A
  clear A
  have B : Lds Tryq.prog T (at_ #[v0, v1, v2, v3, v4, v5, v6, v7, v8, v9, v10, v11, v12, v13, v14, v15, v16, v17, v18, v19, v20, v21, v22, v23, v24, v25, v26, v27] (.inRegion (rq 1) (0 :: []) :: .code (kq 2) :: [])) (c :: xs) v (at_ #[v0, v1, v2, v3, v4, v5, v6, v7, v8, v9, v10, v11, v12, v13, v14, v15, v16, v17, v18, v19, v20, v21, v22, v23, v24, v25, v26, v27] (.inRegion (rq 2) (0 :: []) :: .code (kq 3) :: [])) (c :: xs) v := by
    refine Lds.go hG (stepG_value (v := undef) rfl (by rfl) (by k_ne) rfl) ?_
    refine Lds.go hG stepG_region_end ?_
    refine Lds.go hG stepG_seq ?_
    refine Lds.go hG stepG_region ?_
    exact .refl _ _ _
  have L := A'.trans B
  obtain ⟨x, rfl⟩ := cmp_num (v := v) (.inl rfl) (y := v0) rfl rfl (fun {h v'} r => q_alive hG hxs (wf_lds hW L) (o := (rq 2).getD 0 default) (by rfl) (by rfl) r)
  have C1 : Lds Tryq.prog T (at_ #[.int .i64 x, v1, v2, v3, v4, v5, v6, v7, v8, v9, v10, v11, v12, v13, v14, v15, v16, v17, v18, v19, v20, v21, v22, v23, v24, v25, v26, v27] (.inRegion (rq 2) (0 :: []) :: .code (kq 3) :: [])) (c :: xs) v (at_ #[.int .i64 x, v1, v2, v3, v4, v5, v6, v7, v8, v9, .bool (decide (x ≥ -10000000)), v11, v12, v13, v14, v15, v16, v17, v18, v19, v20, v21, v22, v23, v24, v25, v26, v27] (.code (.cond (.tmp 10) .skip (.refuse "")) :: .code (kq 4) :: [])) (c :: xs) v := by
    refine Lds.go hG (stepG_value (v := .bool (decide (x ≥ -10000000))) rfl (by rfl) (by k_ne) rfl) ?_
    refine Lds.go hG stepG_region_end ?_
    refine Lds.go hG stepG_seq ?_
    exact .refl _ _ _
  have L := L.trans C1
  have D1 : x ≥ -10000000 := by
    refine Classical.byContradiction fun hn => ?_
    have L := L.trans (Lds.go (fr1 := at_ #[.int .i64 x, v1, v2, v3, v4, v5, v6, v7, v8, v9, .bool (decide (x ≥ -10000000)), v11, v12, v13, v14, v15, v16, v17, v18, v19, v20, v21, v22, v23, v24, v25, v26, v27] (.code (.refuse "") :: .code (kq 4) :: [])) (v1 := v) (es := #[]) hG (by rw [stepG_cond (t := false) (by simp [Act.eval, hn])]; simp) (.refl _ _ _))
    exact wf_no_stop (wf_lds hW L) (deep_not hG) rfl rfl
  have L := L.trans (Lds.go (fr1 := at_ #[.int .i64 x, v1, v2, v3, v4, v5, v6, v7, v8, v9, .bool (decide (x ≥ -10000000)), v11, v12, v13, v14, v15, v16, v17, v18, v19, v20, v21, v22, v23, v24, v25, v26, v27] (.code .skip :: .code (kq 4) :: [])) (v1 := v) (es := #[]) hG (by rw [stepG_cond (t := true) (by simp [Act.eval, D1])]; simp) (Lds.go hG stepG_skip (Lds.go hG stepG_seq (Lds.go hG stepG_region (.refl _ _ _)))))
  have C2 : Lds Tryq.prog T (at_ #[.int .i64 x, v1, v2, v3, v4, v5, v6, v7, v8, v9, .bool (decide (x ≥ -10000000)), v11, v12, v13, v14, v15, v16, v17, v18, v19, v20, v21, v22, v23, v24, v25, v26, v27] (.inRegion (rq 4) (0 :: []) :: .code (kq 5) :: [])) (c :: xs) v (at_ #[.int .i64 x, v1, v2, v3, v4, v5, v6, v7, v8, v9, .bool (decide (x ≤ 100000000)), v11, v12, v13, v14, v15, v16, v17, v18, v19, v20, v21, v22, v23, v24, v25, v26, v27] (.code (.cond (.tmp 10) .skip (.refuse "")) :: .code (kq 6) :: [])) (c :: xs) v := by
    refine Lds.go hG (stepG_value (v := .bool (decide (x ≤ 100000000))) rfl (by rfl) (by k_ne) rfl) ?_
    refine Lds.go hG stepG_region_end ?_
    refine Lds.go hG stepG_seq ?_
    exact .refl _ _ _
  have L := L.trans C2
  have D2 : x ≤ 100000000 := by
    refine Classical.byContradiction fun hn => ?_
    have L := L.trans (Lds.go (fr1 := at_ #[.int .i64 x, v1, v2, v3, v4, v5, v6, v7, v8, v9, .bool (decide (x ≤ 100000000)), v11, v12, v13, v14, v15, v16, v17, v18, v19, v20, v21, v22, v23, v24, v25, v26, v27] (.code (.refuse "") :: .code (kq 6) :: [])) (v1 := v) (es := #[]) hG (by rw [stepG_cond (t := false) (by simp [Act.eval, hn])]; simp) (.refl _ _ _))
    exact wf_no_stop (wf_lds hW L) (deep_not hG) rfl rfl
  have L := L.trans (Lds.go (fr1 := at_ #[.int .i64 x, v1, v2, v3, v4, v5, v6, v7, v8, v9, .bool (decide (x ≤ 100000000)), v11, v12, v13, v14, v15, v16, v17, v18, v19, v20, v21, v22, v23, v24, v25, v26, v27] (.code .skip :: .code (kq 6) :: [])) (v1 := v) (es := #[]) hG (by rw [stepG_cond (t := true) (by simp [Act.eval, D2])]; simp) (Lds.go hG stepG_skip (Lds.go hG stepG_seq (Lds.go hG stepG_region (.refl _ _ _)))))
  obtain ⟨st, rfl⟩ := cmp_num (v := v) (.inr rfl) (y := v1) rfl rfl (fun {h v'} r => q_alive hG hxs (wf_lds hW L) (o := (rq 6).getD 0 default) (by rfl) (by rfl) r)
  have C3 : Lds Tryq.prog T (at_ #[.int .i64 x, .int .i64 st, v2, v3, v4, v5, v6, v7, v8, v9, .bool (decide (x ≤ 100000000)), v11, v12, v13, v14, v15, v16, v17, v18, v19, v20, v21, v22, v23, v24, v25, v26, v27] (.inRegion (rq 6) (0 :: []) :: .code (kq 7) :: [])) (c :: xs) v (at_ #[.int .i64 x, .int .i64 st, v2, v3, v4, v5, v6, v7, v8, v9, .bool (decide (st ≤ 100000000)), v11, v12, v13, v14, v15, v16, v17, v18, v19, v20, v21, v22, v23, v24, v25, v26, v27] (.code (.cond (.tmp 10) .skip (.refuse "")) :: .code (kq 8) :: [])) (c :: xs) v := by
    refine Lds.go hG (stepG_value (v := .bool (decide (st ≤ 100000000))) rfl (by rfl) (by k_ne) rfl) ?_
    refine Lds.go hG stepG_region_end ?_
    refine Lds.go hG stepG_seq ?_
    exact .refl _ _ _
  have L := L.trans C3
  have D3 : st ≤ 100000000 := by
    refine Classical.byContradiction fun hn => ?_
    have L := L.trans (Lds.go (fr1 := at_ #[.int .i64 x, .int .i64 st, v2, v3, v4, v5, v6, v7, v8, v9, .bool (decide (st ≤ 100000000)), v11, v12, v13, v14, v15, v16, v17, v18, v19, v20, v21, v22, v23, v24, v25, v26, v27] (.code (.refuse "") :: .code (kq 8) :: [])) (v1 := v) (es := #[]) hG (by rw [stepG_cond (t := false) (by simp [Act.eval, hn])]; simp) (.refl _ _ _))
    exact wf_no_stop (wf_lds hW L) (deep_not hG) rfl rfl
  have L := L.trans (Lds.go (fr1 := at_ #[.int .i64 x, .int .i64 st, v2, v3, v4, v5, v6, v7, v8, v9, .bool (decide (st ≤ 100000000)), v11, v12, v13, v14, v15, v16, v17, v18, v19, v20, v21, v22, v23, v24, v25, v26, v27] (.code .skip :: .code (kq 8) :: [])) (v1 := v) (es := #[]) hG (by rw [stepG_cond (t := true) (by simp [Act.eval, D3])]; simp) (Lds.go hG stepG_skip (Lds.go hG stepG_seq (Lds.go hG stepG_region (.refl _ _ _)))))
  exact ⟨x, st, v2, v3, v4, v5, v6, v7, v8, v9, v10, v11, v12, v13, v14, v15, v16, v17, v18, v19, v20, v21, v22, v23, v24, v25, v26, v27, rfl, D1, D2, D3, _, L⟩
/-- A block that is to be hidden. -/
def push1 (v : World) : World := { v with heap := v.heap.push hidO }
def six (v : World) : World := push1 (push1 (push1 (push1 (push1 (push1 v)))))
theorem range_run (ρ : Operand → Value) (h : ∀ u, ρ (.const u) = u) (v : World) : (execOp ρ ({ dst := none, op := Op.range 9 (Operand.const (Value.string ByteArray.empty)), type := 0, pos := "", after := #[], guard := none } : Oper)).run Tryq.prog v = .ok (.value (.pointer (some ⟨v.heap.size, 0, none⟩))) (push1 v) := by
  unfold execOp
  simp only [h]
  have hu : Tryq.prog.underlying 9 = some .string := by kernel_rfl
  unfold Instr.range underlying
  show (Sem.bind (Sem.bind (Sem.program Sem.pure) _) _).run Tryq.prog v = _
  simp only [Sem.bind, Sem.run, hu, bind, pure, newObj]
  rfl
theorem up_six (hG : Goal Tryq.prog T) {x st : Int} {v2 v3 v4 v5 v6 v7 v8 v9 v10 v11 v12 v13 v14 v15 v16 v17 v18 v19 v20 v21 v22 v23 v24 v25 v26 v27 : Value} : Lds Tryq.prog T (at_ #[.int .i64 x, .int .i64 st, v2, v3, v4, v5, v6, v7, v8, v9, v10, v11, v12, v13, v14, v15, v16, v17, v18, v19, v20, v21, v22, v23, v24, v25, v26, v27] (.inRegion (rq 8) (0 :: []) :: .code (kq 9) :: [])) (c :: xs) v
    (headQ #[.int .i64 x, .int .i64 st, v2, v3, v4, v5, v6, v7, .slice none 0 0, .int .i64 (IntKind.i64.wrap (x + Int.tmod (IntKind.i64.wrap (7 - Int.tmod (IntKind.i64.wrap (x + 70000001)) 7)) 7)), .int .i64 (IntKind.i64.wrap (x + 70000001)), .int .i64 (Int.tmod (IntKind.i64.wrap (x + 70000001)) 7), .int .i64 (IntKind.i64.wrap (7 - Int.tmod (IntKind.i64.wrap (x + 70000001)) 7)), .int .i64 (Int.tmod (IntKind.i64.wrap (7 - Int.tmod (IntKind.i64.wrap (x + 70000001)) 7)) 7), v14, v15, v16, v17, v18, v19, v20, v21, v22, v23, v24, v25, v26, v27]) (c :: xs) (six v) := by
    simp only [rq, kq, bodyQ, Tryq.up, Option.getD_some, opsOf, headSeq, dropSeq, headQ, loopQ]
    refine Lds.go hG (stepG_value rfl (by rfl) (by k_ne) (range_run _ (fun _ => rfl) _)) ?_
    walk_nrm
    refine Lds.go hG stepG_region_end ?_
    refine Lds.go hG stepG_seq ?_
    refine Lds.go hG stepG_region ?_
    refine Lds.go hG (stepG_value rfl (by rfl) (by k_ne) (range_run _ (fun _ => rfl) _)) ?_
    walk_nrm
    refine Lds.go hG stepG_region_end ?_
    refine Lds.go hG stepG_seq ?_
    refine Lds.go hG stepG_region ?_
    refine Lds.go hG (stepG_value rfl (by rfl) (by k_ne) (range_run _ (fun _ => rfl) _)) ?_
    walk_nrm
    refine Lds.go hG stepG_region_end ?_
    refine Lds.go hG stepG_seq ?_
    refine Lds.go hG stepG_region ?_
    refine Lds.go hG (stepG_value rfl (by rfl) (by k_ne) (range_run _ (fun _ => rfl) _)) ?_
    walk_nrm
    refine Lds.go hG stepG_region_end ?_
    refine Lds.go hG stepG_seq ?_
    refine Lds.go hG stepG_region ?_
    refine Lds.go hG (stepG_value rfl (by rfl) (by k_ne) (range_run _ (fun _ => rfl) _)) ?_
    walk_nrm
    refine Lds.go hG stepG_region_end ?_
    refine Lds.go hG stepG_seq ?_
    refine Lds.go hG stepG_region ?_
    refine Lds.go hG (stepG_value rfl (by rfl) (by k_ne) (range_run _ (fun _ => rfl) _)) ?_
    walk_nrm
    refine Lds.go hG stepG_region_end ?_
    refine Lds.go hG stepG_seq ?_
    refine Lds.go hG stepG_region ?_
    refine Lds.go hG (stepG_value rfl (by rfl) (by k_ne) rfl) ?_
    walk_nrm
    refine Lds.go hG stepG_region_end ?_
    refine Lds.go hG stepG_seq ?_
    refine Lds.go hG stepG_region ?_
    refine Lds.go hG (stepG_value (v := .int .i64 (IntKind.i64.wrap (x + 70000001))) rfl (by rfl) (by k_ne) rfl) ?_
    walk_nrm
    refine Lds.go hG stepG_region_end ?_
    refine Lds.go hG stepG_seq ?_
    refine Lds.go hG stepG_region ?_
    refine Lds.go hG (stepG_value (v := .int .i64 (Int.tmod (IntKind.i64.wrap (x + 70000001)) 7)) rfl (by rfl) (by k_ne) rfl) ?_
    walk_nrm
    refine Lds.go hG stepG_region_end ?_
    refine Lds.go hG stepG_seq ?_
    refine Lds.go hG stepG_region ?_
    refine Lds.go hG (stepG_value (v := .int .i64 (IntKind.i64.wrap (7 - Int.tmod (IntKind.i64.wrap (x + 70000001)) 7))) rfl (by rfl) (by k_ne) rfl) ?_
    walk_nrm
    refine Lds.go hG stepG_region_end ?_
    refine Lds.go hG stepG_seq ?_
    refine Lds.go hG stepG_region ?_
    refine Lds.go hG (stepG_value (v := .int .i64 (Int.tmod (IntKind.i64.wrap (7 - Int.tmod (IntKind.i64.wrap (x + 70000001)) 7)) 7)) rfl (by rfl) (by k_ne) rfl) ?_
    walk_nrm
    refine Lds.go hG stepG_region_end ?_
    refine Lds.go hG stepG_seq ?_
    refine Lds.go hG stepG_region ?_
    refine Lds.go hG (stepG_value (v := .int .i64 (IntKind.i64.wrap (x + Int.tmod (IntKind.i64.wrap (7 - Int.tmod (IntKind.i64.wrap (x + 70000001)) 7)) 7))) rfl (by rfl) (by k_ne) rfl) ?_
    walk_nrm
    refine Lds.go hG stepG_region_end ?_
    refine Lds.go hG stepG_seq ?_
    refine Lds.go hG stepG_block ?_
    refine Lds.go hG stepG_loop ?_
    exact .refl _ _ _
theorem sat_eq {x : Int} (h1 : -10000000 ≤ x) (h2 : x ≤ 100000000) : IntKind.i64.wrap (x + Int.tmod (IntKind.i64.wrap (7 - Int.tmod (IntKind.i64.wrap (x + 70000001)) 7)) 7) = sat x := by
  have e1 : IntKind.i64.wrap (x + 70000001) = x + 70000001 := by rw [IntKind.wrap_i64]; omega
  have e2 : Int.tmod (x + 70000001) 7 = (x + 70000001) % 7 := Int.tmod_eq_emod_of_nonneg (by omega)
  have e3 : IntKind.i64.wrap (7 - (x + 70000001) % 7) = 7 - (x + 70000001) % 7 := by rw [IntKind.wrap_i64]; omega
  have e4 : Int.tmod (7 - (x + 70000001) % 7) 7 = (7 - (x + 70000001) % 7) % 7 := Int.tmod_eq_emod_of_nonneg (by omega)
  rw [e1, e2, e3, e4]
  unfold sat
  rw [IntKind.wrap_i64]
  omega
theorem val_run {s : Sem Value} {y : Value} {w w' : World} (h : s.run Tryq.prog w = .ok y w') : (do pure (.value (← s)) : Sem Next).run Tryq.prog w = .ok (.value y) w' := by
  show (s.bind _).run _ _ = _
  rw [Sem.run_bind', h]
  rfl
theorem app_run {P : Program} {ρ : Operand → Value} {X Y : Operand} {s bs s2 : Value} {w w' : World} {d : Option Tmp} {pos : String} {af : Array Edge} {g : Option (Nat × Bool)} (hX : ρ X = s) (hY : ρ Y = bs) (h : (Builtin.append_ #[70, 70] 70 #[s, bs]).run P w = .ok s2 w') :
    (execOp ρ ({ dst := d, op := Op.call { callee := Callee.builtin Builtin.append, args := #[X, Y], argTypes := #[70, 70] }, type := 70, pos := pos, after := af, guard := g } : Oper)).run P w = .ok (.value s2) w' := by
  unfold execOp resolve
  simp only [List.map_toArray, List.map_cons, List.map_nil, hX, hY]
  show (Sem.bind (Builtin.append_ #[70, 70] 70 #[s, bs]) _).run _ _ = _
  rw [Sem.run_bind', h]
  rfl
theorem bsl_run {P : Program} {ρ : Operand → Value} {X : Operand} {n : Int} {bs : Value} {w w' : World} {d : Option Tmp} {ty : TypeId} {pos : String} {af : Array Edge} {g : Option (Nat × Bool)} (hX : ρ X = .int .i64 n) (h : (Instr.buildSlice 70 1 #[(0, .int .i64 n)]).run P w = .ok bs w') :
    (execOp ρ ({ dst := d, op := Op.buildSlice 70 1 #[(0, X)], type := ty, pos := pos, after := af, guard := g } : Oper)).run P w = .ok (.value bs) w' := by
  unfold execOp
  simp only [List.map_toArray, List.map_cons, List.map_nil, hX]
  show (Sem.bind (Instr.buildSlice 70 1 #[(0, .int .i64 n)]) _).run _ _ = _
  rw [Sem.run_bind', h]
  rfl
noncomputable def lpB : Code := match loopQ with | .seq _ (.seq (.block _ c) _) => c | _ => .skip
noncomputable def lpInc : Code := match loopQ with | .seq _ (.seq _ c) => c | _ => .skip
/-- What is left to do at the buildSlice; at the append. -/
noncomputable def kB : List Item := .inRegion (opsOf (headSeq lpB)) (0 :: []) :: .code (dropSeq 1 lpB) :: .inBlock 1 :: .code lpInc :: .inLoop loopQ :: .inBlock 0 :: .code (kq 21) :: []
noncomputable def kA : List Item := .inRegion (opsOf (headSeq (dropSeq 1 lpB))) (0 :: []) :: .code (dropSeq 2 lpB) :: .inBlock 1 :: .code lpInc :: .inLoop loopQ :: .inBlock 0 :: .code (kq 21) :: []
theorem up_r1 (hG : Goal Tryq.prog T) {t : Array Value} (ht : t.size = 28) {st n : Int} {s : Value} (h1 : t[1]? = some (.int .i64 st)) (h8 : t[8]? = some s) (h9 : t[9]? = some (.int .i64 n)) (hn : n ≤ st) :
    ∃ t' : Array Value, t'.size = 28 ∧ t'[1]? = some (.int .i64 st) ∧ t'[8]? = some s ∧ t'[9]? = some (.int .i64 n) ∧ Lds Tryq.prog T (headQ t) (c :: xs) v (at_ t' kB) (c :: xs) v := by
  obtain ⟨a0, a1, a2, a3, a4, a5, a6, a7, a8, a9, a10, a11, a12, a13, a14, a15, a16, a17, a18, a19, a20, a21, a22, a23, a24, a25, a26, a27, rfl⟩ := array28 t ht
  simp only [List.getElem?_toArray, List.getElem?_cons_succ, List.getElem?_cons_zero, Option.some.injEq] at h1 h8 h9
  subst h1 h8 h9
  refine ⟨#[a0, .int .i64 st, a2, a3, a4, a5, a6, a7, a8, .int .i64 n, a10, a11, a12, a13, a14, a15, a16, a17, .bool (decide (n ≤ st)), a19, a20, a21, a22, a23, a24, a25, a26, a27], rfl, rfl, rfl, rfl, ?_⟩
  simp only [kq, bodyQ, Tryq.up, Option.getD_some, opsOf, headSeq, dropSeq, headQ, loopQ, kB, kA, lpB, lpInc]
  refine Lds.go hG stepG_seq ?_
  refine Lds.go hG stepG_seq ?_
  refine Lds.go hG stepG_region ?_
  refine Lds.go hG (stepG_value (v := .bool (decide (n ≤ st))) rfl (by rfl) (by k_ne) rfl) ?_
  walk_nrm
  refine Lds.go hG stepG_region_end ?_
  refine Lds.go hG (stepG_cond (t := true) (by simp [Act.eval, hn])) ?_
  simp only [if_true, ↓reduceIte]
  refine Lds.go hG stepG_skip ?_
  refine Lds.go hG stepG_seq ?_
  refine Lds.go hG stepG_block ?_
  refine Lds.go hG stepG_seq ?_
  refine Lds.go hG stepG_region ?_
  exact .refl _ _ _
theorem up_r2 (hG : Goal Tryq.prog T) {t : Array Value} (ht : t.size = 28) {st n : Int} {s bs : Value} {u1 : World} {τ1 : Nat → Question → Nat} {d1 : Nat} (h1 : t[1]? = some (.int .i64 st)) (h8 : t[8]? = some s) (h9 : t[9]? = some (.int .i64 n))
    (r1 : (Instr.buildSlice 70 1 #[(0, .int .i64 n)]).run Tryq.prog (re v τ1 d1) = .ok bs u1) :
    ∃ t' : Array Value, t'.size = 28 ∧ t'[1]? = some (.int .i64 st) ∧ t'[8]? = some s ∧ t'[9]? = some (.int .i64 n) ∧ t'[23]? = some bs ∧ Lds Tryq.prog T (at_ t kB) (c :: xs) v (at_ t' kA) (c :: xs) u1 := by
  obtain ⟨a0, a1, a2, a3, a4, a5, a6, a7, a8, a9, a10, a11, a12, a13, a14, a15, a16, a17, a18, a19, a20, a21, a22, a23, a24, a25, a26, a27, rfl⟩ := array28 t ht
  simp only [List.getElem?_toArray, List.getElem?_cons_succ, List.getElem?_cons_zero, Option.some.injEq] at h1 h8 h9
  subst h1 h8 h9
  refine ⟨#[a0, .int .i64 st, a2, a3, a4, a5, a6, a7, a8, .int .i64 n, a10, a11, a12, a13, a14, a15, a16, a17, a18, a19, a20, a21, a22, bs, a24, a25, a26, a27], rfl, rfl, rfl, rfl, rfl, ?_⟩
  simp only [kq, bodyQ, Tryq.up, Option.getD_some, opsOf, headSeq, dropSeq, headQ, loopQ, kB, kA, lpB, lpInc]
  refine Lds.re hG τ1 d1 (stepG_value (v := bs) (o := { dst := some 23, op := Op.buildSlice 70 1 #[(0, (Operand.tmp 9))], type := 70, pos := "", after := #[], guard := none }) rfl (by rfl) (by k_ne) (bsl_run rfl r1)) ?_
  walk_nrm
  refine Lds.go hG stepG_region_end ?_
  refine Lds.go hG stepG_seq ?_
  refine Lds.go hG stepG_region ?_
  exact .refl _ _ _
theorem up_r3 (hG : Goal Tryq.prog T) {t : Array Value} (ht : t.size = 28) {st n : Int} {s bs s2 : Value} {u2 : World} {τ2 : Nat → Question → Nat} {d2 : Nat} (h1 : t[1]? = some (.int .i64 st)) (h8 : t[8]? = some s) (h9 : t[9]? = some (.int .i64 n)) (h23 : t[23]? = some bs)
    (r2 : (Builtin.append_ #[70, 70] 70 #[s, bs]).run Tryq.prog (re v τ2 d2) = .ok s2 u2) :
    ∃ t' : Array Value, t'.size = 28 ∧ t'[1]? = some (.int .i64 st) ∧ t'[8]? = some s2 ∧ t'[9]? = some (.int .i64 (IntKind.i64.wrap (n + 7))) ∧ Lds Tryq.prog T (at_ t kA) (c :: xs) v (headQ t') (c :: xs) u2 := by
  obtain ⟨a0, a1, a2, a3, a4, a5, a6, a7, a8, a9, a10, a11, a12, a13, a14, a15, a16, a17, a18, a19, a20, a21, a22, a23, a24, a25, a26, a27, rfl⟩ := array28 t ht
  simp only [List.getElem?_toArray, List.getElem?_cons_succ, List.getElem?_cons_zero, Option.some.injEq] at h1 h8 h9 h23
  subst h1 h8 h9 h23
  refine ⟨#[a0, .int .i64 st, a2, a3, a4, a5, a6, a7, s2, .int .i64 (IntKind.i64.wrap (n + 7)), .int .i64 (IntKind.i64.wrap (n + 7)), a11, a12, a13, a14, a15, a16, a17, a18, a19, a20, a21, a22, a23, s2, a25, a26, a27], rfl, rfl, rfl, rfl, ?_⟩
  simp only [kq, bodyQ, Tryq.up, Option.getD_some, opsOf, headSeq, dropSeq, headQ, loopQ, kB, kA, lpB, lpInc]
  refine Lds.re hG τ2 d2 (stepG_value (v := s2) (o := { dst := some 24, op := Op.call { callee := Callee.builtin Builtin.append, args := #[(Operand.tmp 8), (Operand.tmp 23)], argTypes := #[70, 70] }, type := 70, pos := "", after := #[], guard := none }) rfl (by rfl) (by k_ne) (app_run rfl rfl r2)) ?_
  walk_nrm
  refine Lds.go hG stepG_region_end ?_
  refine Lds.go hG stepG_region ?_
  refine Lds.go hG (stepG_value rfl (by rfl) (by k_ne) rfl) ?_
  walk_nrm
  refine Lds.go hG stepG_region_end ?_
  refine Lds.go hG stepG_inBlock ?_
  refine Lds.go hG stepG_seq ?_
  refine Lds.go hG stepG_region ?_
  refine Lds.go hG (stepG_value (v := .int .i64 (IntKind.i64.wrap (n + 7))) rfl (by rfl) (by k_ne) rfl) ?_
  walk_nrm
  refine Lds.go hG stepG_region_end ?_
  refine Lds.go hG stepG_region ?_
  refine Lds.go hG (stepG_value rfl (by rfl) (by k_ne) rfl) ?_
  walk_nrm
  refine Lds.go hG stepG_region_end ?_
  refine Lds.go hG stepG_inLoop ?_
  exact .refl _ _ _
/-- In a tree neither the buildSlice nor the append ends the run. -/
theorem bsl_alive (hG : Goal Tryq.prog T) (hxs : ∀ x ∈ c :: xs, x.defers = []) {t : Array Value} {n : Int} (h9 : t[9]? = some (.int .i64 n)) (hW : Wf Tryq.prog T (at_ t kB) (c :: xs) v) {h : Halt} {v' : World} (r : (Instr.buildSlice 70 1 #[(0, .int .i64 n)]).run Tryq.prog v = .halt h v') : ¬ Dead h := by
  refine q_alive hG hxs hW (o := { dst := some 23, op := Op.buildSlice 70 1 #[(0, (Operand.tmp 9))], type := 70, pos := "", after := #[], guard := none }) (v' := v') (by rfl) (by rfl) ?_
  have e : (at_ t kB).eval (.tmp 9) = .int .i64 n := by
    show t.getD 9 undef = _
    rw [Array.getD_eq_getD_getElem?, h9]
    rfl
  have e' : ∀ k, (at_ t k).eval (.tmp 9) = .int .i64 n := fun k => e
  unfold execOp
  simp only [List.map_toArray, List.map_cons, List.map_nil, e']
  show (Sem.bind (Instr.buildSlice 70 1 #[(0, .int .i64 n)]) _).run _ _ = _
  rw [Sem.run_bind', r]
  rfl
theorem app_alive (hG : Goal Tryq.prog T) (hxs : ∀ x ∈ c :: xs, x.defers = []) {t : Array Value} {s bs : Value} (h8 : t[8]? = some s) (h23 : t[23]? = some bs) (hW : Wf Tryq.prog T (at_ t kA) (c :: xs) v) {h : Halt} {v' : World} (r : (Builtin.append_ #[70, 70] 70 #[s, bs]).run Tryq.prog v = .halt h v') : ¬ Dead h := by
  refine q_alive hG hxs hW (o := { dst := some 24, op := Op.call { callee := Callee.builtin Builtin.append, args := #[(Operand.tmp 8), (Operand.tmp 23)], argTypes := #[70, 70] }, type := 70, pos := "", after := #[], guard := none }) (v' := v') (by rfl) (by rfl) ?_
  have e1 : ∀ k, (at_ t k).eval (.tmp 8) = s := fun k => by
    show t.getD 8 undef = _
    rw [Array.getD_eq_getD_getElem?, h8]
    rfl
  have e2 : ∀ k, (at_ t k).eval (.tmp 23) = bs := fun k => by
    show t.getD 23 undef = _
    rw [Array.getD_eq_getD_getElem?, h23]
    rfl
  unfold execOp resolve
  simp only [List.map_toArray, List.map_cons, List.map_nil, e1, e2]
  show (Sem.bind (Builtin.append_ #[70, 70] 70 #[s, bs]) _).run _ _ = _
  rw [Sem.run_bind', r]
  rfl
theorem up_last (hG : Goal Tryq.prog T) {t : Array Value} (ht : t.size = 28) {st n : Int} {s : Value} (h1 : t[1]? = some (.int .i64 st)) (h8 : t[8]? = some s) (h9 : t[9]? = some (.int .i64 n)) (hn : ¬ n ≤ st) (τ : Nat → Question → Nat) (d : Nat) :
    Lds Tryq.prog T (headQ t) (c :: xs) v (c.finish s) xs (re v τ d) := by
  obtain ⟨a0, a1, a2, a3, a4, a5, a6, a7, a8, a9, a10, a11, a12, a13, a14, a15, a16, a17, a18, a19, a20, a21, a22, a23, a24, a25, a26, a27, rfl⟩ := array28 t ht
  simp only [List.getElem?_toArray, List.getElem?_cons_succ, List.getElem?_cons_zero, Option.some.injEq] at h1 h8 h9
  subst h1 h8 h9
  simp only [kq, bodyQ, Tryq.up, Option.getD_some, opsOf, headSeq, dropSeq, headQ, loopQ]
  refine Lds.go hG stepG_seq ?_
  refine Lds.go hG stepG_seq ?_
  refine Lds.go hG stepG_region ?_
  refine Lds.go hG (stepG_value (v := .bool (decide (n ≤ st))) rfl (by rfl) (by k_ne) rfl) ?_
  walk_nrm
  refine Lds.go hG stepG_region_end ?_
  refine Lds.go hG (stepG_cond (t := false) (by simp [Act.eval, hn])) ?_
  simp only [Bool.false_eq_true, if_false, ↓reduceIte]
  refine Lds.go hG (stepG_exit rfl) ?_
  refine Lds.go hG stepG_seq ?_
  refine Lds.go hG stepG_region ?_
  refine Lds.go hG (stepG_value rfl (by rfl) (by k_ne) rfl) ?_
  walk_nrm
  refine Lds.go hG stepG_region_end ?_
  refine Lds.go hG stepG_ret' ?_
  refine .head ⟨deep_not hG, τ, d, _, stepG_leave rfl rfl Tryq.func133 (results_tmp rfl _ _ _) (events_results_tmp rfl _ _)⟩ ?_
  exact .refl _ _ _
end
end Go.Proofs.YtegkbjpcgelomaaGreatDoor.Wk
end
