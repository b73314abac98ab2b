/- sabbath.upto, entered beside goroutines that only leave, comes back as its stand-in does. -/
import Derived.Test.YtegkbjpcgelomaaGreatDoorZ11
import Derived.Laws.Pointers
import Derived.Laws.LoneSync
set_option linter.unusedVariables false
set_option linter.unusedSimpArgs false
set_option linter.unusedSectionVars false
section
set_option maxRecDepth 100000
set_option maxHeartbeats 4000000
namespace Go.Proofs.YtegkbjpcgelomaaGreatDoor.Wk
open Go Go.Proofs Go.Conc Go.ConcX Go.ConcX.Gen Go.Conc.Lib Go.RowKit Go.Ph Go.Sim
open Go.ConcN (sumTo)

theorem exists_K {x st : Int} (h0 : -10000000 ≤ x) (h1 : x ≤ 100000000) (hs : st ≤ 100000000) : ∃ K, (∀ j, j < K → nv x j ≤ st) ∧ ¬ nv x K ≤ st := by
  refine Classical.byContradiction fun hno => ?_
  have all : ∀ k, nv x k ≤ st := by
    intro k
    induction k using Nat.strongRecOn with
    | _ k ih => exact Classical.byContradiction fun hk => hno ⟨k, ih, hk⟩
  have val : ∀ k, nv x k = sat x + 7 * (k : Int) := by
    intro k
    induction k with
    | zero => simp [nv]
    | succ k ih =>
      have h2 := all k
      have h3 : -10000000 ≤ sat x := by unfold sat; omega
      rw [ih] at h2
      show IntKind.i64.wrap (nv x k + 7) = _
      rw [ih, IntKind.wrap_i64]
      omega
  have h2 := all 100000000
  rw [val] at h2
  have h3 : -10000000 ≤ sat x := by unfold sat; omega
  omega
section
variable {T : Frame → List Frame → World → Prop} {bP : List Frame}
theorem enterP (a : Array Value) : Frame.enter Tryz.prog 133 a .normal = (base 133).at ⟨a ++ Array.replicate (28 - a.size) undef, []⟩ [.code bodyP] := enter_at a Tryz.func133 rfl
theorem phase_up (hG : Goal Tryq.prog T) : Phase Tryq.prog Tryz.prog 133 T bP := by
  intro a c xs H gs v w sl t q hxs h0 S hW
  rw [enterP] at h0
  rw [enterQ] at hW ⊢
  obtain ⟨x, st, v2, v3, v4, v5, v6, v7, v8, v9, v10, v11, v12, v13, v14, v15, v16, v17, v18, v19, v20, v21, v22, v23, v24, v25, v26, v27, htm, hx0, hx1, hst, v10', L0⟩ := up_begin hG hxs (by simp; omega) hW
  rw [htm] at h0 L0 hW ⊢
  have L := L0.trans (up_six hG)
  clear L0
  obtain ⟨frQ, hfr⟩ : ∃ f, f = at_ #[.int .i64 x, .int .i64 st, v2, v3, v4, v5, v6, v7, v8, v9, v10, v11, v12, v13, v14, v15, v16, v17, v18, v19, v20, v21, v22, v23, v24, v25, v26, v27] [.code bodyQ] := ⟨_, rfl⟩
  have hW1 : Wf Tryq.prog T frQ (c :: xs) v := by rw [hfr]; exact hW
  replace L := (show Lds Tryq.prog T frQ (c :: xs) v _ _ _ by rw [hfr]; exact L)
  have hd := S.hid
  obtain ⟨Shun, B, hP, hSh⟩ := S.past
  obtain ⟨K, hK1, hK2⟩ := exists_K hx0 hx1 hst
  obtain ⟨B', hB'⟩ : ∃ B', B' = max B (w.heap.size + 6 + 2 * (K + 1)) := ⟨_, rfl⟩
  have hB : B ≤ B' := by omega
  have hB2 : w.heap.size + 6 + 2 * (K + 1) ≤ B' := by omega
  have nShun : ∀ a : Addr, w.heap.size ≤ a.block → ¬ Shun (.cell a) := fun a ha hs => by
    obtain ⟨b, hb, hH⟩ := hSh _ hs
    cases hb
    have := hd.lt hH
    have := hd.size
    omega
  have nShunH : ∀ a : Addr, ¬ H6 H w.heap.size a.block → ¬ Shun (.cell a) := fun a ha hs => by
    obtain ⟨b, hb, hH⟩ := hSh _ hs
    cases hb
    exact ha (.inl hH)
  -- to the call of Add
  have first := p_first (w0 := w) (x := x) (st := st) (cs := c :: xs ++ bP) (E := EvL Shun B') (v2 := v2) (v3 := v3) (v4 := v4) (v5 := v5) (v6 := v6) (v7 := v7) (v8 := v8) (v9 := v9) (v10 := v10) (v11 := v11) (v12 := v12) (v13 := v13) (v14 := v14) (v15 := v15) (v16 := v16) (v17 := v17) (v18 := v18) (v19 := v19) (v20 := v20) (v21 := v21) (v22 := v22) (v23 := v23) (v24 := v24) (v25 := v25) (v26 := v26) (v27 := v27) fun a h1 h2 => evL_cell a true (nShun a (by omega)) (by omega)
  obtain ⟨N1, gs1, a1, w1, sl1, t1, q1, r1, hs1, h01, ⟨c1, c2, po, pe, hM, rfl⟩, hL1, hP1⟩ := walk_beside (fun _ _ _ h => h) _ _ gs _ w sl t q (Nat.le_refl _) h0 S.leavers (hP.mono hB) first
  have hp := hM.pos
  have p1 := hp.k1; have p2 := hp.k2
  letI shy : Shy (w.heap.size + 5) w.heap.size := shyG Shun B' (w.heap.size + 5) w.heap.size c2 (stopU T c xs bP frQ v (H6 H w.heap.size)) (by omega) (by omega) (fun a ha => nShun a (by omega))
  let Mine : Loc → Prop := fun l => (∃ a, l = .cell a ∧ ¬ H6 H w.heap.size a.block) ∨ l = .obj c2
  have hO : Own Mine w.heap.size := by
    refine ⟨fun a h1 h2 hm => ?_, fun a wr h1 h2 => okG_plain a wr (nShun a h1) (by omega)⟩
    rcases hm with ⟨b, hb, hH⟩ | hm
    · cases hb; exact hH (.inr ⟨h1, h2⟩)
    · cases hm
  have ok : Okm Mine w.heap.size (H6 H w.heap.size) B' := by
    refine ⟨fun b h1 h2 => .inr ⟨h1, h2⟩, fun a wr nh lt => okG_plain a wr (nShunH a nh) lt, fun m hm => ?_, fun a nh => .inl ⟨a, rfl, nh⟩, hd.low⟩
    refine okG_none ?_ ?_ fun k e => by cases e
    · rcases hm with rfl | ⟨f, rfl⟩ <;> rfl
    · rcases hm with rfl | ⟨f, rfl⟩ <;> trivial
  have hstop : ∀ g u, stopU T c xs bP frQ v (H6 H w.heap.size) g u → Shy.stop (w.heap.size + 5) w.heap.size g u := fun g u h => h
  have sOf : ∀ r, ¬ Shun (.obj r) := fun r hr => by
    obtain ⟨b, hb, -⟩ := hSh _ hr
    cases hb
  obtain ⟨N2, gs2, a2, w2, sl2, t2, q2, r2, hs2, h02, hr2, hst2, hL2, hP2⟩ := stage (ty := 214) (Wg := w.heap.size + 5) (C := w.heap.size) (Lo := w.heap.size) (Low := w.heap.size + 6) (vals := [.int .i64 x]) (Mine := Mine) (c1 := c1) (c2 := c2) (v := nV x) (K := K) (AnchW := AnchU T c xs bP frQ v (H6 H w.heap.size) w.heap.size po pe x st K) (Post := fun _ _ => True)
    (MAt := MAtU T c xs bP frQ v (H6 H w.heap.size) w.heap.size c1 c2 po pe x st K) (CAt := CAtU w.heap.size c1 c2 po pe x) (Shun := Shun) (B' := B') (sl := sl1)
    ⟨fun i g u hi h => recv_go hG hxs hW1 hp hO ok hB2 hK1 hK2 hi h, fun g u h => close_go hp ok h⟩ kid_spec
    ⟨⟨by omega, by omega⟩, ⟨by omega, by omega⟩, ⟨by omega, by omega⟩, ⟨by omega, by omega⟩, ⟨by omega, by omega⟩, ⟨by omega, by omega⟩, by have := hp.d; omega, by omega⟩
    (lets_shyG sOf (by omega) (by omega)) (fun g u ⟨t, s, _, T', hg, _⟩ => by rw [hg]; rfl) (wait_round hG ok hK2 hstop) (fun _ h => h) (.inr rfl) hP1 (Nat.le_refl _) h01 hL1
    (lone_go (B' := B') hx0 hx1 hO hd rfl rfl rfl (by rw [sat_eq hx0 hx1]; rfl) L hM)
  obtain ⟨s, v', rfl, Lq, hd'⟩ := hst2
  refine ⟨_, gs2, H6 H w.heap.size, v', w2, sl2, t2, q2, s, runNT_trans r1 r2, h02, ⟨hL2, ⟨_, B', hP2, fun l hl => ?_⟩, hd'⟩, ?_⟩
  · rcases hl with hl | ⟨b, rfl, hb⟩
    · obtain ⟨b, e, hH⟩ := hSh l hl
      exact ⟨b, e, .inl hH⟩
    · exact ⟨b, rfl, .inr ⟨by omega, by omega⟩⟩
  · rw [hfr] at Lq
    exact ⟨Lq, rfl, rfl, fun b h => .inl h⟩
end
end Go.Proofs.YtegkbjpcgelomaaGreatDoor.Wk
end
/- copyCheck, entered beside goroutines that only leave, comes back as its stand-in does. -/
section
set_option maxRecDepth 100000
set_option maxHeartbeats 4000000
namespace Go.Proofs.YtegkbjpcgelomaaGreatDoor.Wk
open Go Go.Proofs Go.Conc Go.ConcX Go.ConcX.Gen Go.Conc.Lib Go.RowKit Go.Ph Go.Sim
open Go.ConcN (sumTo)

theorem array20 (T : Array Value) (h : T.size = 20) : ∃ v0 v1 v2 v3 v4 v5 v6 v7 v8 v9 v10 v11 v12 v13 v14 v15 v16 v17 v18 v19 : Value, T = #[v0, v1, v2, v3, v4, v5, v6, v7, v8, v9, v10, v11, v12, v13, v14, v15, v16, v17, v18, v19] := by
  obtain ⟨l⟩ := T
  simp only [List.size_toArray] at h
  iterate 20 (rcases l with _ | ⟨_, l⟩; · simp at h)
  rcases l with _ | ⟨_, l⟩
  · exact ⟨_, _, _, _, _, _, _, _, _, _, _, _, _, _, _, _, _, _, _, _, rfl⟩
  · simp at h
noncomputable def bodyC : Code := Tryq.cc.body.getD .skip
noncomputable abbrev rc (n : Nat) : Array Oper := opsOf (headSeq (dropSeq n bodyC))
noncomputable abbrev kc (n : Nat) : Code := dropSeq n bodyC
section
variable {T : Frame → List Frame → World → Prop} {c : Frame} {xs : List Frame} {v : World}
theorem enterC (a : Array Value) : Frame.enter Tryq.prog 126 a .normal = (base 126).at ⟨a ++ Array.replicate (20 - a.size) undef, []⟩ [.code bodyC] := enter_at a Tryq.func126 rfl
abbrev atc (t : Array Value) (todo : List Item) : Frame := (base 126).at ⟨t, []⟩ todo
theorem c_alive (hG : Goal Tryq.prog T) (hxs : ∀ x ∈ c :: xs, x.defers = []) {t : Array Value} {ops : Array Oper} {i : Nat} {rest : List Nat} {k : List Item} {o : Oper} (hW : Wf Tryq.prog T (atc t (.inRegion ops (i :: rest) :: k)) (c :: xs) v) (ho : ops[i]? = some o) (hw : Region.wanted o (yielded ops t) = true) {h : Halt} {v' : World}
    (r : (execOp (atc t (.inRegion ops (i :: rest) :: k)).eval o).run Tryq.prog v = .halt h v') : ¬ Dead h :=
  wf_alive hG rfl rfl rfl hxs hW (deep_not hG) rfl rfl ho hw r
theorem c_size (hG : Goal Tryq.prog T) (hxs : ∀ x ∈ c :: xs, x.defers = []) {t : Array Value} (hW : Wf Tryq.prog T (atc t [.code bodyC]) (c :: xs) v) : ¬ 20 < t.size ∧
    Lds Tryq.prog T (atc t [.code bodyC]) (c :: xs) v (atc (t.setIfInBounds 20 (.pointer none)) (.inRegion (rc 1) (0 :: []) :: .code (kc 2) :: [])) (c :: xs) v := by
  have A : Lds Tryq.prog T (atc t [.code bodyC]) (c :: xs) v (atc (t.setIfInBounds 20 (.pointer none)) (.inRegion (rc 1) (0 :: []) :: .code (kc 2) :: [])) (c :: xs) v := by
    refine Lds.go hG stepG_seq ?_
    refine Lds.go hG stepG_region ?_
    refine Lds.go hG (stepG_value rfl (by rfl) (by k_ne) rfl) ?_
    refine Lds.go hG stepG_region_end ?_
    refine Lds.go hG stepG_seq ?_
    refine Lds.go hG stepG_region ?_
    exact .refl _ _ _
  refine ⟨fun hlt => ?_, A⟩
  have e : (atc (t.setIfInBounds 20 (.pointer none)) (.inRegion (rc 1) (0 :: []) :: .code (kc 2) :: [])).eval (.tmp 20) = .pointer none := by
    show (t.setIfInBounds 20 (.pointer none)).getD 20 undef = _
    simp [Array.getD_eq_getD_getElem?, hlt]
  refine c_alive hG hxs (wf_lds hW A) (o := (rc 1).getD 0 default) (by rfl) (by rfl) (h := .panic (.iface Tryq.prog.rt.errorString (strVal "invalid memory address or nil pointer dereference"))) (v' := v) ?_ trivial
  show (execOp _ ({ dst := none, op := Op.nilCheck (Operand.tmp 20), type := 0, pos := "", after := #[], guard := none } : Oper)).run Tryq.prog v = _
  unfold execOp
  simp only [e]
  rfl
theorem size_q (t : TypeId) {n : Nat} (h : ∀ w, (sizeOf t).run Tryz.prog w = .ok n w) (w : World) : (sizeOf t).run Tryq.prog w = .ok n w := by
  have h1 := h w
  unfold sizeOf typeInfo at h1 ⊢
  have e : Tryq.prog.info? t = Tryz.prog.info? t := rfl
  simp only [bind, Sem.bind, Sem.run, program, e] at h1 ⊢
  cases hi : Tryz.prog.info? t with
  | none => rw [hi] at h1; cases h1
  | some i => rw [hi] at h1; simp only [pure, Sem.bind, Sem.run] at h1 ⊢; cases h1; rfl
theorem field_run {P : Program} (hu : P.underlying 154 = Tryz.prog.underlying 154) (hs : ∀ w, (sizeOf 151).run P w = .ok 1 w) (a : Addr) (w : World) : (Instr.fieldAt 154 (.pointer (some a)) 0).run P w = .ok (.pointer (some a)) w := by
  rw [Tryz.underlying154] at hu
  simp [Instr.fieldAt, run_underlying hu, Instr.sureAddr, fieldPlace, hs, Addr.add]
theorem field_halt {b : Value} (hb : ∀ a, b ≠ .pointer (some a)) (w : World) : (Instr.fieldAt 154 b 0).run Tryq.prog w = .halt (.stuck "an address expected (no nilCheck in front?)") w := by
  have hu : Tryq.prog.underlying 154 = _ := Tryz.underlying154
  cases b
  case pointer a =>
    cases a with
    | none => simp [Instr.fieldAt, run_underlying hu, Instr.sureAddr, stuck]
    | some a => exact absurd rfl (hb a)
  all_goals simp [Instr.fieldAt, run_underlying hu, Instr.sureAddr, stuck]
theorem eqIn_halt {y : Value} (hy : ∀ o, y ≠ .pointer o) (d : Nat) (w : World) : (Op.equalIn (d + 1) 151 y (.pointer none)).run Tryq.prog w = .halt (.stuck "==: the operands do not fit the type, or the type is not comparable") w := by
  have hu : Tryq.prog.underlying 151 = _ := Tryz.underlying151
  unfold Op.equalIn
  show (Sem.bind (underlying 151) _).run _ _ = _
  rw [Sem.run_bind', run_underlying hu]
  cases y
  case pointer o => exact absurd rfl (hy o)
  all_goals rfl
theorem eql_halt {y : Value} (hy : ∀ o, y ≠ .pointer o) {ρ : Operand → Value} {X : Operand} (hX : ρ X = y) (hc : ∀ u, ρ (.const u) = u) (w : World) :
    (execOp ρ ({ dst := some 6, op := Op.binOp BinOp.eql 151 X (Operand.const (Value.pointer none)) 151, type := 4, pos := "", after := #[], guard := none } : Oper)).run Tryq.prog w = .halt (.stuck "==: the operands do not fit the type, or the type is not comparable") w := by
  have hb : (binOp .eql 151 y (.pointer none)).run Tryq.prog w = .halt (.stuck "==: the operands do not fit the type, or the type is not comparable") w := by
    have e : binOp .eql 151 y (.pointer none) = (do pure (.bool (← Op.equal 151 y (.pointer none))) : Sem Value) := by
      cases y <;> rfl
    rw [e]
    show (Sem.bind (Op.equalIn _ 151 y (.pointer none)) _).run _ _ = _
    have h1 := eqIn_halt hy (Op.maxDepth - 1) w
    rw [show Op.maxDepth - 1 + 1 = Op.maxDepth from by decide] at h1
    rw [Sem.run_bind', h1]
    rfl
  have hg : eqGuard .eql 151 X (.const (.pointer none)) y (.pointer none) = pure () := by
    cases y <;> rfl
  unfold execOp
  simp only [hX, hc]
  show (Sem.bind (Sem.bind (eqGuard .eql 151 X (.const (.pointer none)) y (.pointer none)) fun _ => binOp .eql 151 y (.pointer none)) _).run _ _ = _
  rw [hg, Sem.run_bind']
  show ((binOp .eql 151 y (.pointer none)).run _ _).andThen _ = _
  rw [hb]
  rfl
theorem ofBytes_plain {l v : Value} {bs : List UInt8} (h : l.ofBytes bs = some v) : ∀ o, v ≠ .pointer o := by
  intro o e
  subst e
  unfold Value.ofBytes at h
  split at h
  · split at h <;> cases h
  · split at h <;> cases h
  · split at h <;> cases h
  · split at h <;> cases h
  · cases h
/-- To the load; what is asked is a pointer. -/
theorem cc_begin (hG : Goal Tryq.prog T) (hxs : ∀ x ∈ c :: xs, x.defers = []) {t : Array Value} (ht : 20 ≤ t.size) (hW : Wf Tryq.prog T (atc t [.code bodyC]) (c :: xs) v) :
    ∃ (a : Addr) (v1 v2 v3 v4 v5 v6 v7 v8 v9 v10 v11 v12 v13 v14 v15 v16 v17 v18 v19 : Value), t = #[.pointer (some a), v1, v2, v3, v4, v5, v6, v7, v8, v9, v10, v11, v12, v13, v14, v15, v16, v17, v18, v19] ∧ Lds Tryq.prog T (atc t [.code bodyC]) (c :: xs) v (atc #[.pointer (some a), v1, v2, v3, .pointer (some a), v5, v6, v7, v8, v9, v10, v11, v12, v13, v14, v15, v16, v17, v18, v19] (.inRegion (rc 3) (0 :: []) :: .code (kc 4) :: [])) (c :: xs) v := by
  obtain ⟨h20, A⟩ := c_size hG hxs hW
  obtain ⟨v0, v1, v2, v3, v4, v5, v6, v7, v8, v9, v10, v11, v12, v13, v14, v15, v16, v17, v18, v19, rfl⟩ := array20 t (by omega)
  have A' : Lds Tryq.prog T (atc #[v0, v1, v2, v3, v4, v5, v6, v7, v8, v9, v10, v11, v12, v13, v14, v15, v16, v17, v18, v19] [.code bodyC]) (c :: xs) v (atc #[v0, v1, v2, v3, v4, v5, v6, v7, v8, v9, v10, v11, v12, v13, v14, v15, v16, v17, v18, v19] (.inRegion (rc 1) (0 :: []) :: .code (kc 2) :: [])) (c :: xs) v := A
  have B : Lds Tryq.prog T (atc #[v0, v1, v2, v3, v4, v5, v6, v7, v8, v9, v10, v11, v12, v13, v14, v15, v16, v17, v18, v19] (.inRegion (rc 1) (0 :: []) :: .code (kc 2) :: [])) (c :: xs) v (atc #[v0, v1, v2, v3, v4, v5, v6, v7, v8, v9, v10, v11, v12, v13, v14, v15, v16, v17, v18, v19] (.inRegion (rc 2) (0 :: []) :: .code (kc 3) :: [])) (c :: xs) v := by
    refine Lds.go hG (stepG_value (v := undef) rfl (by rfl) (by k_ne) rfl) ?_
    refine Lds.go hG stepG_region_end ?_
    refine Lds.go hG stepG_seq ?_
    refine Lds.go hG stepG_region ?_
    exact .refl _ _ _
  have L := A'.trans B
  have hb : ∃ a, v0 = .pointer (some a) := by
    refine Classical.byContradiction fun hno => ?_
    have hh := field_halt (b := v0) (fun a e => hno ⟨a, e⟩) v
    refine c_alive hG hxs (wf_lds hW L) (o := (rc 2).getD 0 default) (h := .stuck "an address expected (no nilCheck in front?)") (v' := v) (by rfl) (by rfl) ?_ trivial
    show (Sem.bind (Instr.fieldAt 154 v0 0) _).run _ _ = _
    rw [Sem.run_bind', hh]
    rfl
  obtain ⟨a, rfl⟩ := hb
  refine ⟨a, v1, v2, v3, v4, v5, v6, v7, v8, v9, v10, v11, v12, v13, v14, v15, v16, v17, v18, v19, rfl, L.trans ?_⟩
  refine Lds.go hG (stepG_value (o := (rc 2).getD 0 default) (v := .pointer (some a)) (by rfl) (by rfl) (by k_ne) (val_run (field_run (P := Tryq.prog) rfl (size_q 151 Tryz.sizeOf151) a v))) ?_
  refine Lds.go hG stepG_region_end ?_
  refine Lds.go hG stepG_seq ?_
  refine Lds.go hG stepG_region ?_
  exact .refl _ _ _
theorem load_eq (a : Addr) (w : World) : (Instr.loadAt 151 (.pointer (some a))).run Tryq.prog w = (load a).run Tryq.prog w := by
  have hi : ∀ w, (isAgg 151).run Tryq.prog w = .ok false w := fun w => by
    have hu : Tryq.prog.underlying 151 = _ := Tryz.underlying151
    unfold isAgg
    show (Sem.bind (underlying 151) _).run _ _ = _
    rw [Sem.run_bind', run_underlying hu]
    rfl
  simp [Instr.loadAt, Instr.sureAddr, loadVar, hi, size_q 151 Tryz.sizeOf151]
theorem viewLoad_plain {p : Program} {w : World} {s : Addr} {u : TypeId} {k : Addr} {b : Bool} {y : Value} {ts : List Addr} (h : w.viewLoad p s u k b = .ok (y, ts)) : ∀ o, y ≠ .pointer o := by
  unfold World.viewLoad at h
  cases hs : World.seen p w s u k b with
  | error e => rw [hs] at h; cases h
  | ok r =>
    obtain ⟨c, e, f, first, like, cells⟩ := r
    rw [hs] at h
    simp only [bind, Except.bind, throw, throwThe, MonadExceptOf.throw, pure, Except.pure] at h
    split at h
    · rename_i v hv
      cases h
      exact ofBytes_plain hv
    · cases h
theorem farLoad_plain {p : Program} {w : World} {a : Addr} {b : Bool} {y : Value} {ts : List Addr} (h : w.farLoad p a b = .ok (y, ts)) : ∀ o, y ≠ .pointer o := by
  unfold World.farLoad at h
  split at h
  · split at h
    · rename_i hr; cases h; exact viewLoad_plain hr
    · cases h
  · cases h
theorem eql_run {o : Option Addr} {ρ : Operand → Value} {X : Operand} (hX : ρ X = .pointer o) (hc : ∀ u, ρ (.const u) = u) (w : World) :
    (execOp ρ ({ dst := some 6, op := Op.binOp BinOp.eql 151 X (Operand.const (Value.pointer none)) 151, type := 4, pos := "", after := #[], guard := none } : Oper)).run Tryq.prog w = .ok (.value (.bool o.isNone)) w := by
  have hb : (binOp .eql 151 (.pointer o) (.pointer none)).run Tryq.prog w = .ok (.bool o.isNone) w := run_eql_pointer_nil w 151 o (by rfl)
  unfold execOp
  simp only [hX, hc]
  show (Sem.bind (Sem.bind (pure ()) fun _ => binOp .eql 151 (.pointer o) (.pointer none)) _).run _ _ = _
  rw [Sem.run_bind']
  show ((binOp .eql 151 (.pointer o) (.pointer none)).run _ _).andThen _ = _
  rw [hb]
  rfl
theorem cc_load (hv : OkWorld v) (hG : Goal Tryq.prog T) (hxs : ∀ x ∈ c :: xs, x.defers = []) {a : Addr} {v1 v2 v3 v4 v5 v6 v7 v8 v9 v10 v11 v12 v13 v14 v15 v16 v17 v18 v19 : Value} (hW : Wf Tryq.prog T (atc #[.pointer (some a), v1, v2, v3, .pointer (some a), v5, v6, v7, v8, v9, v10, v11, v12, v13, v14, v15, v16, v17, v18, v19] (.inRegion (rc 3) (0 :: []) :: .code (kc 4) :: [])) (c :: xs) v) :
    ∃ o5 : Option Addr, v.cell? a = some (.pointer o5) ∧ Lds Tryq.prog T (atc #[.pointer (some a), v1, v2, v3, .pointer (some a), v5, v6, v7, v8, v9, v10, v11, v12, v13, v14, v15, v16, v17, v18, v19] (.inRegion (rc 3) (0 :: []) :: .code (kc 4) :: [])) (c :: xs) v (atc #[.pointer (some a), v1, v2, v3, .pointer (some a), .pointer o5, .bool o5.isNone, v7, v8, v9, v10, v11, v12, v13, v14, v15, v16, v17, v18, v19] (.code (kc 5) :: [])) (c :: xs) v := by
  have go : ∀ y, (load a).run Tryq.prog v = .ok y v → ∃ o, y = .pointer o := by
    intro y hy
    refine Classical.byContradiction fun hno => ?_
    have L : Lds Tryq.prog T (atc #[.pointer (some a), v1, v2, v3, .pointer (some a), v5, v6, v7, v8, v9, v10, v11, v12, v13, v14, v15, v16, v17, v18, v19] (.inRegion (rc 3) (0 :: []) :: .code (kc 4) :: [])) (c :: xs) v (atc #[.pointer (some a), v1, v2, v3, .pointer (some a), y, v6, v7, v8, v9, v10, v11, v12, v13, v14, v15, v16, v17, v18, v19] (.inRegion (rc 4) (0 :: []) :: .code (kc 5) :: [])) (c :: xs) v := by
      refine Lds.go hG (stepG_value (o := (rc 3).getD 0 default) (v := y) (by rfl) (by rfl) (by k_ne) (val_run ((load_eq a v).trans hy))) ?_
      refine Lds.go hG stepG_region_end ?_
      refine Lds.go hG stepG_seq ?_
      refine Lds.go hG stepG_region ?_
      exact .refl _ _ _
    exact c_alive hG hxs (wf_lds hW L) (o := (rc 4).getD 0 default) (by rfl) (by rfl) (eql_halt (y := y) (fun o e => hno ⟨o, e⟩) rfl (fun _ => rfl) v) trivial
  have hrun : ∃ o5, v.cell? a = some (.pointer o5) := by
    cases hc : v.cell? a with
    | some y =>
      obtain ⟨o, rfl⟩ := go y (by show (Sem.load .plain a Sem.pure).run _ _ = _; simp only [Sem.run, hc])
      exact ⟨o, rfl⟩
    | none =>
      exfalso
      cases hf : v.farLoad Tryq.prog a false with
      | error e =>
        have hr : (load a).run Tryq.prog v = .halt e v := by show (Sem.load .plain a Sem.pure).run _ _ = _; simp only [Sem.run, hc]; rw [show (Mode.plain == Mode.atomic) = false from rfl, hf]
        have hdd : Dead e := by
          rcases hv.farLoad (SameLay.refl Tryq.prog) a false with ⟨e', h1, h2, -⟩ | ⟨x, ts, s, u, h1, -⟩
          · rw [hf] at h1; cases h1; exact h2
          · rw [hf] at h1; cases h1
        refine c_alive hG hxs hW (o := (rc 3).getD 0 default) (h := e) (v' := v) (by rfl) (by rfl) ?_ hdd
        show (Sem.bind (Instr.loadAt 151 (.pointer (some a))) _).run _ _ = _
        rw [Sem.run_bind', load_eq, hr]
        rfl
      | ok r =>
        obtain ⟨y, ts⟩ := r
        have hr : (load a).run Tryq.prog v = .ok y v := by show (Sem.load .plain a Sem.pure).run _ _ = _; simp only [Sem.run, hc]; rw [show (Mode.plain == Mode.atomic) = false from rfl, hf]
        obtain ⟨o, rfl⟩ := go y hr
        exact farLoad_plain hf o rfl
  obtain ⟨o5, hc⟩ := hrun
  refine ⟨o5, hc, ?_⟩
  have hr : (load a).run Tryq.prog v = .ok (.pointer o5) v := by show (Sem.load .plain a Sem.pure).run _ _ = _; simp only [Sem.run, hc]
  refine Lds.go hG (stepG_value (o := (rc 3).getD 0 default) (v := .pointer o5) (by rfl) (by rfl) (by k_ne) (val_run ((load_eq a v).trans hr))) ?_
  refine Lds.go hG stepG_region_end ?_
  refine Lds.go hG stepG_seq ?_
  refine Lds.go hG stepG_region ?_
  refine Lds.go hG (stepG_value (o := (rc 4).getD 0 default) (v := .bool o5.isNone) (w' := v) (by rfl) (by rfl) (by k_ne) (eql_run rfl (fun _ => rfl) v)) ?_
  refine Lds.go hG stepG_region_end ?_
  exact .refl _ _ _
end
theorem back_size {a : Addr} {z y : Value} {w w1 : World} (hc : w.cell? a = some z) (h : (convert 200 151 (.pointer (some a))).run Tryz.prog w = .ok y w1) : w1.heap.size ≤ w.heap.size + 1 := by
  obtain ⟨e, n, hsh, hlt, hsp⟩ := World.shape?_of_cell? hc
  obtain ⟨i, hi, hz⟩ := Option.map_eq_some_iff.1 (show (Tryz.prog.info? 154).map (fun i => decide (i.size = 0)) = some false by kernel_rfl)
  have hz' : i.size ≠ 0 := by simpa using hz
  simp [convert, Conv.unsafePointer, Conv.seenAt, viewAt, variablesAt, sizeOf, typeInfo, run_underlying Tryz.underlying151, run_underlying Tryz.underlying200, hi, hz', hsh] at h
  split at h
  · cases h; omega
  · split at h
    · cases h
    · cases h
      show (w.heap.push _).size ≤ _
      simp
theorem ev_eql (o : Option Addr) (w : World) : (binOp .eql 151 (.pointer o) (.pointer none)).events Tryz.prog w #[] = #[] := by
  cases o <;> rfl
theorem val_runP {P : Program} {s : Sem Value} {y : Value} {w w' : World} (h : s.run P w = .ok y w') : (do pure (.value (← s)) : Sem Next).run P w = .ok (.value y) w' := by
  show (s.bind _).run _ _ = _
  rw [Sem.run_bind', h]
  rfl
theorem unit_runP {P : Program} {s : Sem Unit} {w w' : World} (h : s.run P w = .ok () w') : (do s; pure .skip : Sem Next).run P w = .ok .skip w' := by
  show (s.bind _).run _ _ = _
  rw [Sem.run_bind', h]
  rfl
theorem ev_bindU {P : Program} {s : Sem Unit} {w w' : World} (h : s.run P w = .ok () w') : (s.bind fun _ => Sem.pure Next.skip).events P w #[] = s.events P w #[] := by
  have a := Sem.runT_eq (p := P) (s.bind fun _ => Sem.pure Next.skip) w #[]
  rw [runT_bind, Sem.runT_eq, h] at a
  simp only [Sem.runT, Prod.mk.injEq] at a
  exact a.2.symm
theorem twinA {α : Type} {H : HSet} {v w : World} {s : Sem α} (hf : Fine0 Tryq.prog Tryz.prog s) (hd : Hid H (re v w.tape w.drawn) w) (ha : ∀ {h : Halt} {v' : World}, s.run Tryq.prog (re v w.tape w.drawn) = .halt h v' → ¬ Dead h) :
    ∃ y u1 w1, s.run Tryq.prog (re v w.tape w.drawn) = .ok y u1 ∧ s.run Tryz.prog w = .ok y w1 ∧ Hid H u1 w1 ∧ w.heap.size ≤ w1.heap.size ∧ ∀ e ∈ s.events Tryz.prog w #[], EvOk H w1.heap.size e := by
  rcases Fine0.lock lay_wf hf (re v w.tape w.drawn) w #[] hd with ⟨y, u1, w1, es, r1, r2, h', sz, ev, st⟩ | ⟨h, v', r, d⟩
  · have r3 := Sem.runT_eq (p := Tryz.prog) s w #[]
    rw [r2] at r3
    simp only [Prod.mk.injEq] at r3
    refine ⟨y, u1, w1, r1, r3.1.symm, h', sz, fun e he => ?_⟩
    rw [← r3.2] at he
    exact (ev e he).elim (fun x => absurd x (by simp)) id
  · exact absurd d (ha r)
theorem pl_storeAt (t : TypeId) (a x : Value) : Pl Tryz.prog 0 (Instr.storeAt t a x) := by
  unfold Instr.storeAt storeVar
  refine pl_b0 (by cases a <;> first | trivial | (rename_i o; cases o <;> trivial)) fun b => pl_b0 (pl_size _) fun n => ?_
  exact pl_ite (pl_b0 (pl_stuck _) fun _ => pl_stores _ _ _) (pl_stores _ _ _)
/-- What reads shapes and objects only lays nothing. -/
def Ng (p : Program) {α : Type} : Sem α → Prop
  | .pure _ => True
  | .shape _ k => ∀ x, Ng p (k x)
  | .frozen _ k => ∀ x, Ng p (k x)
  | .getObj _ k => ∀ x, Ng p (k x)
  | .choose _ k => ∀ x, Ng p (k x)
  | .program k => Ng p (k p)
  | .halt _ => True
  | _ => False
theorem ng_run {p : Program} {α : Type} {s : Sem α} : ∀ {w : World} {a : α} {w' : World}, Ng p s → s.run p w = .ok a w' → w'.heap.size = w.heap.size := by
  induction s with
  | pure a => intro w b w' _ h; cases h; rfl
  | shape r k ih => intro w b w' hp h; exact ih _ (hp _) h
  | frozen r k ih => intro w b w' hp h; exact ih _ (hp _) h
  | getObj r k ih =>
    intro w b w' hp h
    simp only [Sem.run] at h
    split at h
    · cases h
    · exact ih _ (hp _) h
    · cases h
  | choose q k ih =>
    intro w b w' hp h
    simp only [Sem.run] at h
    split at h
    · exact ih _ (hp _) h
    · exact ih (w := { w with drawn := w.drawn + 1 }) _ (hp _) h
  | program k ih => intro w b w' hp h; exact ih p hp h
  | halt x => intro w b w' _ h; cases h
  | _ => intro w b w' hp; cases hp
theorem ng_bind {p : Program} {α β : Type} {s : Sem α} {f : α → Sem β} (h : Ng p s) (k : ∀ a, Ng p (f a)) : Ng p (s >>= f) := by
  induction s with
  | pure a => exact k a
  | shape r g ih => exact fun x => ih x (h x)
  | frozen r g ih => exact fun x => ih x (h x)
  | getObj r g ih => exact fun x => ih x (h x)
  | choose q g ih => exact fun x => ih x (h x)
  | program g ih => exact ih p h
  | halt x => trivial
  | _ => cases h
theorem ng_ite {p : Program} {α : Type} {c : Prop} [Decidable c] {a b : Sem α} (h : Ng p a) (k : Ng p b) : Ng p (if c then a else b) := by split <;> assumption
theorem ng_neq (a b : Addr) : Ng Tryz.prog (binOp .neq 151 (.pointer (some a)) (.pointer (some b))) := by
  have hs : ∀ c : Addr, Ng Tryz.prog (stringish c) := fun c => ng_bind (s := frozen c) (fun _ => trivial) fun z => ng_ite trivial (ng_bind (s := shape c.block) (fun _ => trivial) fun y => by
    cases y with
    | none => trivial
    | some r => exact fun _ => trivial)
  have hv : ∀ c : Addr, Ng Tryz.prog (noView c) := fun c => by
    refine ng_bind (s := viewAt c.block) ?_ fun z => ng_ite trivial trivial
    unfold viewAt
    refine ng_bind (ng_bind (s := shape c.block) (fun _ => trivial) fun _ => trivial) fun z => ng_ite trivial (ng_bind (s := getObj c.block) (fun _ => trivial) fun o => ?_)
    cases o <;> trivial
  have hm : ∀ c d : Addr, Ng Tryz.prog (mayBeOne c d) := fun c d => by
    unfold mayBeOne
    refine ng_bind (hs c) fun z => ng_bind (hs d) fun z' => ?_
    refine ng_bind (ng_bind (s := shape c.block) (fun _ => trivial) fun _ => trivial) fun _ => ?_
    exact ng_bind (ng_bind (s := shape d.block) (fun _ => trivial) fun _ => trivial) fun _ => trivial
  have ha : Ng Tryz.prog (sameAddr a b) := by
    unfold sameAddr
    have tl : Ng Tryz.prog (do
        noView a
        noView b
        if ← mayBeOne a b then return (← choose (.extern "sameAddr.stringBytes" 2)) == 1
        pure false) := ng_bind (hv a) fun _ => ng_bind (hv b) fun _ => ng_bind (hm a b) fun _ => ng_ite (ng_bind (s := choose _) (fun _ => trivial) fun _ => trivial) trivial
    refine ng_ite trivial ?_
    refine ng_bind (s := frozen a) (fun _ => trivial) fun z => ?_
    exact ng_bind (s := frozen b) (fun _ => trivial) fun z => ng_ite trivial tl
  show Ng Tryz.prog (Sem.bind (Op.equalIn _ 151 _ _) _)
  refine ng_bind (s := Op.equalIn _ 151 _ _) ?_ fun _ => trivial
  have hu : Tryz.prog.underlying 151 = _ := Tryz.underlying151
  unfold Op.maxDepth Op.equalIn
  have hu2 : ∀ {f : TypeDesc → Sem Bool} {d : TypeDesc}, Tryz.prog.underlying 151 = some d → Ng Tryz.prog (f d) → Ng Tryz.prog (underlying 151 >>= f) := fun {f d} h k => by
    have e : (underlying 151 >>= f) = Sem.program fun p => ((match p.underlying 151 with | some d => pure d | none => stuck "no such type" : Sem TypeDesc) >>= f) := rfl
    rw [e]
    show Ng Tryz.prog ((match Tryz.prog.underlying 151 with | some d => pure d | none => stuck "no such type" : Sem TypeDesc) >>= f)
    rw [h]
    exact k
  refine hu2 hu ?_
  refine ng_bind (s := sizeOf _) (ng_bind (s := typeInfo 154) (by
    show Ng Tryz.prog (match Tryz.prog.info? 154 with | some i => pure i | none => stuck "no such type" : Sem TypeInfo)
    cases Tryz.prog.info? 154 <;> trivial) fun _ => trivial) fun n => ?_
  refine ng_ite ha ?_
  refine ng_ite trivial ?_
  exact ng_bind (s := choose _) (fun _ => trivial) fun _ => trivial
theorem val_run2 {P : Program} {s : Sem Value} {y : Value} {w w' : World} (h : s.run P w = .ok y w') : (Sem.bind (Sem.bind (pure ()) fun _ => s) fun v => pure (Next.value v)).run P w = .ok (.value y) w' := by
  show (s.bind _).run _ _ = _
  rw [Sem.run_bind', h]
  rfl
theorem neq_bool {a b : Addr} {P : Program} {w w' : World} {y : Value} (h : (binOp .neq 151 (.pointer (some a)) (.pointer (some b))).run P w = .ok y w') : ∃ z, y = .bool z := by
  have e : binOp .neq 151 (.pointer (some a)) (.pointer (some b)) = (Op.equal 151 (.pointer (some a)) (.pointer (some b))).bind fun z => pure (.bool !z) := rfl
  rw [e, Sem.run_bind'] at h
  cases hr : (Op.equal 151 (.pointer (some a)) (.pointer (some b))).run P w with
  | ok z w1 => rw [hr] at h; cases h; exact ⟨_, rfl⟩
  | halt x w1 => rw [hr] at h; cases h
theorem conv_ev {P : Program} {ρ : Operand → Value} {o : Oper} {s d : TypeId} {X : Operand} {x y : Value} {w w' : World} (ho : o.op = .convert s d X) (hX : ρ X = x) (h : (convert s d x).run P w = .ok y w') : (execOp ρ o).events P w #[] = (convert s d x).events P w #[] := by
  unfold execOp
  simp only [ho, hX]
  exact ev_bind h
theorem store_ev {P : Program} {ρ : Operand → Value} {o : Oper} {t : TypeId} {X Y : Operand} {x y : Value} {w w' : World} (ho : o.op = .store t X Y) (hX : ρ X = x) (hY : ρ Y = y) (h : (Instr.storeAt t x y).run P w = .ok () w') : (execOp ρ o).events P w #[] = (Instr.storeAt t x y).events P w #[] := by
  unfold execOp
  simp only [ho, hX, hY]
  exact ev_bindU h
theorem find149 : Extern.findNext Tryz.f149 = none ∧ Extern.find Tryz.f149 = some Extern.AbiNoEscape.same := ⟨by kernel_rfl, by kernel_rfl⟩
noncomputable def cX : Code := match kc 5 with | .cond _ x _ => x | _ => .skip
noncomputable def cY : Code := match kc 5 with | .cond _ _ y => y | _ => .skip
noncomputable def bodyCP : Code := Tryz.f126.body.getD .skip
section
variable {T : Frame → List Frame → World → Prop} {c : Frame} {xs bP : List Frame} {v w : World} {H : HSet}
theorem enterCP (a : Array Value) : Frame.enter Tryz.prog 126 a .normal = (base 126).at ⟨a ++ Array.replicate (20 - a.size) undef, []⟩ [.code bodyCP] := enter_at a Tryz.func126 rfl
theorem phase_cc (hG : Goal Tryq.prog T) : Phase Tryq.prog Tryz.prog 126 T bP := by
  intro args c xs H gs v w sl t q hxs h0 S hW
  rw [enterCP] at h0
  rw [enterC] at hW ⊢
  obtain ⟨a, v1, v2, v3, v4, v5, v6, v7, v8, v9, v10, v11, v12, v13, v14, v15, v16, v17, v18, v19, htm, L0⟩ := cc_begin hG hxs (by simp; omega) hW
  rw [htm] at h0 L0 hW ⊢
  have hd := S.hid
  obtain ⟨o5, hc, L1⟩ := cc_load (v4 := undef) hd.ok hG hxs (wf_lds hW L0)
  have L := L0.trans L1
  clear L0 L1
  obtain ⟨frQ, hfr⟩ : ∃ f, f = atc #[.pointer (some a), v1, v2, v3, v4, v5, v6, v7, v8, v9, v10, v11, v12, v13, v14, v15, v16, v17, v18, v19] [.code bodyC] := ⟨_, rfl⟩
  have hW1 : Wf Tryq.prog T frQ (c :: xs) v := by rw [hfr]; exact hW
  replace L := (show Lds Tryq.prog T frQ (c :: xs) v _ _ _ by rw [hfr]; exact L)
  obtain ⟨Shun, B, hP, hSh⟩ := S.past
  obtain ⟨B', hB'⟩ : ∃ B', B' = max B (w.heap.size + 2) := ⟨_, rfl⟩
  obtain ⟨nh, hcw, ltw⟩ := hd.cell_some hc
  have nSh : ¬ Shun (.cell a) := fun hs => by
    obtain ⟨b, e, hH⟩ := hSh _ hs
    cases e
    exact nh hH
  have main : Goes Tryz.prog true AtRel (DE (EvL Shun B')) (fun g u => ∃ v', g = G (c.finish (.tuple #[])) (xs ++ bP) ∧ Lds Tryq.prog T frQ (c :: xs) v (c.finish (.tuple #[])) xs v' ∧ Hid H v' u) 60
      (G ((base 126).at ⟨#[.pointer (some a), v1, v2, v3, v4, v5, v6, v7, v8, v9, v10, v11, v12, v13, v14, v15, v16, v17, v18, v19], []⟩ [.code bodyCP]) (c :: xs ++ bP)) w := by
    have hF : w.cell? a = some (.pointer o5) ∧ w.heap.size ≤ w.heap.size ∧ Hid H (re v w.tape w.drawn) w := ⟨hcw, Nat.le_refl _, by rw [re_of_hid hd]; exact hd⟩
    have rl : ∀ {u u' : World}, (u.cell? a = some (.pointer o5) ∧ u.heap.size ≤ w.heap.size ∧ Hid H (re v u.tape u.drawn) u) → AtRel u u' → (u'.cell? a = some (.pointer o5) ∧ u'.heap.size ≤ w.heap.size ∧ Hid H (re v u'.tape u'.drawn) u') := fun h r => by
      obtain ⟨d, hd⟩ := id r
      subst hd
      exact ⟨h.1, h.2.1, hid_at h.2.2 r⟩
    have evA : EvL Shun B' ⟨.cell a, false, false⟩ := evL_cell a false nSh (by omega)
    simp only [bodyCP, Tryz.f126, Option.getD_some]
    refine Goes.step rfl (fun _ h₁ => ?_); replace hF := rl hF h₁; clear h₁; rw [stepG_seq]; simp only [goes_go]; refine ⟨(by first | exact (fun e he => absurd he (by simp)) | exact ⟨⟨_, rfl⟩, by simp⟩ | exact ⟨fun _ _ _ => rfl, by simp⟩ | exact ⟨fun _ _ => rfl, by simp⟩ | exact ⟨Aside.refl _ _, by simp⟩), ?_⟩
    refine Goes.step rfl (fun _ h₁ => ?_); replace hF := rl hF h₁; clear h₁; rw [stepG_region]; simp only [goes_go, List.size_toArray, List.length_cons, List.length_nil, Nat.reduceAdd, Nat.zero_add, List.range, List.range.loop]; refine ⟨(by first | exact (fun e he => absurd he (by simp)) | exact ⟨⟨_, rfl⟩, by simp⟩ | exact ⟨fun _ _ _ => rfl, by simp⟩ | exact ⟨fun _ _ => rfl, by simp⟩ | exact ⟨Aside.refl _ _, by simp⟩), ?_⟩
    refine Goes.step rfl (fun _ h₁ => ?_); replace hF := rl hF h₁; clear h₁; refine goes_oper_k rfl rfl (by k_ne) (fun K hK => ?_); go_simp; refine hK _ _ ⟨by rw [show listed _ _ _ _ _ = #[] from listed_nil (by simp [go_sem, *])]; exact (by first | exact (fun e he => absurd he (by simp)) | exact ⟨⟨_, rfl⟩, by simp⟩ | exact ⟨fun _ _ _ => rfl, by simp⟩ | exact ⟨fun _ _ => rfl, by simp⟩ | exact ⟨Aside.refl _ _, by simp⟩), ?_⟩; clear hK K; try walk_nrm
    refine Goes.step rfl (fun _ h₁ => ?_); replace hF := rl hF h₁; clear h₁; refine goes_oper_k rfl rfl (by k_ne) (fun K hK => ?_); go_simp; refine hK _ _ ⟨by rw [show listed _ _ _ _ _ = #[] from listed_nil (by simp [go_sem, *])]; exact (by first | exact (fun e he => absurd he (by simp)) | exact ⟨⟨_, rfl⟩, by simp⟩ | exact ⟨fun _ _ _ => rfl, by simp⟩ | exact ⟨fun _ _ => rfl, by simp⟩ | exact ⟨Aside.refl _ _, by simp⟩), ?_⟩; clear hK K; try walk_nrm
    refine Goes.step rfl (fun _ h₁ => ?_); replace hF := rl hF h₁; clear h₁; refine goes_oper_k rfl rfl (by k_ne) (fun K hK => ?_); go_simp; refine hK _ _ ⟨by rw [show listed _ _ _ _ _ = #[] from listed_nil (by simp [go_sem, *])]; exact (by first | exact (fun e he => absurd he (by simp)) | exact ⟨⟨_, rfl⟩, by simp⟩ | exact ⟨fun _ _ _ => rfl, by simp⟩ | exact ⟨fun _ _ => rfl, by simp⟩ | exact ⟨Aside.refl _ _, by simp⟩), ?_⟩; clear hK K; try walk_nrm
    refine Goes.step rfl (fun _ h₁ => ?_); replace hF := rl hF h₁; clear h₁; refine goes_oper_k rfl rfl (by k_ne) (fun K hK => ?_); have hx := hF.1; go_simp; refine hK _ _ ⟨fun e he => ?_, ?_⟩; (· have hm := mem_listed he; simp [go_sem, *] at hm; subst hm; exact evA); clear hK K hx; try walk_nrm
    refine Goes.step rfl (fun _ h₁ => ?_); replace hF := rl hF h₁; clear h₁
    refine goes_oper_k rfl rfl (by k_ne) (fun K hK => ?_)
    go_simp
    refine hK _ _ ⟨by rw [show listed _ _ _ _ _ = #[] from listed_nil (by simp [go_sem]; exact ev_eql o5 _)]; exact (by first | exact (fun e he => absurd he (by simp)) | exact ⟨⟨_, rfl⟩, by simp⟩ | exact ⟨fun _ _ _ => rfl, by simp⟩ | exact ⟨fun _ _ => rfl, by simp⟩ | exact ⟨Aside.refl _ _, by simp⟩), ?_⟩
    clear hK K
    try walk_nrm
    refine Goes.step rfl (fun _ h₁ => ?_); replace hF := rl hF h₁; clear h₁; rw [stepG_region_end]; simp only [goes_go]; refine ⟨(by first | exact (fun e he => absurd he (by simp)) | exact ⟨⟨_, rfl⟩, by simp⟩ | exact ⟨fun _ _ _ => rfl, by simp⟩ | exact ⟨fun _ _ => rfl, by simp⟩ | exact ⟨Aside.refl _ _, by simp⟩), ?_⟩
    cases o5 with
    | none =>
      refine Goes.step rfl (fun _ h₁ => ?_); replace hF := rl hF h₁; clear h₁; rw [stepG_cond (t := true) rfl]; simp only [goes_go, if_true, if_false, Bool.false_eq_true, ↓reduceIte]; refine ⟨(by first | exact (fun e he => absurd he (by simp)) | exact ⟨⟨_, rfl⟩, by simp⟩ | exact ⟨fun _ _ _ => rfl, by simp⟩ | exact ⟨fun _ _ => rfl, by simp⟩ | exact ⟨Aside.refl _ _, by simp⟩), ?_⟩
      refine Goes.step rfl (fun _ h₁ => ?_); replace hF := rl hF h₁; clear h₁; rw [stepG_region]; simp only [goes_go, List.size_toArray, List.length_cons, List.length_nil, Nat.reduceAdd, Nat.zero_add, List.range, List.range.loop]; refine ⟨(by first | exact (fun e he => absurd he (by simp)) | exact ⟨⟨_, rfl⟩, by simp⟩ | exact ⟨fun _ _ _ => rfl, by simp⟩ | exact ⟨fun _ _ => rfl, by simp⟩ | exact ⟨Aside.refl _ _, by simp⟩), ?_⟩
      refine Goes.step rfl (fun _ h₁ => ?_); replace hF := rl hF h₁; clear h₁; refine goes_oper_k rfl rfl (by k_ne) (fun K hK => ?_); go_simp; refine hK _ _ ⟨by rw [show listed _ _ _ _ _ = #[] from listed_nil (by simp [go_sem, *])]; exact (by first | exact (fun e he => absurd he (by simp)) | exact ⟨⟨_, rfl⟩, by simp⟩ | exact ⟨fun _ _ _ => rfl, by simp⟩ | exact ⟨fun _ _ => rfl, by simp⟩ | exact ⟨Aside.refl _ _, by simp⟩), ?_⟩; clear hK K; try walk_nrm
      refine Goes.step rfl (fun _ h₁ => ?_); replace hF := rl hF h₁; clear h₁; refine goes_oper_k rfl rfl (by k_ne) (fun K hK => ?_); go_simp; refine hK _ _ ⟨by rw [show listed _ _ _ _ _ = #[] from listed_nil (by simp [go_sem, *])]; exact (by first | exact (fun e he => absurd he (by simp)) | exact ⟨⟨_, rfl⟩, by simp⟩ | exact ⟨fun _ _ _ => rfl, by simp⟩ | exact ⟨fun _ _ => rfl, by simp⟩ | exact ⟨Aside.refl _ _, by simp⟩), ?_⟩; clear hK K; try walk_nrm
      refine Goes.step rfl (fun _ h₁ => ?_); replace hF := rl hF h₁; clear h₁
      rw [stepG_value (v := .pointer (some a)) (w' := _) rfl (by rfl) (by k_ne) (val_runP (run_convert_to_unsafe Tryz.underlying151 Tryz.underlying200 (by kernel_rfl) hF.1))]
      simp only [goes_go]
      refine ⟨by rw [listed_nil ((ev_bind (run_convert_to_unsafe Tryz.underlying151 Tryz.underlying200 (by kernel_rfl) hF.1)).trans (events_convert_to_unsafe Tryz.underlying151 Tryz.underlying200 (by kernel_rfl) hF.1 #[]))]; exact (by first | exact (fun e he => absurd he (by simp)) | exact ⟨⟨_, rfl⟩, by simp⟩ | exact ⟨fun _ _ _ => rfl, by simp⟩ | exact ⟨fun _ _ => rfl, by simp⟩ | exact ⟨Aside.refl _ _, by simp⟩), ?_⟩
      walk_nrm
      refine Goes.step rfl (fun _ h₁ => ?_); replace hF := rl hF h₁; clear h₁
      rw [stepG_entry (v := .pointer (some a)) (evs := #[]) rfl (by rfl) (by k_ne) rfl Tryz.func149 (by kernel_rfl) (by kernel_rfl) find149.1 find149.2 (w' := _) (by rw [show (Array.map _ #[Operand.tmp 9] : Array Value) = #[.pointer (some a)] from by simp [Act.eval]]; rfl) (by rw [show (Array.map _ #[Operand.tmp 9] : Array Value) = #[.pointer (some a)] from by simp [Act.eval]]; rfl) (by simp)]
      simp only [goes_go]
      refine ⟨(by first | exact (fun e he => absurd he (by simp)) | exact ⟨⟨_, rfl⟩, by simp⟩ | exact ⟨fun _ _ _ => rfl, by simp⟩ | exact ⟨fun _ _ => rfl, by simp⟩ | exact ⟨Aside.refl _ _, by simp⟩), ?_⟩
      walk_nrm
      have L2 : Lds Tryq.prog T frQ (c :: xs) v (atc #[.pointer (some a), v1, v2, v3, (.pointer (some a)), .pointer none, .bool true, v7, v8, v9, v10, v11, v12, v13, v14, v15, v16, v17, v18, v19] (.inRegion (opsOf (headSeq cX)) (0 :: []) :: .code (dropSeq 1 cX) :: [])) (c :: xs) v := by
        refine L.trans ?_
        refine Lds.go hG (stepG_cond (t := true) rfl) ?_
        refine Lds.go hG stepG_seq ?_
        refine Lds.go hG stepG_region ?_
        exact .refl _ _ _
      refine Goes.step rfl (fun u₁ h₁ => ?_)
      replace hF := rl hF h₁
      clear h₁
      obtain ⟨y, u1, w1, r1, r2, hd1, s1, ev1⟩ := twinA (s := convert 200 151 (.pointer (some a))) (fine_convPtr Tryz.underlying200 Tryz.underlying151 _) hF.2.2 (fun {h v'} r dd => by
        refine c_alive hG hxs ((wf_lds hW1 L2).at_re hG u₁.tape u₁.drawn) (o := (opsOf (headSeq cX)).getD 0 default) (h := h) (v' := v') (by rfl) (by rfl) ?_ dd
        show (Sem.bind (convert 200 151 (.pointer (some a))) _).run _ _ = _
        rw [Sem.run_bind', r]
        rfl)
      have s2 := back_size hF.1 r2
      rw [stepG_value (v := y) (w' := w1) rfl (by rfl) (by k_ne) (val_runP r2)]
      simp only [goes_go]
      refine ⟨fun e he => ?_, ?_⟩
      · have hm := mem_listed he
        rw [conv_ev (x := .pointer (some a)) rfl rfl r2] at hm
        exact evL_of hSh ((ev1 e hm).mono (by have := hF.2.1; omega))
      walk_nrm
      have L3 : Lds Tryq.prog T frQ (c :: xs) v (atc #[.pointer (some a), v1, v2, v3, (.pointer (some a)), .pointer none, .bool true, v7, v8, v9, v10, y, v12, v13, v14, v15, v16, v17, v18, v19] (.inRegion (opsOf (dropSeq 1 cX)) (0 :: []) :: [])) (c :: xs) u1 := by
        refine L2.trans ?_
        refine Lds.re hG u₁.tape u₁.drawn (stepG_value (v := y) (o := (opsOf (headSeq cX)).getD 0 default) (by rfl) (by rfl) (by k_ne) (val_runP r1)) ?_
        refine Lds.go hG stepG_region_end ?_
        refine Lds.go hG stepG_region ?_
        exact .refl _ _ _
      have hF2 : w1.heap.size ≤ w.heap.size + 1 ∧ Hid H (re u1 w1.tape w1.drawn) w1 := ⟨by have := hF.2.1; omega, hid_re hd1⟩
      clear hF rl
      have hF := hF2
      have rl : ∀ {u u' : World}, (u.heap.size ≤ w.heap.size + 1 ∧ Hid H (re u1 u.tape u.drawn) u) → AtRel u u' → (u'.heap.size ≤ w.heap.size + 1 ∧ Hid H (re u1 u'.tape u'.drawn) u') := fun h r => by
        obtain ⟨d, hd⟩ := id r
        subst hd
        exact ⟨h.1, hid_at h.2 r⟩
      refine Goes.step rfl (fun _ h₁ => ?_); replace hF := rl hF h₁; clear h₁; refine goes_oper_k rfl rfl (by k_ne) (fun K hK => ?_); go_simp; refine hK _ _ ⟨by rw [show listed _ _ _ _ _ = #[] from listed_nil (by simp [go_sem, *])]; exact (by first | exact (fun e he => absurd he (by simp)) | exact ⟨⟨_, rfl⟩, by simp⟩ | exact ⟨fun _ _ _ => rfl, by simp⟩ | exact ⟨fun _ _ => rfl, by simp⟩ | exact ⟨Aside.refl _ _, by simp⟩), ?_⟩; clear hK K; try walk_nrm
      refine Goes.step rfl (fun _ h₁ => ?_); replace hF := rl hF h₁; clear h₁; refine goes_oper_k rfl rfl (by k_ne) (fun K hK => ?_); go_simp; refine hK _ _ ⟨by rw [show listed _ _ _ _ _ = #[] from listed_nil (by simp [go_sem, *])]; exact (by first | exact (fun e he => absurd he (by simp)) | exact ⟨⟨_, rfl⟩, by simp⟩ | exact ⟨fun _ _ _ => rfl, by simp⟩ | exact ⟨fun _ _ => rfl, by simp⟩ | exact ⟨Aside.refl _ _, by simp⟩), ?_⟩; clear hK K; try walk_nrm
      refine Goes.step rfl (fun u₂ h₂ => ?_)
      replace hF := rl hF h₂
      clear h₂
      obtain ⟨⟨⟩, u2, w2, r3, r4, hd2, s3, ev2⟩ := twinA (s := Instr.storeAt 151 (.pointer (some a)) y) (fine_storeAt _ _ _) hF.2 (fun {h v'} r dd => by
        refine c_alive hG hxs ((wf_lds hW1 L3).at_re hG u₂.tape u₂.drawn) (o := (opsOf (dropSeq 1 cX)).getD 0 default) (h := h) (v' := v') (by rfl) (by rfl) ?_ dd
        show (Sem.bind (Instr.storeAt 151 (.pointer (some a)) y) _).run _ _ = _
        rw [Sem.run_bind', r]
        rfl)
      have s4 : w2.heap.size ≤ u₂.heap.size := by
        have := Sem.runT_eq (p := Tryz.prog) (Instr.storeAt 151 (.pointer (some a)) y) u₂ #[]
        rw [r4] at this
        exact (pl_run (pl_storeAt 151 (.pointer (some a)) y) this).1
      rw [stepG_none (w' := w2) rfl (by rfl) (by k_ne) (unit_runP r4)]
      simp only [goes_go]
      refine ⟨fun e he => ?_, ?_⟩
      · have hm := mem_listed he
        rw [store_ev (x := .pointer (some a)) (y := y) rfl rfl rfl r4] at hm
        exact evL_of hSh ((ev2 e hm).mono (by have := hF.1; omega))
      walk_nrm
      have hF2 : Hid H (re u2 w2.tape w2.drawn) w2 := hid_re hd2
      clear hF rl
      have hF := hF2
      have rl : ∀ {u u' : World}, Hid H (re u2 u.tape u.drawn) u → AtRel u u' → Hid H (re u2 u'.tape u'.drawn) u' := fun h r => hid_at h r
      refine Goes.step rfl (fun _ h₁ => ?_); replace hF := rl hF h₁; clear h₁; rw [stepG_region_end]; simp only [goes_go]; refine ⟨(by first | exact (fun e he => absurd he (by simp)) | exact ⟨⟨_, rfl⟩, by simp⟩ | exact ⟨fun _ _ _ => rfl, by simp⟩ | exact ⟨fun _ _ => rfl, by simp⟩ | exact ⟨Aside.refl _ _, by simp⟩), ?_⟩
      refine Goes.step rfl (fun _ h₁ => ?_); replace hF := rl hF h₁; clear h₁; rw [stepG_end]; simp only [goes_go]; refine ⟨(by first | exact (fun e he => absurd he (by simp)) | exact ⟨⟨_, rfl⟩, by simp⟩ | exact ⟨fun _ _ _ => rfl, by simp⟩ | exact ⟨fun _ _ => rfl, by simp⟩ | exact ⟨Aside.refl _ _, by simp⟩), ?_⟩
      refine Goes.step rfl (fun _ h₁ => ?_); replace hF := rl hF h₁; clear h₁
      rw [stepG_leave rfl rfl Tryz.func126 (results_none rfl _ _ _) (events_results_none rfl _ _)]
      simp only [goes_go]
      refine ⟨(by first | exact (fun e he => absurd he (by simp)) | exact ⟨⟨_, rfl⟩, by simp⟩ | exact ⟨fun _ _ _ => rfl, by simp⟩ | exact ⟨fun _ _ => rfl, by simp⟩ | exact ⟨Aside.refl _ _, by simp⟩), ?_⟩
      refine Goes.stop fun u₃ r₃ => ⟨re u2 u₃.tape u₃.drawn, rfl, L3.trans ?_, rl hF r₃⟩
      refine Lds.re hG u₂.tape u₂.drawn (stepG_none (o := (opsOf (dropSeq 1 cX)).getD 0 default) (by rfl) (by rfl) (by k_ne) (unit_runP r3)) ?_
      refine Lds.go hG stepG_region_end ?_
      refine Lds.go hG stepG_end ?_
      refine .head ⟨deep_not hG, u₃.tape, u₃.drawn, _, stepG_leave rfl rfl Tryq.func126 (results_none rfl _ _ _) (events_results_none rfl _ _)⟩ ?_
      exact .refl _ _ _
    | some o =>
      refine Goes.step rfl (fun _ h₁ => ?_); replace hF := rl hF h₁; clear h₁; rw [stepG_cond (t := false) rfl]; simp only [goes_go, if_true, if_false, Bool.false_eq_true, ↓reduceIte]; refine ⟨(by first | exact (fun e he => absurd he (by simp)) | exact ⟨⟨_, rfl⟩, by simp⟩ | exact ⟨fun _ _ _ => rfl, by simp⟩ | exact ⟨fun _ _ => rfl, by simp⟩ | exact ⟨Aside.refl _ _, by simp⟩), ?_⟩
      refine Goes.step rfl (fun _ h₁ => ?_); replace hF := rl hF h₁; clear h₁; rw [stepG_seq]; simp only [goes_go]; refine ⟨(by first | exact (fun e he => absurd he (by simp)) | exact ⟨⟨_, rfl⟩, by simp⟩ | exact ⟨fun _ _ _ => rfl, by simp⟩ | exact ⟨fun _ _ => rfl, by simp⟩ | exact ⟨Aside.refl _ _, by simp⟩), ?_⟩
      refine Goes.step rfl (fun _ h₁ => ?_); replace hF := rl hF h₁; clear h₁; rw [stepG_region]; simp only [goes_go, List.size_toArray, List.length_cons, List.length_nil, Nat.reduceAdd, Nat.zero_add, List.range, List.range.loop]; refine ⟨(by first | exact (fun e he => absurd he (by simp)) | exact ⟨⟨_, rfl⟩, by simp⟩ | exact ⟨fun _ _ _ => rfl, by simp⟩ | exact ⟨fun _ _ => rfl, by simp⟩ | exact ⟨Aside.refl _ _, by simp⟩), ?_⟩
      refine Goes.step rfl (fun _ h₁ => ?_); replace hF := rl hF h₁; clear h₁; refine goes_oper_k rfl rfl (by k_ne) (fun K hK => ?_); go_simp; refine hK _ _ ⟨by rw [show listed _ _ _ _ _ = #[] from listed_nil (by simp [go_sem, *])]; exact (by first | exact (fun e he => absurd he (by simp)) | exact ⟨⟨_, rfl⟩, by simp⟩ | exact ⟨fun _ _ _ => rfl, by simp⟩ | exact ⟨fun _ _ => rfl, by simp⟩ | exact ⟨Aside.refl _ _, by simp⟩), ?_⟩; clear hK K; try walk_nrm
      refine Goes.step rfl (fun _ h₁ => ?_); replace hF := rl hF h₁; clear h₁; refine goes_oper_k rfl rfl (by k_ne) (fun K hK => ?_); go_simp; refine hK _ _ ⟨by rw [show listed _ _ _ _ _ = #[] from listed_nil (by simp [go_sem, *])]; exact (by first | exact (fun e he => absurd he (by simp)) | exact ⟨⟨_, rfl⟩, by simp⟩ | exact ⟨fun _ _ _ => rfl, by simp⟩ | exact ⟨fun _ _ => rfl, by simp⟩ | exact ⟨Aside.refl _ _, by simp⟩), ?_⟩; clear hK K; try walk_nrm
      refine Goes.step rfl (fun _ h₁ => ?_); replace hF := rl hF h₁; clear h₁; refine goes_oper_k rfl rfl (by k_ne) (fun K hK => ?_); go_simp; refine hK _ _ ⟨by rw [show listed _ _ _ _ _ = #[] from listed_nil (by simp [go_sem, *])]; exact (by first | exact (fun e he => absurd he (by simp)) | exact ⟨⟨_, rfl⟩, by simp⟩ | exact ⟨fun _ _ _ => rfl, by simp⟩ | exact ⟨fun _ _ => rfl, by simp⟩ | exact ⟨Aside.refl _ _, by simp⟩), ?_⟩; clear hK K; try walk_nrm
      refine Goes.step rfl (fun _ h₁ => ?_); replace hF := rl hF h₁; clear h₁; refine goes_oper_k rfl rfl (by k_ne) (fun K hK => ?_); have hx := hF.1; go_simp; refine hK _ _ ⟨fun e he => ?_, ?_⟩; (· have hm := mem_listed he; simp [go_sem, *] at hm; subst hm; exact evA); clear hK K hx; try walk_nrm
      refine Goes.step rfl (fun _ h₁ => ?_); replace hF := rl hF h₁; clear h₁; refine goes_oper_k rfl rfl (by k_ne) (fun K hK => ?_); go_simp; refine hK _ _ ⟨by rw [show listed _ _ _ _ _ = #[] from listed_nil (by simp [go_sem, *])]; exact (by first | exact (fun e he => absurd he (by simp)) | exact ⟨⟨_, rfl⟩, by simp⟩ | exact ⟨fun _ _ _ => rfl, by simp⟩ | exact ⟨fun _ _ => rfl, by simp⟩ | exact ⟨Aside.refl _ _, by simp⟩), ?_⟩; clear hK K; try walk_nrm
      have L2 : Lds Tryq.prog T frQ (c :: xs) v (atc #[.pointer (some a), v1, v2, v3, (.pointer (some a)), .pointer (some o), .bool false, v7, v8, v9, v10, v11, v12, v13, v14, v15, v16, v17, v18, v19] (.inRegion (opsOf (headSeq cY)) (0 :: []) :: .code (dropSeq 1 cY) :: [])) (c :: xs) v := by
        refine L.trans ?_
        refine Lds.go hG (stepG_cond (t := false) rfl) ?_
        refine Lds.go hG stepG_seq ?_
        refine Lds.go hG stepG_region ?_
        exact .refl _ _ _
      refine Goes.step rfl (fun u₁ h₁ => ?_)
      replace hF := rl hF h₁
      clear h₁
      obtain ⟨y, u1, w1, r1, r2, hd1, s1, ev1⟩ := twinA (s := binOp .neq 151 (.pointer (some o)) (.pointer (some a))) (fine_binOp _ _ _ _) hF.2.2 (fun {h v'} r dd => by
        refine c_alive hG hxs ((wf_lds hW1 L2).at_re hG u₁.tape u₁.drawn) (o := (opsOf (headSeq cY)).getD 0 default) (h := h) (v' := v') (by rfl) (by rfl) ?_ dd
        show (Sem.bind (Sem.bind (pure ()) fun _ => binOp .neq 151 (.pointer (some o)) (.pointer (some a))) _).run _ _ = _
        rw [Sem.run_bind', Sem.run_bind']
        show (((binOp .neq 151 (.pointer (some o)) (.pointer (some a))).run _ _).andThen _) = _
        rw [r]
        rfl)
      have s2 := ng_run (ng_neq o a) r2
      obtain ⟨z, rfl⟩ := neq_bool r1
      rw [stepG_value (v := .bool z) (w' := w1) rfl (by rfl) (by k_ne) (val_run2 r2)]
      simp only [goes_go]
      refine ⟨fun e he => ?_, ?_⟩
      · have hm := mem_listed he
        have hm : e ∈ ((binOp .neq 151 (.pointer (some o)) (.pointer (some a))).bind fun v => Sem.pure (Next.value v)).events Tryz.prog _ #[] := hm
        rw [ev_bind r2] at hm
        exact evL_of hSh ((ev1 e hm).mono (by have := hF.2.1; omega))
      walk_nrm
      have L3 : Lds Tryq.prog T frQ (c :: xs) v (atc #[.pointer (some a), v1, v2, v3, (.pointer (some a)), .pointer (some o), .bool false, v7, v8, v9, v10, v11, v12, v13, v14, v15, v16, v17, v18, .bool z] (.code (dropSeq 1 cY) :: [])) (c :: xs) u1 := by
        refine L2.trans ?_
        refine Lds.re hG u₁.tape u₁.drawn (stepG_value (v := .bool z) (o := (opsOf (headSeq cY)).getD 0 default) (by rfl) (by rfl) (by k_ne) (val_run2 r1)) ?_
        refine Lds.go hG stepG_region_end ?_
        exact .refl _ _ _
      have hF2 : Hid H (re u1 w1.tape w1.drawn) w1 := hid_re hd1
      clear hF rl
      have hF := hF2
      have rl : ∀ {u u' : World}, Hid H (re u1 u.tape u.drawn) u → AtRel u u' → Hid H (re u1 u'.tape u'.drawn) u' := fun h r => hid_at h r
      cases z with
      | true =>
        exfalso
        have L4 := L3.trans (Lds.go hG (stepG_cond (t := true) rfl) (.refl _ _ _))
        exact wf_no_stop (wf_lds hW1 L4) (deep_not hG) rfl rfl
      | false =>
        refine Goes.step rfl (fun _ h₁ => ?_); replace hF := rl hF h₁; clear h₁; rw [stepG_region_end]; simp only [goes_go]; refine ⟨(by first | exact (fun e he => absurd he (by simp)) | exact ⟨⟨_, rfl⟩, by simp⟩ | exact ⟨fun _ _ _ => rfl, by simp⟩ | exact ⟨fun _ _ => rfl, by simp⟩ | exact ⟨Aside.refl _ _, by simp⟩), ?_⟩
        refine Goes.step rfl (fun _ h₁ => ?_); replace hF := rl hF h₁; clear h₁; rw [stepG_cond (t := false) rfl]; simp only [goes_go, if_true, if_false, Bool.false_eq_true, ↓reduceIte]; refine ⟨(by first | exact (fun e he => absurd he (by simp)) | exact ⟨⟨_, rfl⟩, by simp⟩ | exact ⟨fun _ _ _ => rfl, by simp⟩ | exact ⟨fun _ _ => rfl, by simp⟩ | exact ⟨Aside.refl _ _, by simp⟩), ?_⟩
        refine Goes.step rfl (fun _ h₁ => ?_); replace hF := rl hF h₁; clear h₁; rw [stepG_skip]; simp only [goes_go]; refine ⟨(by first | exact (fun e he => absurd he (by simp)) | exact ⟨⟨_, rfl⟩, by simp⟩ | exact ⟨fun _ _ _ => rfl, by simp⟩ | exact ⟨fun _ _ => rfl, by simp⟩ | exact ⟨Aside.refl _ _, by simp⟩), ?_⟩
        refine Goes.step rfl (fun _ h₁ => ?_); replace hF := rl hF h₁; clear h₁; rw [stepG_end]; simp only [goes_go]; refine ⟨(by first | exact (fun e he => absurd he (by simp)) | exact ⟨⟨_, rfl⟩, by simp⟩ | exact ⟨fun _ _ _ => rfl, by simp⟩ | exact ⟨fun _ _ => rfl, by simp⟩ | exact ⟨Aside.refl _ _, by simp⟩), ?_⟩
        refine Goes.step rfl (fun _ h₁ => ?_); replace hF := rl hF h₁; clear h₁
        rw [stepG_leave rfl rfl Tryz.func126 (results_none rfl _ _ _) (events_results_none rfl _ _)]
        simp only [goes_go]
        refine ⟨(by first | exact (fun e he => absurd he (by simp)) | exact ⟨⟨_, rfl⟩, by simp⟩ | exact ⟨fun _ _ _ => rfl, by simp⟩ | exact ⟨fun _ _ => rfl, by simp⟩ | exact ⟨Aside.refl _ _, by simp⟩), ?_⟩
        refine Goes.stop fun u₃ r₃ => ⟨re u1 u₃.tape u₃.drawn, rfl, L3.trans ?_, rl hF r₃⟩
        refine Lds.go hG (stepG_cond (t := false) rfl) ?_
        refine Lds.go hG stepG_skip ?_
        refine Lds.go hG stepG_end ?_
        refine .head ⟨deep_not hG, u₃.tape, u₃.drawn, _, stepG_leave rfl rfl Tryq.func126 (results_none rfl _ _ _) (events_results_none rfl _ _)⟩ ?_
        exact .refl _ _ _
  obtain ⟨N1, gs1, a1, w1, sl1, t1, q1, r1, hs1, h01, ⟨v', rfl, Lq, hd'⟩, hL1, hP1⟩ := walk_beside (fun _ _ _ h => h) _ _ gs _ w sl t q (Nat.le_refl _) h0 S.leavers (hP.mono (by omega)) main
  refine ⟨N1, gs1, H, v', w1, sl1, t1, q1, _, r1, h01, ⟨hL1, ⟨Shun, B', hP1, hSh⟩, hd'⟩, ?_⟩
  rw [hfr] at Lq
  exact ⟨Lq, .refl H⟩
end
end Go.Proofs.YtegkbjpcgelomaaGreatDoor.Wk
end
