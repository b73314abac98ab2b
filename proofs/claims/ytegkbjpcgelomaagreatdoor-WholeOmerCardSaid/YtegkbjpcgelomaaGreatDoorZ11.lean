/- sabbath.upto, goroutine 0: from receive to receive, beside the stand-in's lone run. -/
import Derived.Test.YtegkbjpcgelomaaGreatDoorZ10
import Derived.Conc.TokenWalk
set_option linter.unusedVariables false
set_option linter.unusedSimpArgs false
set_option linter.unusedSectionVars false
section
set_option maxRecDepth 100000
set_option maxHeartbeats 4000000
namespace Go.Proofs.YtegkbjpcgelomaaGreatDoor.Wk
open Go Go.Proofs Go.Conc Go.ConcX Go.ConcX.Gen Go.Conc.Lib Go.RowKit Go.Ph Go.Sim

noncomputable def loopP : Code := match headSeq (kp 6) with | .seq _ (.block _ (.loop c)) => c | _ => .skip
noncomputable def blkP : Code := dropSeq 1 (headSeq (kp 6))
noncomputable def ops6 : Array Oper := opsOf (headSeq (headSeq (kp 6)))
noncomputable def ops8 : Array Oper := match loopP with | .seq _ (.seq _ r) => opsOf r | _ => #[]
noncomputable def ops10 : Array Oper := opsOf (headSeq (kp 7))
section
variable (T : Frame → List Frame → World → Prop) (c : Frame) (xs bP : List Frame) (fr0 : Frame) (v0 : World) (H : HSet) (N c1 c2 po pe : Nat) (x st : Int) (K B1 : Nat)
/-- The stand-in stands at its loop's head with this list and this number, in a world that parts from the true one in hidden blocks. -/
def QAt (s : Value) (n : Int) (w : World) : Prop :=
  ∃ (t : Array Value) (v : World), t.size = 28 ∧ t[1]? = some (.int .i64 st) ∧ t[8]? = some s ∧ t[9]? = some (.int .i64 n) ∧ Lds Tryq.prog T fr0 (c :: xs) v0 (headQ t) (c :: xs) v ∧ Hid H (re v w.tape w.drawn) w
/-- Goroutine 0's slots. -/
structure TP (s : Value) (t : Array Value) : Prop where
  size : t.size = 28
  t1 : t[1]? = some (.int .i64 st)
  t5 : t[5]? = some (.pointer (some ⟨po, 0, none⟩))
  t6 : t[6]? = some (.pointer (some ⟨pe, 0, none⟩))
  t7 : t[7]? = some (.pointer (some ⟨N + 5, 0, none⟩))
  t8 : t[8]? = some s
/-- What it knows of the world. -/
structure MF (i : Nat) (w : World) : Prop where
  o : w.cell? ⟨po, 0, none⟩ = some (.chan (some c1))
  e : w.cell? ⟨pe, 0, none⟩ = some (.chan (some c2))
  size : w.heap.size ≤ N + 6 + 2 * i
  wg : WgAt 214 (N + 5) w KK 0
noncomputable abbrev recvG0 (t : Array Value) : Goroutine := G ((base 133).at ⟨t, []⟩ (.inRegion ops6 (1 :: [2]) :: .code blkP :: .code (kp 7) :: [])) (c :: xs ++ bP)
noncomputable abbrev recvG1 (t : Array Value) : Goroutine := G ((base 133).at ⟨t, []⟩ (.inRegion ops8 (1 :: [2]) :: .inLoop loopP :: .inBlock 0 :: .code (kp 7) :: [])) (c :: xs ++ bP)
noncomputable abbrev headP (t : Array Value) : Goroutine := G ((base 133).at ⟨t, []⟩ (.code loopP :: .inLoop loopP :: .inBlock 0 :: .code (kp 7) :: [])) (c :: xs ++ bP)
noncomputable abbrev closeG (t : Array Value) : Goroutine := G ((base 133).at ⟨t, []⟩ (.inRegion ops10 (1 :: []) :: .code (kp 8) :: [])) (c :: xs ++ bP)
def MAtU (i : Nat) (g : Goroutine) (w : World) : Prop :=
  (i ≤ K ∧ MF N c1 c2 po pe i w ∧ ∃ (t : Array Value) (s : Value), TP N po pe st s t ∧ QAt T c xs fr0 v0 H st s (nv x i) w ∧ ((i = 0 ∧ t[14]? = some (.chan (some c1)) ∧ g = recvG0 c xs bP t) ∨ (0 < i ∧ t[19]? = some (.chan (some c1)) ∧ g = recvG1 c xs bP t))) ∨
  (i = K + 1 ∧ MF N c1 c2 po pe K w ∧ ∃ (t : Array Value) (s : Value), TP N po pe st s t ∧ QAt T c xs fr0 v0 H st s (nv x K) w ∧ t[25]? = some (.chan (some c2)) ∧ g = closeG c xs bP t)
/-- What is asked of the family's letters for goroutine 0's own accesses. -/
structure Okm (Mine : Loc → Prop) (N : Nat) (H : HSet) (B' : Nat) [Shy (N + 5) N] : Prop where
  hid : ∀ b, N ≤ b → b < N + 6 → H b
  cell : ∀ (a : Addr) (wr : Bool), ¬ H a.block → a.block < B' → Shy.ok (N + 5) N (.access ⟨.cell a, wr, false⟩)
  mark : ∀ m, (m = Mark.noRoom ∨ ∃ f, m = Mark.extern f) → Shy.ok (N + 5) N (.mark m)
  mine : ∀ a : Addr, ¬ H a.block → Mine (.cell a)
  low : H.n ≤ N
end
section
variable {Mine : Loc → Prop} {N B' : Nat} {H : HSet} [Shy (N + 5) N]
theorem evq_main (ok : Okm Mine N H B') {n : Nat} (hn : n ≤ B') {e : Event} (h : EvMain H n e) : EvQ Mine (N + 5) N 0 e := by
  rcases h with ⟨a, wr, rfl, nh, lt⟩ | ⟨m, rfl, hm⟩
  · refine ⟨fun fn pos => ⟨rfl, fun y hy => ?_, by rw [ofEvent_cell]; simp, by rw [ofEvent_cell]; exact ok.cell a wr nh (by omega)⟩, by simp, by simp, by simp⟩
    simp only [ofEvent_cell, MemAct.touch?, Option.some.injEq] at hy
    subst hy
    refine ⟨.inr (.inl ⟨rfl, fun _ => ok.mine a nh⟩), fun hs => ?_, fun ⟨y, hy, hyb, _⟩ => ?_⟩
    · rcases hs with ⟨y, hy, hyb⟩ | hs
      · cases hy; exact absurd (ok.hid _ (by omega) (by omega)) nh
      · cases hs
    · cases hy; exact absurd (ok.hid _ (by omega) (by omega)) nh
  · have e : MemAct.ofEvent ⟨.mark m, false, true⟩ = .mark m := rfl
    refine ⟨fun fn pos => ⟨rfl, fun y hy => ?_, ?_, by rw [e]; exact ok.mark m hm⟩, ?_, ?_, ?_⟩
    · rw [e] at hy
      rcases hm with rfl | ⟨f, rfl⟩ <;> simp [MemAct.touch?] at hy
    · show MemAct.ofEvent ⟨.mark m, false, true⟩ ≠ .mark (.release (stA (N + 5)))
      rw [e]
      rcases hm with rfl | ⟨f, rfl⟩ <;> simp
    all_goals rcases hm with rfl | ⟨f, rfl⟩ <;> simp
theorem evq_read0 (hO : Own Mine N) (a : Addr) (h1 : N < a.block) (h2 : a.block < N + 5) : EvQ Mine (N + 5) N 0 ⟨.cell a, false, false⟩ := by
  refine ⟨fun fn pos => ⟨rfl, fun y hy => ?_, by rw [ofEvent_cell]; simp, by rw [ofEvent_cell]; exact hO.ok a false (by omega) h2⟩, by simp, by simp, by simp⟩
  simp only [ofEvent_cell, MemAct.touch?, Option.some.injEq] at hy
  subst hy
  refine ⟨.inr (.inl ⟨rfl, fun h => by cases h⟩), fun hs => ?_, fun ⟨y, hy, hyb, _⟩ => ?_⟩
  · rcases hs with ⟨y, hy, hyb⟩ | hs
    · cases hy; omega
    · cases hs
  · cases hy; omega
theorem ev_bind {P : Program} {s : Sem Value} {y : Value} {w w' : World} (h : s.run P w = .ok y w') : (s.bind fun x => Sem.pure (Next.value x)).events P w #[] = s.events P w #[] := by
  have a := Sem.runT_eq (p := P) (s.bind fun x => Sem.pure (Next.value x)) w #[]
  rw [runT_bind, Sem.runT_eq, h] at a
  simp only [Sem.runT, Prod.mk.injEq] at a
  exact a.2.symm
theorem bsl_ev {P : Program} {ρ : Operand → Value} {X : Operand} {n : Int} {bs : Value} {w w' : World} {d : Option Tmp} {ty : TypeId} {pos : String} {af : Array Edge} {g : Option (Nat × Bool)} (hX : ρ X = .int .i64 n) (h : (Instr.buildSlice 70 1 #[(0, .int .i64 n)]).run P w = .ok bs w') :
    (execOp ρ ({ dst := d, op := Op.buildSlice 70 1 #[(0, X)], type := ty, pos := pos, after := af, guard := g } : Oper)).events P w #[] = (Instr.buildSlice 70 1 #[(0, .int .i64 n)]).events P w #[] := by
  unfold execOp
  simp only [List.map_toArray, List.map_cons, List.map_nil, hX]
  exact ev_bind h
theorem app_ev {P : Program} {ρ : Operand → Value} {X Y : Operand} {s bs s2 : Value} {w w' : World} {d : Option Tmp} {pos : String} {af : Array Edge} {g : Option (Nat × Bool)} (hX : ρ X = s) (hY : ρ Y = bs) (h : (Builtin.append_ #[70, 70] 70 #[s, bs]).run P w = .ok s2 w') :
    (execOp ρ ({ dst := d, op := Op.call { callee := Callee.builtin Builtin.append, args := #[X, Y], argTypes := #[70, 70] }, type := 70, pos := pos, after := af, guard := g } : Oper)).events P w #[] = (Builtin.append_ #[70, 70] 70 #[s, bs]).events P w #[] := by
  unfold execOp resolve
  simp only [List.map_toArray, List.map_cons, List.map_nil, hX, hY]
  exact ev_bind h
end
section
variable {T : Frame → List Frame → World → Prop} {c : Frame} {xs bP : List Frame} {fr0 : Frame} {v0 : World} {H : HSet} {N c1 c2 po pe : Nat} {x st : Int} {K B1 : Nat}
variable {Mine : Loc → Prop} {B' : Nat} [Shy (N + 5) N] {i : Nat} {w : World}
abbrev DMu (Mine : Loc → Prop) (N : Nat) [Shy (N + 5) N] : World → World → Array Event → Prop := DM (N + 5) N N (N + 6) Mine
theorem MF.at {w w' : World} (h : MF N c1 c2 po pe i w) (r : AtRel w w') : MF N c1 c2 po pe i w' := by
  obtain ⟨d, rfl⟩ := r
  exact ⟨h.o, h.e, h.size, h.wg⟩
/-- Blocks of the stage stand: what is known stands. -/
theorem MF.keep {w w' : World} {i j : Nat} (hp : Pos N c1 c2 po pe) (h : MF N c1 c2 po pe i w) (hb : ∀ b, N ≤ b → b < N + 6 → w'.heap[b]? = w.heap[b]?) (hs : w'.heap.size ≤ N + 6 + 2 * j) : MF N c1 c2 po pe j w' :=
  ⟨(World.cell?_of_block (hb po (by have := hp.o; omega) (by have := hp.o; omega))).trans h.o, (World.cell?_of_block (hb pe (by have := hp.e; omega) (by have := hp.e; omega))).trans h.e, hs, (hb (N + 5) (by omega) (by omega)).trans h.wg⟩
/-- FROM THE LOOP's HEAD TO THE NEXT RECEIVE, OR TO THE CLOSE. -/
theorem head_step (hG : Goal Tryq.prog T) (hxs : ∀ y ∈ c :: xs, y.defers = []) (hW : Wf Tryq.prog T fr0 (c :: xs) v0) (hp : Pos N c1 c2 po pe) (hO : Own Mine N) (ok : Okm Mine N H B') (hB : N + 6 + 2 * (K + 1) ≤ B') (hK1 : ∀ j, j < K → nv x j ≤ st) (hK2 : ¬ nv x K ≤ st) (hi : i ≤ K)
    {t : Array Value} {s : Value} (hT : TP N po pe st s t) (h9 : t[9]? = some (nV x i)) (hM : MF N c1 c2 po pe i w) (hQ : QAt T c xs fr0 v0 H st s (nv x i) w) :
    Goes Tryz.prog true AtRel (DMu Mine N) (MAtU T c xs bP fr0 v0 H N c1 c2 po pe x st K (i + 1)) 40 (headP c xs bP t) w := by
  obtain ⟨hsz, h1, h5, h6, h7, h8⟩ := hT
  obtain ⟨a0, a1, a2, a3, a4, a5, a6, a7, a8, a9, a10, a11, a12, a13, a14, a15, a16, a17, a18, a19, a20, a21, a22, a23, a24, a25, a26, a27, rfl⟩ := array28 t hsz
  simp only [List.getElem?_toArray, List.getElem?_cons_succ, List.getElem?_cons_zero, Option.some.injEq] at h1 h5 h6 h7 h8 h9
  subst h1 h5 h6 h7 h8 h9
  obtain ⟨tq, v, q0, q1, q8, q9, L, hd⟩ := hQ
  have hF : MF N c1 c2 po pe i w ∧ Hid H (re v w.tape w.drawn) w := ⟨hM, hd⟩
  clear hM hd
  have rl : ∀ {w w' : World}, (MF N c1 c2 po pe i w ∧ Hid H (re v w.tape w.drawn) w) → AtRel w w' → (MF N c1 c2 po pe i w' ∧ Hid H (re v w'.tape w'.drawn) w') := fun h r => ⟨h.1.at r, hid_at h.2 r⟩
  simp only [nV, headP, loopP, kp, bodyP, Tryz.f133, Option.getD_some, headSeq, dropSeq]
  by_cases hn : nv x i ≤ st
  · have hlt : i < K := by
      rcases Nat.lt_or_ge i K with h | h
      · exact h
      · obtain rfl : i = K := by omega
        exact absurd hn hK2
    refine Goes.step rfl (fun _ h₁ => ?_); replace hF := rl hF h₁; clear h₁; rw [stepG_seq]; simp only [goes_go]; refine ⟨(by first | exact (fun e he => absurd he (by simp)) | exact ⟨⟨_, rfl⟩, by simp⟩ | exact ⟨fun _ _ _ => rfl, by simp⟩ | exact ⟨fun _ _ => rfl, by simp⟩ | exact ⟨Aside.refl _ _, by simp⟩), ?_⟩
    refine Goes.step rfl (fun _ h₁ => ?_); replace hF := rl hF h₁; clear h₁; rw [stepG_seq]; simp only [goes_go]; refine ⟨(by first | exact (fun e he => absurd he (by simp)) | exact ⟨⟨_, rfl⟩, by simp⟩ | exact ⟨fun _ _ _ => rfl, by simp⟩ | exact ⟨fun _ _ => rfl, by simp⟩ | exact ⟨Aside.refl _ _, by simp⟩), ?_⟩
    refine Goes.step rfl (fun _ h₁ => ?_); replace hF := rl hF h₁; clear h₁; rw [stepG_region]; simp only [goes_go, List.size_toArray, List.length_cons, List.length_nil, Nat.reduceAdd, Nat.zero_add, List.range, List.range.loop]; refine ⟨(by first | exact (fun e he => absurd he (by simp)) | exact ⟨⟨_, rfl⟩, by simp⟩ | exact ⟨fun _ _ _ => rfl, by simp⟩ | exact ⟨fun _ _ => rfl, by simp⟩ | exact ⟨Aside.refl _ _, by simp⟩), ?_⟩
    refine Goes.step rfl (fun _ h₁ => ?_); replace hF := rl hF h₁; clear h₁; refine goes_oper_k rfl rfl (by k_ne) (fun K hK => ?_); go_simp; refine hK _ _ ⟨by rw [show listed _ _ _ _ _ = #[] from listed_nil (by simp [go_sem, *])]; exact (by first | exact (fun e he => absurd he (by simp)) | exact ⟨⟨_, rfl⟩, by simp⟩ | exact ⟨fun _ _ _ => rfl, by simp⟩ | exact ⟨fun _ _ => rfl, by simp⟩ | exact ⟨Aside.refl _ _, by simp⟩), ?_⟩; clear hK K; try walk_nrm
    refine Goes.step rfl (fun _ h₁ => ?_); replace hF := rl hF h₁; clear h₁; refine goes_oper_k rfl rfl (by k_ne) (fun K hK => ?_); go_simp; refine hK _ _ ⟨by rw [show listed _ _ _ _ _ = #[] from listed_nil (by simp [go_sem, *])]; exact (by first | exact (fun e he => absurd he (by simp)) | exact ⟨⟨_, rfl⟩, by simp⟩ | exact ⟨fun _ _ _ => rfl, by simp⟩ | exact ⟨fun _ _ => rfl, by simp⟩ | exact ⟨Aside.refl _ _, by simp⟩), ?_⟩; clear hK K; try walk_nrm
    refine Goes.step rfl (fun _ h₁ => ?_); replace hF := rl hF h₁; clear h₁; refine goes_oper_k rfl rfl (by k_ne) (fun K hK => ?_); go_simp; refine hK _ _ ⟨by rw [show listed _ _ _ _ _ = #[] from listed_nil (by simp [go_sem, *])]; exact (by first | exact (fun e he => absurd he (by simp)) | exact ⟨⟨_, rfl⟩, by simp⟩ | exact ⟨fun _ _ _ => rfl, by simp⟩ | exact ⟨fun _ _ => rfl, by simp⟩ | exact ⟨Aside.refl _ _, by simp⟩), ?_⟩; clear hK K; try walk_nrm
    refine Goes.step rfl (fun _ h₁ => ?_); replace hF := rl hF h₁; clear h₁; rw [stepG_region_end]; simp only [goes_go]; refine ⟨(by first | exact (fun e he => absurd he (by simp)) | exact ⟨⟨_, rfl⟩, by simp⟩ | exact ⟨fun _ _ _ => rfl, by simp⟩ | exact ⟨fun _ _ => rfl, by simp⟩ | exact ⟨Aside.refl _ _, by simp⟩), ?_⟩
    refine Goes.step rfl (fun _ h₁ => ?_); replace hF := rl hF h₁; clear h₁; rw [stepG_cond (t := true) rfl]; simp only [goes_go, if_true, if_false, Bool.false_eq_true, ↓reduceIte]; refine ⟨(by first | exact (fun e he => absurd he (by simp)) | exact ⟨⟨_, rfl⟩, by simp⟩ | exact ⟨fun _ _ _ => rfl, by simp⟩ | exact ⟨fun _ _ => rfl, by simp⟩ | exact ⟨Aside.refl _ _, by simp⟩), ?_⟩
    refine Goes.step rfl (fun _ h₁ => ?_); replace hF := rl hF h₁; clear h₁; rw [stepG_skip]; simp only [goes_go]; refine ⟨(by first | exact (fun e he => absurd he (by simp)) | exact ⟨⟨_, rfl⟩, by simp⟩ | exact ⟨fun _ _ _ => rfl, by simp⟩ | exact ⟨fun _ _ => rfl, by simp⟩ | exact ⟨Aside.refl _ _, by simp⟩), ?_⟩
    refine Goes.step rfl (fun _ h₁ => ?_); replace hF := rl hF h₁; clear h₁; rw [stepG_seq]; simp only [goes_go]; refine ⟨(by first | exact (fun e he => absurd he (by simp)) | exact ⟨⟨_, rfl⟩, by simp⟩ | exact ⟨fun _ _ _ => rfl, by simp⟩ | exact ⟨fun _ _ => rfl, by simp⟩ | exact ⟨Aside.refl _ _, by simp⟩), ?_⟩
    refine Goes.step rfl (fun _ h₁ => ?_); replace hF := rl hF h₁; clear h₁; rw [stepG_block]; simp only [goes_go]; refine ⟨(by first | exact (fun e he => absurd he (by simp)) | exact ⟨⟨_, rfl⟩, by simp⟩ | exact ⟨fun _ _ _ => rfl, by simp⟩ | exact ⟨fun _ _ => rfl, by simp⟩ | exact ⟨Aside.refl _ _, by simp⟩), ?_⟩
    refine Goes.step rfl (fun _ h₁ => ?_); replace hF := rl hF h₁; clear h₁; rw [stepG_region]; simp only [goes_go, List.size_toArray, List.length_cons, List.length_nil, Nat.reduceAdd, Nat.zero_add, List.range, List.range.loop]; refine ⟨(by first | exact (fun e he => absurd he (by simp)) | exact ⟨⟨_, rfl⟩, by simp⟩ | exact ⟨fun _ _ _ => rfl, by simp⟩ | exact ⟨fun _ _ => rfl, by simp⟩ | exact ⟨Aside.refl _ _, by simp⟩), ?_⟩
    refine Goes.step rfl (fun _ h₁ => ?_); replace hF := rl hF h₁; clear h₁; refine goes_oper_k rfl rfl (by k_ne) (fun K hK => ?_); go_simp; refine hK _ _ ⟨by rw [show listed _ _ _ _ _ = #[] from listed_nil (by simp [go_sem, *])]; exact (by first | exact (fun e he => absurd he (by simp)) | exact ⟨⟨_, rfl⟩, by simp⟩ | exact ⟨fun _ _ _ => rfl, by simp⟩ | exact ⟨fun _ _ => rfl, by simp⟩ | exact ⟨Aside.refl _ _, by simp⟩), ?_⟩; clear hK K; try walk_nrm
    refine Goes.step rfl (fun _ h₁ => ?_); replace hF := rl hF h₁; clear h₁; refine goes_oper_k rfl rfl (by k_ne) (fun K hK => ?_); go_simp; refine hK _ _ ⟨by rw [show listed _ _ _ _ _ = #[] from listed_nil (by simp [go_sem, *])]; exact (by first | exact (fun e he => absurd he (by simp)) | exact ⟨⟨_, rfl⟩, by simp⟩ | exact ⟨fun _ _ _ => rfl, by simp⟩ | exact ⟨fun _ _ => rfl, by simp⟩ | exact ⟨Aside.refl _ _, by simp⟩), ?_⟩; clear hK K; try walk_nrm
    -- the slice of one
    obtain ⟨t2, p0, p1, p8, p9, L2⟩ := up_r1 (v := v) hG q0 q1 q8 q9 hn
    have L := L.trans L2
    refine Goes.step rfl (fun w₁ h₁ => ?_)
    replace hF := rl hF h₁
    clear h₁
    obtain ⟨bs, u1, w1, r1, r2, hd1, s1, s2, ev1, st1⟩ := twin_bsl hG hxs p9 (wf_lds hW L) hF.2
    obtain ⟨t3, m0, m1, m8, m9, m23, L3⟩ := up_r2 hG p0 p1 p8 p9 r1
    have L := L.trans L3
    rw [stepG_value (v := bs) (w' := w1) (o := { dst := some 23, op := Op.buildSlice 70 1 #[(0, Operand.tmp 22)], type := 70, pos := "sabbath.go:58", after := #[{ on := 1, ground := Ground.data }], guard := none }) rfl (by rfl) (by k_ne) (bsl_run rfl r2)]
    simp only [goes_go]
    have hs0 := hF.1.size
    refine ⟨⟨fun b h1 h2 => st1 b (ok.hid b h1 h2), fun e he => ?_⟩, ?_⟩
    · have hm := mem_listed he
      rw [bsl_ev rfl r2] at hm
      exact evq_main ok (n := w1.heap.size) (by omega) (ev1 e hm)
    walk_nrm
    have hF2 : MF N c1 c2 po pe i w₁ ∧ w1.heap.size ≤ N + 6 + 2 * i + 1 ∧ (∀ b, N ≤ b → b < N + 6 → w1.heap[b]? = w₁.heap[b]?) ∧ Hid H (re u1 w1.tape w1.drawn) w1 := ⟨hF.1, by omega, fun b h1 h2 => st1 b (ok.hid b h1 h2), hid_re hd1⟩
    refine Goes.step rfl (fun w₂ h₂ => ?_)
    replace hF2 : MF N c1 c2 po pe i w₁ ∧ w₂.heap.size ≤ N + 6 + 2 * i + 1 ∧ (∀ b, N ≤ b → b < N + 6 → w₂.heap[b]? = w₁.heap[b]?) ∧ Hid H (re u1 w₂.tape w₂.drawn) w₂ := by
      obtain ⟨d, hd⟩ := id h₂
      subst hd
      exact ⟨hF2.1, hF2.2.1, hF2.2.2.1, hid_at hF2.2.2.2 h₂⟩
    clear h₂
    obtain ⟨s', u2, w2, r3, r4, hd2, s3, s4, ev2, st2⟩ := twin_app hG hxs m8 m23 (wf_lds hW L) hF2.2.2.2
    obtain ⟨t4, n0, n1, n8, n9, L4⟩ := up_r3 hG m0 m1 m8 m9 m23 r3
    have L := L.trans L4
    rw [stepG_value (v := s') (w' := w2) (o := { dst := some 24, op := Op.call { callee := Callee.builtin Builtin.append, args := #[Operand.tmp 21, Operand.tmp 23], argTypes := #[70, 70] }, type := 70, pos := "sabbath.go:58", after := #[{ on := 0, ground := Ground.data }, { on := 2, ground := Ground.data }], guard := none }) rfl (by rfl) (by k_ne) (app_run rfl rfl r4)]
    simp only [goes_go]
    have hs1 := hF2.2.1
    refine ⟨⟨fun b h1 h2 => st2 b (ok.hid b h1 h2), fun e he => ?_⟩, ?_⟩
    · have hm := mem_listed he
      rw [app_ev rfl rfl r4] at hm
      exact evq_main ok (n := w2.heap.size) (by omega) (ev2 e hm)
    walk_nrm
    have hF3 : MF N c1 c2 po pe (i + 1) w2 ∧ Hid H (re u2 w2.tape w2.drawn) w2 :=
      ⟨hF2.1.keep hp (fun b h1 h2 => (st2 b (ok.hid b h1 h2)).trans (hF2.2.2.1 b h1 h2)) (by omega), hid_re hd2⟩
    clear hF hF2 rl
    have hF := hF3
    have rl : ∀ {w w' : World}, (MF N c1 c2 po pe (i + 1) w ∧ Hid H (re u2 w.tape w.drawn) w) → AtRel w w' → (MF N c1 c2 po pe (i + 1) w' ∧ Hid H (re u2 w'.tape w'.drawn) w') := fun h r => ⟨h.1.at r, hid_at h.2 r⟩
    refine Goes.step rfl (fun _ h₁ => ?_); replace hF := rl hF h₁; clear h₁; refine goes_oper_k rfl rfl (by k_ne) (fun K hK => ?_); go_simp; refine hK _ _ ⟨by rw [show listed _ _ _ _ _ = #[] from listed_nil (by simp [go_sem, *])]; exact (by first | exact (fun e he => absurd he (by simp)) | exact ⟨⟨_, rfl⟩, by simp⟩ | exact ⟨fun _ _ _ => rfl, by simp⟩ | exact ⟨fun _ _ => rfl, by simp⟩ | exact ⟨Aside.refl _ _, by simp⟩), ?_⟩; clear hK K; try walk_nrm
    refine Goes.step rfl (fun _ h₁ => ?_); replace hF := rl hF h₁; clear h₁; rw [stepG_region_end]; simp only [goes_go]; refine ⟨(by first | exact (fun e he => absurd he (by simp)) | exact ⟨⟨_, rfl⟩, by simp⟩ | exact ⟨fun _ _ _ => rfl, by simp⟩ | exact ⟨fun _ _ => rfl, by simp⟩ | exact ⟨Aside.refl _ _, by simp⟩), ?_⟩
    refine Goes.step rfl (fun _ h₁ => ?_); replace hF := rl hF h₁; clear h₁; rw [stepG_inBlock]; simp only [goes_go]; refine ⟨(by first | exact (fun e he => absurd he (by simp)) | exact ⟨⟨_, rfl⟩, by simp⟩ | exact ⟨fun _ _ _ => rfl, by simp⟩ | exact ⟨fun _ _ => rfl, by simp⟩ | exact ⟨Aside.refl _ _, by simp⟩), ?_⟩
    refine Goes.step rfl (fun _ h₁ => ?_); replace hF := rl hF h₁; clear h₁; rw [stepG_region]; simp only [goes_go, List.size_toArray, List.length_cons, List.length_nil, Nat.reduceAdd, Nat.zero_add, List.range, List.range.loop]; refine ⟨(by first | exact (fun e he => absurd he (by simp)) | exact ⟨⟨_, rfl⟩, by simp⟩ | exact ⟨fun _ _ _ => rfl, by simp⟩ | exact ⟨fun _ _ => rfl, by simp⟩ | exact ⟨Aside.refl _ _, by simp⟩), ?_⟩
    refine Goes.step rfl (fun _ h₁ => ?_); replace hF := rl hF h₁; clear h₁; refine goes_oper_k rfl rfl (by k_ne) (fun K hK => ?_); have hx := hF.1.o; go_simp; refine hK _ _ ⟨⟨fun _ _ _ => rfl, fun e he => ?_⟩, ?_⟩; (· have hm := mem_listed he; simp [go_sem, *] at hm; subst hm; exact evq_read0 hO _ (by have := hp.o; simp; omega) (by have := hp.o; simp; omega)); clear hK K hx; try walk_nrm
    refine Goes.stop fun w₃ r₃ => ?_
    replace hF := rl hF r₃
    refine .inl ⟨by omega, hF.1, _, _, ⟨rfl, rfl, rfl, rfl, rfl, rfl⟩, ⟨t4, u2, n0, n1, n8, ?_, L, hF.2⟩, .inr ⟨by omega, rfl, rfl⟩⟩
    rw [n9]
    rfl
  · obtain rfl : i = K := by
      rcases Nat.lt_or_ge i K with h | h
      · exact absurd (hK1 i h) hn
      · omega
    refine Goes.step rfl (fun _ h₁ => ?_); replace hF := rl hF h₁; clear h₁; rw [stepG_seq]; simp only [goes_go]; refine ⟨(by first | exact (fun e he => absurd he (by simp)) | exact ⟨⟨_, rfl⟩, by simp⟩ | exact ⟨fun _ _ _ => rfl, by simp⟩ | exact ⟨fun _ _ => rfl, by simp⟩ | exact ⟨Aside.refl _ _, by simp⟩), ?_⟩
    refine Goes.step rfl (fun _ h₁ => ?_); replace hF := rl hF h₁; clear h₁; rw [stepG_seq]; simp only [goes_go]; refine ⟨(by first | exact (fun e he => absurd he (by simp)) | exact ⟨⟨_, rfl⟩, by simp⟩ | exact ⟨fun _ _ _ => rfl, by simp⟩ | exact ⟨fun _ _ => rfl, by simp⟩ | exact ⟨Aside.refl _ _, by simp⟩), ?_⟩
    refine Goes.step rfl (fun _ h₁ => ?_); replace hF := rl hF h₁; clear h₁; rw [stepG_region]; simp only [goes_go, List.size_toArray, List.length_cons, List.length_nil, Nat.reduceAdd, Nat.zero_add, List.range, List.range.loop]; refine ⟨(by first | exact (fun e he => absurd he (by simp)) | exact ⟨⟨_, rfl⟩, by simp⟩ | exact ⟨fun _ _ _ => rfl, by simp⟩ | exact ⟨fun _ _ => rfl, by simp⟩ | exact ⟨Aside.refl _ _, by simp⟩), ?_⟩
    refine Goes.step rfl (fun _ h₁ => ?_); replace hF := rl hF h₁; clear h₁; refine goes_oper_k rfl rfl (by k_ne) (fun K hK => ?_); go_simp; refine hK _ _ ⟨by rw [show listed _ _ _ _ _ = #[] from listed_nil (by simp [go_sem, *])]; exact (by first | exact (fun e he => absurd he (by simp)) | exact ⟨⟨_, rfl⟩, by simp⟩ | exact ⟨fun _ _ _ => rfl, by simp⟩ | exact ⟨fun _ _ => rfl, by simp⟩ | exact ⟨Aside.refl _ _, by simp⟩), ?_⟩; clear hK K; try walk_nrm
    refine Goes.step rfl (fun _ h₁ => ?_); replace hF := rl hF h₁; clear h₁; refine goes_oper_k rfl rfl (by k_ne) (fun K hK => ?_); go_simp; refine hK _ _ ⟨by rw [show listed _ _ _ _ _ = #[] from listed_nil (by simp [go_sem, *])]; exact (by first | exact (fun e he => absurd he (by simp)) | exact ⟨⟨_, rfl⟩, by simp⟩ | exact ⟨fun _ _ _ => rfl, by simp⟩ | exact ⟨fun _ _ => rfl, by simp⟩ | exact ⟨Aside.refl _ _, by simp⟩), ?_⟩; clear hK K; try walk_nrm
    refine Goes.step rfl (fun _ h₁ => ?_); replace hF := rl hF h₁; clear h₁; refine goes_oper_k rfl rfl (by k_ne) (fun K hK => ?_); go_simp; refine hK _ _ ⟨by rw [show listed _ _ _ _ _ = #[] from listed_nil (by simp [go_sem, *])]; exact (by first | exact (fun e he => absurd he (by simp)) | exact ⟨⟨_, rfl⟩, by simp⟩ | exact ⟨fun _ _ _ => rfl, by simp⟩ | exact ⟨fun _ _ => rfl, by simp⟩ | exact ⟨Aside.refl _ _, by simp⟩), ?_⟩; clear hK K; try walk_nrm
    refine Goes.step rfl (fun _ h₁ => ?_); replace hF := rl hF h₁; clear h₁; rw [stepG_region_end]; simp only [goes_go]; refine ⟨(by first | exact (fun e he => absurd he (by simp)) | exact ⟨⟨_, rfl⟩, by simp⟩ | exact ⟨fun _ _ _ => rfl, by simp⟩ | exact ⟨fun _ _ => rfl, by simp⟩ | exact ⟨Aside.refl _ _, by simp⟩), ?_⟩
    refine Goes.step rfl (fun _ h₁ => ?_); replace hF := rl hF h₁; clear h₁; rw [stepG_cond (t := false) rfl]; simp only [goes_go, if_true, if_false, Bool.false_eq_true, ↓reduceIte]; refine ⟨(by first | exact (fun e he => absurd he (by simp)) | exact ⟨⟨_, rfl⟩, by simp⟩ | exact ⟨fun _ _ _ => rfl, by simp⟩ | exact ⟨fun _ _ => rfl, by simp⟩ | exact ⟨Aside.refl _ _, by simp⟩), ?_⟩
    refine Goes.step rfl (fun _ h₁ => ?_); replace hF := rl hF h₁; clear h₁; refine goes_exit rfl ?_; refine ⟨(by first | exact (fun e he => absurd he (by simp)) | exact ⟨⟨_, rfl⟩, by simp⟩ | exact ⟨fun _ _ _ => rfl, by simp⟩ | exact ⟨fun _ _ => rfl, by simp⟩ | exact ⟨Aside.refl _ _, by simp⟩), ?_⟩
    refine Goes.step rfl (fun _ h₁ => ?_); replace hF := rl hF h₁; clear h₁; rw [stepG_seq]; simp only [goes_go]; refine ⟨(by first | exact (fun e he => absurd he (by simp)) | exact ⟨⟨_, rfl⟩, by simp⟩ | exact ⟨fun _ _ _ => rfl, by simp⟩ | exact ⟨fun _ _ => rfl, by simp⟩ | exact ⟨Aside.refl _ _, by simp⟩), ?_⟩
    refine Goes.step rfl (fun _ h₁ => ?_); replace hF := rl hF h₁; clear h₁; rw [stepG_region]; simp only [goes_go, List.size_toArray, List.length_cons, List.length_nil, Nat.reduceAdd, Nat.zero_add, List.range, List.range.loop]; refine ⟨(by first | exact (fun e he => absurd he (by simp)) | exact ⟨⟨_, rfl⟩, by simp⟩ | exact ⟨fun _ _ _ => rfl, by simp⟩ | exact ⟨fun _ _ => rfl, by simp⟩ | exact ⟨Aside.refl _ _, by simp⟩), ?_⟩
    refine Goes.step rfl (fun _ h₁ => ?_); replace hF := rl hF h₁; clear h₁; refine goes_oper_k rfl rfl (by k_ne) (fun K hK => ?_); have hx := hF.1.e; go_simp; refine hK _ _ ⟨⟨fun _ _ _ => rfl, fun e he => ?_⟩, ?_⟩; (· have hm := mem_listed he; simp [go_sem, *] at hm; subst hm; exact evq_read0 hO _ (by have := hp.e; simp; omega) (by have := hp.e; simp; omega)); clear hK K hx; try walk_nrm
    refine Goes.stop fun w₂ r₂ => ?_
    replace hF := rl hF r₂
    exact .inr ⟨rfl, hF.1, _, _, ⟨rfl, rfl, rfl, rfl, rfl, rfl⟩, ⟨tq, v, q0, q1, q8, q9, L, hF.2⟩, rfl, rfl⟩
end
end Go.Proofs.YtegkbjpcgelomaaGreatDoor.Wk
end
/- sabbath.upto, goroutine 0: what is asked of it. -/
section
set_option maxRecDepth 100000
set_option maxHeartbeats 4000000
namespace Go.Proofs.YtegkbjpcgelomaaGreatDoor.Wk
open Go Go.Proofs Go.Conc Go.ConcX Go.ConcX.Gen Go.Conc.Lib Go.RowKit Go.Ph Go.Sim

section
variable {T : Frame → List Frame → World → Prop} {c : Frame} {xs bP : List Frame} {fr0 : Frame} {v0 : World} {H : HSet} {N c1 c2 po pe : Nat} {x st : Int} {K B1 : Nat}
variable {Mine : Loc → Prop} {B' : Nat} [Shy (N + 5) N] {i : Nat} {w : World}
noncomputable def opR0 : Oper := ops6.getD 1 default
noncomputable def opR1 : Oper := ops8.getD 1 default
theorem recv_run {a : Act} {o : Oper} {X : Operand} (ho : o.op = .recv 205 X false) (h : a.eval X = .chan (some c1)) :
    (execOp a.eval o).run Tryz.prog w = .ok (.comm #[rcase c1 (.int .i64 0)] true (.recv false)) w ∧ (execOp a.eval o).events Tryz.prog w #[] = #[] := by
  unfold execOp
  simp only [ho, h]
  constructor
  · simp [go_sem, rcase]
  · simp [go_sem, rcase]
theorem eval_at {t : Array Value} {k : Nat} {y : Value} (h : t[k]? = some y) : ({ tmps := t, defers := [] } : Act).eval (.tmp k) = y := by
  show t.getD k undef = _
  rw [Array.getD_eq_getD_getElem?, h]
  rfl
theorem recv0_step {t : Array Value} (h : t[14]? = some (.chan (some c1))) : stepG Tryz.prog true (recvG0 c xs bP t) w = .comm (recvG0 c xs bP t) #[rcase c1 (.int .i64 0)] true (.recv false) w #[] := by
  obtain ⟨r, e⟩ := recv_run (w := w) (c1 := c1) (a := ⟨t, []⟩) (o := opR0) (X := .tmp 14) rfl (eval_at h)
  rw [stepG_comm (o := opR0) (by rfl) (by rfl) (by k_ne) r, listed_nil e]
theorem recv1_step {t : Array Value} (h : t[19]? = some (.chan (some c1))) : stepG Tryz.prog true (recvG1 c xs bP t) w = .comm (recvG1 c xs bP t) #[rcase c1 (.int .i64 0)] true (.recv false) w #[] := by
  obtain ⟨r, e⟩ := recv_run (w := w) (c1 := c1) (a := ⟨t, []⟩) (o := opR1) (X := .tmp 19) rfl (eval_at h)
  rw [stepG_comm (o := opR1) (by rfl) (by rfl) (by k_ne) r, listed_nil e]
theorem fin0 {t : Array Value} {y : Value} : (recvG0 c xs bP t).finishComm Tryz.prog #[rcase c1 (.int .i64 0)] (.recv false) 0 y true = G ((base 133).at ⟨t.setIfInBounds 15 y, []⟩ (.inRegion ops6 [2] :: .code blkP :: .code (kp 7) :: [])) (c :: xs ++ bP) := by
  unfold Goroutine.finishComm commResult
  unfold recvG0 G
  simp only [Frame.finish_at]
  rfl
theorem fin1 {t : Array Value} {y : Value} : (recvG1 c xs bP t).finishComm Tryz.prog #[rcase c1 (.int .i64 0)] (.recv false) 0 y true = G ((base 133).at ⟨t.setIfInBounds 20 y, []⟩ (.inRegion ops8 [2] :: .inLoop loopP :: .inBlock 0 :: .code (kp 7) :: [])) (c :: xs ++ bP) := by
  unfold Goroutine.finishComm commResult
  unfold recvG1 G
  simp only [Frame.finish_at]
  rfl
theorem QAt.at {s : Value} {n : Int} {w w' : World} (h : QAt T c xs fr0 v0 H st s n w) (r : AtRel w w') : QAt T c xs fr0 v0 H st s n w' := by
  obtain ⟨t, v, q0, q1, q8, q9, L, hd⟩ := h
  exact ⟨t, v, q0, q1, q8, q9, L, hid_at hd r⟩
/-- The channel has turned, nothing else. -/
theorem QAt.chan {s : Value} {n : Int} {k : Nat} {w w' : World} (hk : H k) (h : QAt T c xs fr0 v0 H st s n w) (ha : Go.Conc.Aside k w w') {o : Obj} (ho : w'.heap[k]? = some o) (hh : HidObj o) (hkn : H.n ≤ k) : QAt T c xs fr0 v0 H st s n w' := by
  obtain ⟨t, v, q0, q1, q8, q9, L, hd⟩ := h
  refine ⟨t, v, q0, q1, q8, q9, L, hid_turn hd ha.tape ha.os ha.output ha.size (fun b hb => ha.block b fun e => hb (e ▸ hk)) fun b hb => ?_⟩
  by_cases e : b = k
  · subst e; exact ⟨o, ho, hh, fun hl => absurd hl (by omega)⟩
  · rw [ha.block b e]; exact (hd.hid b hb).2
theorem MF.aside {w w' : World} {k : Nat} (hp : Pos N c1 c2 po pe) (hk : k = c1 ∨ k = c2) (h : MF N c1 c2 po pe i w) (ha : Go.Conc.Aside k w w') : MF N c1 c2 po pe i w' := by
  have d := hp.d
  have p1 := hp.k1; have p2 := hp.k2
  refine ⟨(World.cell?_of_block (ha.block po (by omega))).trans h.o, (World.cell?_of_block (ha.block pe (by omega))).trans h.e, by rw [ha.size]; exact h.size, (ha.block (N + 5) (by omega)).trans h.wg⟩
/-- BEHIND A RECEIVE. -/
theorem recv_go (hG : Goal Tryq.prog T) (hxs : ∀ y ∈ c :: xs, y.defers = []) (hW : Wf Tryq.prog T fr0 (c :: xs) v0) (hp : Pos N c1 c2 po pe) (hO : Own Mine N) (ok : Okm Mine N H B') (hB : N + 6 + 2 * (K + 1) ≤ B') (hK1 : ∀ j, j < K → nv x j ≤ st) (hK2 : ¬ nv x K ≤ st)
    {g : Goroutine} (hi : i ≤ K) (h : MAtU T c xs bP fr0 v0 H N c1 c2 po pe x st K i g w) : g.status = .running ∧ ∃ z sh, stepG Tryz.prog true g w = .comm g #[rcase c1 z] true sh w #[] ∧
      ∀ w', Go.Conc.Aside c1 w w' → (∃ s r, w'.heap[c1]? = some (.chan 0 #[] false s r false)) → ∃ m, Goes Tryz.prog true AtRel (DMu Mine N) (MAtU T c xs bP fr0 v0 H N c1 c2 po pe x st K (i + 1)) m (g.finishComm Tryz.prog #[rcase c1 z] sh 0 (nV x i) true) w' := by
  rcases h with ⟨-, hM, t, s, hT, hQ, hg⟩ | ⟨e, -⟩
  case inr => omega
  have hc1 : H c1 := ok.hid c1 (by have := hp.k1; omega) (by have := hp.k1; omega)
  rcases hg with ⟨rfl, h14, rfl⟩ | ⟨h0, h19, rfl⟩
  · refine ⟨rfl, _, _, recv0_step h14, fun w' ha hch => ⟨40 + 4, ?_⟩⟩
    obtain ⟨s1, r1, hch⟩ := hch
    have hF : MF N c1 c2 po pe 0 w' ∧ QAt T c xs fr0 v0 H st s (nv x 0) w' := ⟨hM.aside hp (.inl rfl) ha, hQ.chan hc1 ha hch (.chan _ _ _ _ _ _) (by have := ok.low; have := hp.k1; omega)⟩
    have rl : ∀ {w w' : World}, (MF N c1 c2 po pe 0 w ∧ QAt T c xs fr0 v0 H st s (nv x 0) w) → AtRel w w' → (MF N c1 c2 po pe 0 w' ∧ QAt T c xs fr0 v0 H st s (nv x 0) w') := fun h r => ⟨h.1.at r, h.2.at r⟩
    rw [fin0]
    obtain ⟨hsz, h1, h5, h6, h7, h8⟩ := hT
    obtain ⟨a0, a1, a2, a3, a4, a5, a6, a7, a8, a9, a10, a11, a12, a13, a14, a15, a16, a17, a18, a19, a20, a21, a22, a23, a24, a25, a26, a27, rfl⟩ := array28 t hsz
    simp only [List.getElem?_toArray, List.getElem?_cons_succ, List.getElem?_cons_zero, Option.some.injEq] at h1 h5 h6 h7 h8 h14
    subst h1 h5 h6 h7 h8 h14
    simp only [ops6, blkP, kp, bodyP, Tryz.f133, Option.getD_some, headSeq, dropSeq, opsOf, List.setIfInBounds_toArray, List.set_cons_succ, List.set_cons_zero]
    refine Goes.step rfl (fun _ h₁ => ?_); replace hF := rl hF h₁; clear h₁; refine goes_oper_k rfl rfl (by k_ne) (fun K hK => ?_); go_simp; refine hK _ _ ⟨by rw [show listed _ _ _ _ _ = #[] from listed_nil (by simp [go_sem, *])]; exact (by first | exact (fun e he => absurd he (by simp)) | exact ⟨⟨_, rfl⟩, by simp⟩ | exact ⟨fun _ _ _ => rfl, by simp⟩ | exact ⟨fun _ _ => rfl, by simp⟩ | exact ⟨Aside.refl _ _, by simp⟩), ?_⟩; clear hK K; try walk_nrm
    refine Goes.step rfl (fun _ h₁ => ?_); replace hF := rl hF h₁; clear h₁; rw [stepG_region_end]; simp only [goes_go]; refine ⟨(by first | exact (fun e he => absurd he (by simp)) | exact ⟨⟨_, rfl⟩, by simp⟩ | exact ⟨fun _ _ _ => rfl, by simp⟩ | exact ⟨fun _ _ => rfl, by simp⟩ | exact ⟨Aside.refl _ _, by simp⟩), ?_⟩
    refine Goes.step rfl (fun _ h₁ => ?_); replace hF := rl hF h₁; clear h₁; rw [stepG_block]; simp only [goes_go]; refine ⟨(by first | exact (fun e he => absurd he (by simp)) | exact ⟨⟨_, rfl⟩, by simp⟩ | exact ⟨fun _ _ _ => rfl, by simp⟩ | exact ⟨fun _ _ => rfl, by simp⟩ | exact ⟨Aside.refl _ _, by simp⟩), ?_⟩
    refine Goes.step rfl (fun _ h₁ => ?_); replace hF := rl hF h₁; clear h₁; rw [stepG_loop]; simp only [goes_go]; refine ⟨(by first | exact (fun e he => absurd he (by simp)) | exact ⟨⟨_, rfl⟩, by simp⟩ | exact ⟨fun _ _ _ => rfl, by simp⟩ | exact ⟨fun _ _ => rfl, by simp⟩ | exact ⟨Aside.refl _ _, by simp⟩), ?_⟩
    exact head_step hG hxs hW hp hO ok hB hK1 hK2 hi ⟨rfl, rfl, rfl, rfl, rfl, rfl⟩ rfl hF.1 hF.2
  · refine ⟨rfl, _, _, recv1_step h19, fun w' ha hch => ⟨40 + 3, ?_⟩⟩
    obtain ⟨s1, r1, hch⟩ := hch
    have hF : MF N c1 c2 po pe i w' ∧ QAt T c xs fr0 v0 H st s (nv x i) w' := ⟨hM.aside hp (.inl rfl) ha, hQ.chan hc1 ha hch (.chan _ _ _ _ _ _) (by have := ok.low; have := hp.k1; omega)⟩
    have rl : ∀ {w w' : World}, (MF N c1 c2 po pe i w ∧ QAt T c xs fr0 v0 H st s (nv x i) w) → AtRel w w' → (MF N c1 c2 po pe i w' ∧ QAt T c xs fr0 v0 H st s (nv x i) w') := fun h r => ⟨h.1.at r, h.2.at r⟩
    rw [fin1]
    obtain ⟨hsz, h1, h5, h6, h7, h8⟩ := hT
    obtain ⟨a0, a1, a2, a3, a4, a5, a6, a7, a8, a9, a10, a11, a12, a13, a14, a15, a16, a17, a18, a19, a20, a21, a22, a23, a24, a25, a26, a27, rfl⟩ := array28 t hsz
    simp only [List.getElem?_toArray, List.getElem?_cons_succ, List.getElem?_cons_zero, Option.some.injEq] at h1 h5 h6 h7 h8 h19
    subst h1 h5 h6 h7 h8 h19
    simp only [ops8, loopP, kp, bodyP, Tryz.f133, Option.getD_some, headSeq, dropSeq, opsOf, List.setIfInBounds_toArray, List.set_cons_succ, List.set_cons_zero]
    refine Goes.step rfl (fun _ h₁ => ?_); replace hF := rl hF h₁; clear h₁; refine goes_oper_k rfl rfl (by k_ne) (fun K hK => ?_); go_simp; refine hK _ _ ⟨by rw [show listed _ _ _ _ _ = #[] from listed_nil (by simp [go_sem, *])]; exact (by first | exact (fun e he => absurd he (by simp)) | exact ⟨⟨_, rfl⟩, by simp⟩ | exact ⟨fun _ _ _ => rfl, by simp⟩ | exact ⟨fun _ _ => rfl, by simp⟩ | exact ⟨Aside.refl _ _, by simp⟩), ?_⟩; clear hK K; try walk_nrm
    refine Goes.step rfl (fun _ h₁ => ?_); replace hF := rl hF h₁; clear h₁; rw [stepG_region_end]; simp only [goes_go]; refine ⟨(by first | exact (fun e he => absurd he (by simp)) | exact ⟨⟨_, rfl⟩, by simp⟩ | exact ⟨fun _ _ _ => rfl, by simp⟩ | exact ⟨fun _ _ => rfl, by simp⟩ | exact ⟨Aside.refl _ _, by simp⟩), ?_⟩
    refine Goes.step rfl (fun _ h₁ => ?_); replace hF := rl hF h₁; clear h₁; rw [stepG_inLoop]; simp only [goes_go]; refine ⟨(by first | exact (fun e he => absurd he (by simp)) | exact ⟨⟨_, rfl⟩, by simp⟩ | exact ⟨fun _ _ _ => rfl, by simp⟩ | exact ⟨fun _ _ => rfl, by simp⟩ | exact ⟨Aside.refl _ _, by simp⟩), ?_⟩
    exact head_step hG hxs hW hp hO ok hB hK1 hK2 hi ⟨rfl, rfl, rfl, rfl, rfl, rfl⟩ rfl hF.1 hF.2
end
end Go.Proofs.YtegkbjpcgelomaaGreatDoor.Wk
end
/- sabbath.upto, goroutine 0: the close, the Wait, the return. -/
section
set_option maxRecDepth 100000
set_option maxHeartbeats 4000000
namespace Go.Proofs.YtegkbjpcgelomaaGreatDoor.Wk
open Go Go.Proofs Go.Conc Go.ConcX Go.ConcX.Gen Go.Conc.Lib Go.RowKit Go.Ph Go.Sim

theorem goes_imp {P : Program} {main : Bool} {R : World → World → Prop} {D : World → World → Array Event → Prop} {S S' : Goroutine → World → Prop} (h : ∀ g w, S g w → S' g w) : ∀ {n : Nat} {g : Goroutine} {w : World}, Goes P main R D S n g w → Goes P main R D S' n g w
  | 0, g, w, k => fun w₁ r => h _ _ (k w₁ r)
  | n + 1, g, w, k => by
    rcases k with k | ⟨k1, k2⟩
    · exact .inl fun w₁ r => h _ _ (k w₁ r)
    · refine .inr ⟨k1, fun w₁ r => ?_⟩
      have := k2 w₁ r
      revert this
      cases stepG P main g w₁ <;> first | exact fun x => ⟨x.1, goes_imp h x.2⟩ | exact id
section
variable {P : Program} {ty : TypeId} {Wg C Low : Nat} [Shy Wg C] {vals : List Value} {Mine : Loc → Prop} {A A' : Goroutine → World → Prop} {Post : Value → World → Prop}
theorem atKd_imp (h : ∀ g w, A g w → A' g w) {g : Goroutine} {w : World} (k : AtKd P ty Wg C Low vals Mine A g w) : AtKd P ty Wg C Low vals Mine A' g w := by
  obtain ⟨k1, g', k2, m, k3⟩ := k
  exact ⟨k1, g', k2, m, goes_imp h k3⟩
theorem atW2_imp (h : ∀ g w, A g w → A' g w) {g : Goroutine} {w : World} (k : AtW2 P ty Wg C Low vals Mine A Post g w) : AtW2 P ty Wg C Low vals Mine A' Post g w := by
  obtain ⟨k1, k2, k3⟩ := k
  exact ⟨k1, k2, fun x => by
    obtain ⟨g', e, m, k4⟩ := k3 x
    exact ⟨g', e, m, goes_imp h k4⟩⟩
theorem atW1_imp (h : ∀ g w, A g w → A' g w) {g : Goroutine} {w : World} (k : AtW1 P ty Wg C Low vals Mine A Post g w) : AtW1 P ty Wg C Low vals Mine A' Post g w := by
  obtain ⟨k1, g', k2, k3, k4⟩ := k
  exact ⟨k1, g', k2, fun x => by
    obtain ⟨m, k5⟩ := k3 x
    exact ⟨m, goes_imp (fun _ _ => atW2_imp h) k5⟩, k4⟩
end
section
variable (T : Frame → List Frame → World → Prop) (c : Frame) (xs bP : List Frame) (fr0 : Frame) (v0 : World) (H : HSet) (N c1 c2 po pe : Nat) (x st : Int) (K : Nat)
/-- Where it waits. -/
noncomputable def cW (t : Array Value) : Frame := (base 133).at ⟨t, []⟩ (.inRegion (opsOf (headSeq (kp 8))) (0 :: []) :: .code (kp 9) :: [])
def FJ (s : Value) (w : World) : Prop := ∃ w1, QAt T c xs fr0 v0 H st s (nv x K) w1 ∧ Aside2 N (N + 5) w1 w
def AnchU [Shy (N + 5) N] (g : Goroutine) (w : World) : Prop := ∃ (t : Array Value) (s : Value), TP N po pe st s t ∧ AnchW7 link (FJ T c xs fr0 v0 H N x st K s) (N + 5) N [.int .i64 x] (cW t) (c :: xs ++ bP) g w
/-- Back with its caller. -/
def stopU (g : Goroutine) (w : World) : Prop := ∃ (s : Value) (v' : World), g = G (c.finish s) (xs ++ bP) ∧ Lds Tryq.prog T fr0 (c :: xs) v0 (c.finish s) xs v' ∧ Hid H v' w
end
section
variable {T : Frame → List Frame → World → Prop} {c : Frame} {xs bP : List Frame} {fr0 : Frame} {v0 : World} {H : HSet} {N c1 c2 po pe : Nat} {x st : Int} {K B1 : Nat}
variable {Mine : Loc → Prop} {B' : Nat} [Shy (N + 5) N] {i : Nat} {w : World} {Post : Value → World → Prop}
theorem FJ.aside2 {s : Value} : ∀ w w', Aside2 N (N + 5) w w' → FJ T c xs fr0 v0 H N x st K s w → FJ T c xs fr0 v0 H N x st K s w' := fun w w' a ⟨w1, q, b⟩ => ⟨w1, q, b.trans a⟩
theorem FJ.done {s : Value} (ok : Okm Mine N H B') (h : FJ T c xs fr0 v0 H N x st K s w) (hw : WgAt 214 (N + 5) w 0 0) (hf : Full N [.int .i64 x] w) : QAt T c xs fr0 v0 H st s (nv x K) w := by
  obtain ⟨w1, ⟨t, v, q0, q1, q8, q9, L, hd⟩, a⟩ := h
  have h1 : H N := ok.hid N (by omega) (by omega)
  have h2 : H (N + 5) := ok.hid (N + 5) (by omega) (by omega)
  refine ⟨t, v, q0, q1, q8, q9, L, hid_turn hd a.tape a.os a.output a.size (fun b hb => a.block b (fun e => hb (e ▸ h1)) (fun e => hb (e ▸ h2))) fun b hb => ?_⟩
  by_cases e : b = N
  · subst e
    exact ⟨_, hf rfl, .cells _ _ (by simp), fun hl => absurd hl (by have := ok.low; omega)⟩
  by_cases e2 : b = N + 5
  · subst e2
    exact ⟨_, hw, .cells _ _ (by simp), fun hl => absurd hl (by have := ok.low; omega)⟩
  · rw [a.block b e e2]
    exact (hd.hid b hb).2
theorem after_wait (hG : Goal Tryq.prog T) (ok : Okm Mine N H B') (hK2 : ¬ nv x K ≤ st) (hstop : ∀ g w, stopU T c xs bP fr0 v0 H g w → Shy.stop (N + 5) N g w) {t : Array Value} {s : Value} (hT : TP N po pe st s t) (w : World) (hf : FJ T c xs fr0 v0 H N x st K s w) (h2 : WgAt link.tWg (N + 5) w 0 0) (h3 : Full N [.int .i64 x] w) :
    Goes Tryz.prog true AtRel (DPj Mine (N + 5) N (N + 6)) (AtRetJ Tryz.prog (N + 5) N Mine Post) 20 (G ((base 133).at ((⟨t, []⟩ : Act).put (((opsOf (headSeq (kp 8)))[0]?).bind (·.dst)) (.tuple #[])) (.inRegion (opsOf (headSeq (kp 8))) [] :: .code (kp 9) :: [])) (c :: xs ++ bP)) w := by
  have hF : QAt T c xs fr0 v0 H st s (nv x K) w := hf.done ok h2 h3
  clear hf h2 h3
  have rl : ∀ {w w' : World}, QAt T c xs fr0 v0 H st s (nv x K) w → AtRel w w' → QAt T c xs fr0 v0 H st s (nv x K) w' := fun h r => h.at r
  obtain ⟨hsz, h1, h5, h6, h7, h8⟩ := hT
  obtain ⟨a0, a1, a2, a3, a4, a5, a6, a7, a8, a9, a10, a11, a12, a13, a14, a15, a16, a17, a18, a19, a20, a21, a22, a23, a24, a25, a26, a27, rfl⟩ := array28 t hsz
  simp only [List.getElem?_toArray, List.getElem?_cons_succ, List.getElem?_cons_zero, Option.some.injEq] at h1 h5 h6 h7 h8
  subst h1 h5 h6 h7 h8
  simp only [kp, bodyP, Tryz.f133, Option.getD_some, headSeq, dropSeq, opsOf]
  walk_nrm
  refine Goes.step rfl (fun _ h₁ => ?_); replace hF := rl hF h₁; clear h₁; rw [stepG_region_end]; simp only [goes_go]; refine ⟨(by first | exact (fun e he => absurd he (by simp)) | exact ⟨⟨_, rfl⟩, by simp⟩ | exact ⟨fun _ _ _ => rfl, by simp⟩ | exact ⟨fun _ _ => rfl, by simp⟩ | exact ⟨Aside.refl _ _, by simp⟩), ?_⟩
  refine Goes.step rfl (fun _ h₁ => ?_); replace hF := rl hF h₁; clear h₁; rw [stepG_seq]; simp only [goes_go]; refine ⟨(by first | exact (fun e he => absurd he (by simp)) | exact ⟨⟨_, rfl⟩, by simp⟩ | exact ⟨fun _ _ _ => rfl, by simp⟩ | exact ⟨fun _ _ => rfl, by simp⟩ | exact ⟨Aside.refl _ _, by simp⟩), ?_⟩
  refine Goes.step rfl (fun _ h₁ => ?_); replace hF := rl hF h₁; clear h₁; rw [stepG_region]; simp only [goes_go, List.size_toArray, List.length_cons, List.length_nil, Nat.reduceAdd, Nat.zero_add, List.range, List.range.loop]; refine ⟨(by first | exact (fun e he => absurd he (by simp)) | exact ⟨⟨_, rfl⟩, by simp⟩ | exact ⟨fun _ _ _ => rfl, by simp⟩ | exact ⟨fun _ _ => rfl, by simp⟩ | exact ⟨Aside.refl _ _, by simp⟩), ?_⟩
  refine Goes.step rfl (fun _ h₁ => ?_); replace hF := rl hF h₁; clear h₁; refine goes_oper_k rfl rfl (by k_ne) (fun K hK => ?_); go_simp; refine hK _ _ ⟨by rw [show listed _ _ _ _ _ = #[] from listed_nil (by simp [go_sem, *])]; exact (by first | exact (fun e he => absurd he (by simp)) | exact ⟨⟨_, rfl⟩, by simp⟩ | exact ⟨fun _ _ _ => rfl, by simp⟩ | exact ⟨fun _ _ => rfl, by simp⟩ | exact ⟨Aside.refl _ _, by simp⟩), ?_⟩; clear hK K; try walk_nrm
  refine Goes.step rfl (fun _ h₁ => ?_); replace hF := rl hF h₁; clear h₁; refine goes_oper_k rfl rfl (by k_ne) (fun K hK => ?_); go_simp; refine hK _ _ ⟨by rw [show listed _ _ _ _ _ = #[] from listed_nil (by simp [go_sem, *])]; exact (by first | exact (fun e he => absurd he (by simp)) | exact ⟨⟨_, rfl⟩, by simp⟩ | exact ⟨fun _ _ _ => rfl, by simp⟩ | exact ⟨fun _ _ => rfl, by simp⟩ | exact ⟨Aside.refl _ _, by simp⟩), ?_⟩; clear hK K; try walk_nrm
  refine Goes.step rfl (fun _ h₁ => ?_); replace hF := rl hF h₁; clear h₁; rw [stepG_region_end]; simp only [goes_go]; refine ⟨(by first | exact (fun e he => absurd he (by simp)) | exact ⟨⟨_, rfl⟩, by simp⟩ | exact ⟨fun _ _ _ => rfl, by simp⟩ | exact ⟨fun _ _ => rfl, by simp⟩ | exact ⟨Aside.refl _ _, by simp⟩), ?_⟩
  refine Goes.step rfl (fun _ h₁ => ?_); replace hF := rl hF h₁; clear h₁; rw [stepG_ret']; simp only [goes_go]; refine ⟨(by first | exact (fun e he => absurd he (by simp)) | exact ⟨⟨_, rfl⟩, by simp⟩ | exact ⟨fun _ _ _ => rfl, by simp⟩ | exact ⟨fun _ _ => rfl, by simp⟩ | exact ⟨Aside.refl _ _, by simp⟩), ?_⟩
  refine Goes.step rfl (fun _ h₁ => ?_); replace hF := rl hF h₁; clear h₁
  rw [stepG_leave rfl rfl Tryz.func133 (results_tmp rfl _ _ _) (events_results_tmp rfl _ _)]
  simp only [goes_go]
  refine ⟨(by first | exact (fun e he => absurd he (by simp)) | exact ⟨⟨_, rfl⟩, by simp⟩ | exact ⟨fun _ _ _ => rfl, by simp⟩ | exact ⟨fun _ _ => rfl, by simp⟩ | exact ⟨Aside.refl _ _, by simp⟩), ?_⟩
  refine Goes.stop fun w₂ r₂ => ?_
  obtain ⟨tq, v, q0, q1, q8, q9, L, hd⟩ := rl hF r₂
  exact ⟨rfl, hstop _ _ ⟨_, _, rfl, L.trans (up_last hG q0 q1 q8 q9 hK2 w₂.tape w₂.drawn), hd⟩⟩
/-- FROM THE CLOSE INTO THE WAIT. -/
theorem close_go (hp : Pos N c1 c2 po pe) (ok : Okm Mine N H B') {g : Goroutine} (h : MAtU T c xs bP fr0 v0 H N c1 c2 po pe x st K (K + 1) g w) : g.status = .running ∧ mayWake Tryz.prog g = true ∧
    ∀ r s, w.heap[c2]? = some (.chan 0 #[] false s r false) → ∃ g', g'.status = .running ∧ stepG Tryz.prog true g w = .go g' (w.setChan c2 0 #[] true s r false) #[⟨.obj c2, false, true⟩, ⟨.obj c2, true, true⟩] ∧
      ∃ m, Goes Tryz.prog true (RPa link.tWg (N + 5) N [.int .i64 x]) (DPi Mine (N + 5) N (N + 6)) (AtKd Tryz.prog link.tWg (N + 5) N (N + 6) [.int .i64 x] Mine (AnchU T c xs bP fr0 v0 H N po pe x st K)) m g' (w.setChan c2 0 #[] true s r false) := by
  rcases h with ⟨e, -⟩ | ⟨-, hM, t, s, hT, hQ, h25, rfl⟩
  · omega
  refine ⟨rfl, rfl, fun r1 s1 hc => ?_⟩
  have hq : (Tryz.prog.funcs[(base 133).fn]?).any (·.norace) = false := by kernel_rfl
  refine ⟨_, ?_, stepG_close (o := ops10.getD 1 default) (x := .tmp 25) (by rfl) (by rfl) (by k_ne) rfl (eval_at h25) hc hq, 7, ?_⟩
  · rfl
  have hc2 : H c2 := ok.hid c2 (by have := hp.k2; omega) (by have := hp.k2; omega)
  have ha : Go.Conc.Aside c2 w (w.setChan c2 0 #[] true s1 r1 false) := aside_setChan ..
  have hn : (w.setChan c2 0 #[] true s1 r1 false).heap[c2]? = some (.chan 0 #[] true s1 r1 false) := at_setChan_self hc ..
  have hM' := hM.aside hp (.inr rfl) ha
  have hF : FJ T c xs fr0 v0 H N x st K s (w.setChan c2 0 #[] true s1 r1 false) ∧ KPa link.tWg (N + 5) N [.int .i64 x] (w.setChan c2 0 #[] true s1 r1 false) :=
    ⟨⟨_, hQ.chan hc2 ha hn (.chan _ _ _ _ _ _) (by have := ok.low; have := hp.k2; omega), Aside2.refl _⟩, .inl hM'.wg⟩
  have rl : ∀ {w w' : World}, (FJ T c xs fr0 v0 H N x st K s w ∧ KPa link.tWg (N + 5) N [.int .i64 x] w) → RPa link.tWg (N + 5) N [.int .i64 x] w w' → (FJ T c xs fr0 v0 H N x st K s w' ∧ KPa link.tWg (N + 5) N [.int .i64 x] w') := fun h r => fa_rely (L := link) FJ.aside2 h r
  have hA := fun w h => goes_imp (S' := AtKd Tryz.prog link.tWg (N + 5) N (N + 6) [.int .i64 x] Mine (AnchU T c xs bP fr0 v0 H N po pe x st K)) (fun g w k => atKd_imp (fun g w k => ⟨t, s, hT, k⟩) k) (waitStart (L := link) (P := Tryz.prog) wgLib (Mine := Mine) (Wg := N + 5) (C := N) (Low := N + 6) (vals := [.int .i64 x]) (F := FJ T c xs fr0 v0 H N x st K s) (b₀ := base 133) (a₀ := ⟨t, []⟩) (ops₀ := opsOf (headSeq (kp 8))) (i₀ := 0) (rest₀ := []) (k₀ := [.code (kp 9)]) (cs := c :: xs ++ bP) FJ.aside2 w h)
  have h7 := hT.t7
  have e7 := eval_at h7
  obtain ⟨hsz, h1, h5, h6, -, h8⟩ := hT
  obtain ⟨a0, a1, a2, a3, a4, a5, a6, a7, a8, a9, a10, a11, a12, a13, a14, a15, a16, a17, a18, a19, a20, a21, a22, a23, a24, a25, a26, a27, rfl⟩ := array28 t hsz
  simp only [List.getElem?_toArray, List.getElem?_cons_succ, List.getElem?_cons_zero, Option.some.injEq] at h1 h5 h6 h7 h8
  subst h1 h5 h6 h7 h8
  clear hM hQ ha hn hM' hc
  simp only [ops10, kp, bodyP, Tryz.f133, Option.getD_some, headSeq, dropSeq, opsOf, body_wait, waitFn] at hA ⊢
  refine Goes.step rfl (fun _ h₁ => ?_); replace hF := rl hF h₁; clear h₁; rw [stepG_region_end]; simp only [goes_go]; refine ⟨(by first | exact (fun e he => absurd he (by simp)) | exact ⟨⟨_, rfl⟩, by simp⟩ | exact ⟨fun _ _ _ => rfl, by simp⟩ | exact ⟨fun _ _ => rfl, by simp⟩ | exact ⟨Aside.refl _ _, by simp⟩), ?_⟩
  refine Goes.step rfl (fun _ h₁ => ?_); replace hF := rl hF h₁; clear h₁; rw [stepG_seq]; simp only [goes_go]; refine ⟨(by first | exact (fun e he => absurd he (by simp)) | exact ⟨⟨_, rfl⟩, by simp⟩ | exact ⟨fun _ _ _ => rfl, by simp⟩ | exact ⟨fun _ _ => rfl, by simp⟩ | exact ⟨Aside.refl _ _, by simp⟩), ?_⟩
  refine Goes.step rfl (fun _ h₁ => ?_); replace hF := rl hF h₁; clear h₁; rw [stepG_region]; simp only [goes_go, List.size_toArray, List.length_cons, List.length_nil, Nat.reduceAdd, Nat.zero_add, List.range, List.range.loop]; refine ⟨(by first | exact (fun e he => absurd he (by simp)) | exact ⟨⟨_, rfl⟩, by simp⟩ | exact ⟨fun _ _ _ => rfl, by simp⟩ | exact ⟨fun _ _ => rfl, by simp⟩ | exact ⟨Aside.refl _ _, by simp⟩), ?_⟩
  refine Goes.step rfl (fun _ h₁ => ?_); replace hF := rl hF h₁; clear h₁
  refine goes_call rfl rfl (by decide) rfl Tryz.func157 (nm_wait link) rfl ⟨(by first | exact (fun e he => absurd he (by simp)) | exact ⟨⟨_, rfl⟩, by simp⟩ | exact ⟨fun _ _ _ => rfl, by simp⟩ | exact ⟨fun _ _ => rfl, by simp⟩ | exact ⟨Aside.refl _ _, by simp⟩), ?_⟩
  walk_nrmf Tryz.f157
  exact hA _ hF
theorem wait_round (hG : Goal Tryq.prog T) (ok : Okm Mine N H B') (hK2 : ¬ nv x K ≤ st) (hstop : ∀ g w, stopU T c xs bP fr0 v0 H g w → Shy.stop (N + 5) N g w) (g : Goroutine) (w : World) (h : AnchU T c xs bP fr0 v0 H N po pe x st K g w) :
    ∃ m, Goes Tryz.prog true (RPa link.tWg (N + 5) N [.int .i64 x]) (DPi Mine (N + 5) N (N + 6)) (AtW1 Tryz.prog link.tWg (N + 5) N (N + 6) [.int .i64 x] Mine (AnchU T c xs bP fr0 v0 H N po pe x st K) Post) m g w := by
  obtain ⟨t, s, hT, h7⟩ := h
  obtain ⟨m, hm⟩ := waitRound (L := link) (P := Tryz.prog) wgLib (Mine := Mine) (Wg := N + 5) (C := N) (Low := N + 6) (vals := [.int .i64 x]) (F := FJ T c xs fr0 v0 H N x st K s) (Post := Post) (b₀ := base 133) (a₀ := ⟨t, []⟩) (ops₀ := opsOf (headSeq (kp 8))) (i₀ := 0) (rest₀ := []) (k₀ := [.code (kp 9)]) (cs := c :: xs ++ bP) (by omega) FJ.aside2 (after_wait hG ok hK2 hstop hT) g w h7
  exact ⟨m, goes_imp (fun g w k => atW1_imp (fun g w k => ⟨t, s, hT, k⟩) k) hm⟩
end
end Go.Proofs.YtegkbjpcgelomaaGreatDoor.Wk
end
/- sabbath.upto, goroutine 0: from the call of Add through the go statement to the first receive. -/
section
set_option maxRecDepth 100000
set_option maxHeartbeats 4000000
namespace Go.Proofs.YtegkbjpcgelomaaGreatDoor.Wk
open Go Go.Proofs Go.Conc Go.ConcX Go.ConcX.Gen Go.Conc.Lib Go.RowKit Go.Ph Go.Sim

/-- Six blocks more are hidden. -/
def H6 (H : HSet) (N : Nat) : HSet := ⟨fun b => H b ∨ (N ≤ b ∧ b < N + 6), H.n, H.o⟩
theorem six_get {v : World} {b : Nat} : (six v).heap[b]? = if b < v.heap.size then v.heap[b]? else if b < v.heap.size + 6 then some hidO else none := by
  show ((((((v.heap.push hidO).push hidO).push hidO).push hidO).push hidO).push hidO)[b]? = _
  simp only [Array.getElem?_push, Array.size_push]
  by_cases h : b < v.heap.size
  · rw [if_neg (by omega), if_neg (by omega), if_neg (by omega), if_neg (by omega), if_neg (by omega), if_neg (by omega), if_pos h]
  · rw [if_neg h]
    by_cases k : b < v.heap.size + 6
    · rw [if_pos k]
      repeat' split
      all_goals first | rfl | omega
    · rw [if_neg k, if_neg (by omega), if_neg (by omega), if_neg (by omega), if_neg (by omega), if_neg (by omega), if_neg (by omega)]
      exact Array.getElem?_eq_none (by omega)
theorem hid_six {H : HSet} {v w0 w : World} {c1 c2 po pe : Nat} {x st6 : Int} (hd : Hid H v w0) (h : Mw w0 c1 c2 po pe x st6 w) : Hid (H6 H w0.heap.size) (re (six v) w.tape w.drawn) w := by
  have hz := hd.size
  have hp := h.pos
  have p1 := hp.k1; have p2 := hp.k2; have p3 := hp.o; have p4 := hp.e; have pd := hp.d
  refine ⟨rfl, rfl, ?_, ?_, ?_, fun b nb => ?_, fun b hb => ?_, by rw [h.size]; show H.n ≤ _; have := hd.low; omega, fun b o hb => ?_⟩
  · rw [h.rest.2.1]; exact hd.os
  · rw [h.rest.2.2]; exact hd.output
  · rw [h.size]
    show ((((((v.heap.push hidO).push hidO).push hidO).push hidO).push hidO).push hidO).size = _
    simp only [Array.size_push]; omega
  · show (six v).heap[b]? = _
    rw [six_get]
    by_cases hb : b < v.heap.size
    · rw [if_pos hb, h.low b (by omega)]
      exact hd.same b fun e => nb (.inl e)
    · have : ¬ b < v.heap.size + 6 := fun e => nb (.inr ⟨by omega, by omega⟩)
      rw [if_neg hb, if_neg this]
      exact (Array.getElem?_eq_none (by rw [h.size]; omega)).symm
  · show (six v).heap[b]? = _ ∧ _
    rw [six_get]
    rcases hb with hb | ⟨hb1, hb2⟩
    · have := hd.lt hb
      rw [if_pos this, h.low b (by omega)]
      exact hd.hid b hb
    · rw [if_neg (by omega), if_pos (by omega)]
      refine ⟨rfl, ?_⟩
      have hbn : ¬ b < (H6 H w0.heap.size).n := by show ¬ b < H.n; have := hd.low; omega
      by_cases e0 : b = w0.heap.size
      · subst e0; exact ⟨_, h.full, .cells _ _ (by simp), fun hl => absurd hl hbn⟩
      by_cases e5 : b = w0.heap.size + 5
      · subst e5; exact ⟨_, h.wg, .cells _ _ (by simp), fun hl => absurd hl hbn⟩
      by_cases e1 : b = c1
      · subst e1; exact ⟨_, h.k1, .chan _ _ _ _ _ _, fun hl => absurd hl hbn⟩
      by_cases e2 : b = c2
      · subst e2; exact ⟨_, h.k2, .chan _ _ _ _ _ _, fun hl => absurd hl hbn⟩
      by_cases e3 : b = po
      · subst e3; exact ⟨_, h.o, .cells _ _ (by simp), fun hl => absurd hl hbn⟩
      by_cases e4 : b = pe
      · subst e4; exact ⟨_, h.e, .cells _ _ (by simp), fun hl => absurd hl hbn⟩
      omega
  · have hb' : (six v).heap[b]? = some o := hb
    rw [six_get] at hb'
    split at hb'
    · exact hd.ok b o hb'
    · split at hb'
      · cases hb'; rfl
      · cases hb'
theorem Mw.add {w0 w : World} {c1 c2 po pe : Nat} {x : Int} (h : Mw w0 c1 c2 po pe x 0 w) : Mw w0 c1 c2 po pe x KK (w.setCell (stA (w0.heap.size + 5)) (.int .u64 KK)) := by
  have ha : Go.Conc.Aside (w0.heap.size + 5) w (w.setCell (stA (w0.heap.size + 5)) (.int .u64 KK)) := aside_setCell _ (stA (w0.heap.size + 5)) _
  have hp := h.pos
  have p1 := hp.k1; have p2 := hp.k2; have p3 := hp.o; have p4 := hp.e
  exact ⟨h.pos, by rw [ha.size]; exact h.size, fun b hb => (ha.block b (by omega)).trans (h.low b hb), ⟨ha.tape.trans h.rest.1, ha.os.trans h.rest.2.1, ha.output.trans h.rest.2.2⟩, (ha.block _ (by omega)).trans h.full, (ha.block _ (by omega)).trans h.k1, (ha.block _ (by omega)).trans h.k2, (ha.block _ (by omega)).trans h.o, (ha.block _ (by omega)).trans h.e, h.wg.setSt KK⟩
theorem Mw.cells {w0 w : World} {c1 c2 po pe : Nat} {x st6 : Int} (h : Mw w0 c1 c2 po pe x st6 w) : w.cell? ⟨po, 0, none⟩ = some (.chan (some c1)) ∧ w.cell? ⟨pe, 0, none⟩ = some (.chan (some c2)) := by
  constructor
  · unfold World.cell?; rw [h.o]; rfl
  · unfold World.cell?; rw [h.e]; rfl
section
variable {T : Frame → List Frame → World → Prop} {c : Frame} {xs bP : List Frame} {fr0 : Frame} {v0 : World} {H : HSet} {c1 c2 po pe : Nat} {x st : Int} {K B1 : Nat} {w0 v w : World}
variable {v3 v8 v9 v12 v13 v14 v15 v16 v17 v18 v19 v20 v21 v22 v23 v24 v25 v26 v27 : Value}
theorem lone_go {Mine : Loc → Prop} {B' : Nat} [Shy (w0.heap.size + 5) w0.heap.size] (hx0 : -10000000 ≤ x) (hx1 : x ≤ 100000000) (hO : Own Mine w0.heap.size) (hd : Hid H v w0) {tq : Array Value} (q0 : tq.size = 28) (q1 : tq[1]? = some (.int .i64 st)) (q8 : tq[8]? = some (.slice none 0 0)) (q9 : tq[9]? = some (.int .i64 (sat x))) (L : Lds Tryq.prog T fr0 (c :: xs) v0 (headQ tq) (c :: xs) (six v))
    (hM : Mw w0 c1 c2 po pe x 0 w) :
    Lone Tryz.prog 214 (w0.heap.size + 5) w0.heap.size w0.heap.size (w0.heap.size + 6) Mine c1 c2 (MAtU T c xs bP fr0 v0 (H6 H w0.heap.size) w0.heap.size c1 c2 po pe x st K) (CAtU w0.heap.size c1 c2 po pe x)
      (addG w0 c1 c2 po pe x st (c :: xs ++ bP) v3 v8 v9 v12 v13 v14 v15 v16 v17 v18 v19 v20 v21 v22 v23 v24 v25 v26 v27) w := by
  refine ⟨12 + 1, ?_⟩
  have hA := @addPos link (w0.heap.size + 5) w0.heap.size
  simp only [addG, rp, kp, bodyP, Tryz.f133, Option.getD_some, headSeq, dropSeq, opsOf, body_add, addFn] at hA ⊢
  refine Goes.step rfl (fun w₁ h₁ => ?_)
  have hF := hM.at h₁
  clear h₁
  refine goes_call rfl rfl (by decide) rfl Tryz.func153 (nm_add link) rfl ⟨(by first | exact (fun e he => absurd he (by simp)) | exact ⟨⟨_, rfl⟩, by simp⟩ | exact ⟨fun _ _ _ => rfl, by simp⟩ | exact ⟨fun _ _ => rfl, by simp⟩ | exact ⟨Aside.refl _ _, by simp⟩), ?_⟩
  walk_nrmf Tryz.f153
  refine hA (mT := 20) wgLib _ hF.wg ?_
  clear hA
  have hF2 := hF.add
  clear hF hM
  have hF := hF2
  have rl : ∀ {w w' : World}, Mw w0 c1 c2 po pe x KK w → AtRel w w' → Mw w0 c1 c2 po pe x KK w' := fun h r => h.at r
  walk_nrm
  refine Goes.step rfl (fun _ h₁ => ?_); replace hF := rl hF h₁; clear h₁; rw [stepG_region_end]; simp only [goes_go]; refine ⟨(by first | exact (fun e he => absurd he (by simp)) | exact ⟨⟨_, rfl⟩, by simp⟩ | exact ⟨fun _ _ _ => rfl, by simp⟩ | exact ⟨fun _ _ => rfl, by simp⟩ | exact ⟨Aside.refl _ _, by simp⟩), ?_⟩
  refine Goes.step rfl (fun _ h₁ => ?_); replace hF := rl hF h₁; clear h₁; rw [stepG_seq]; simp only [goes_go]; refine ⟨(by first | exact (fun e he => absurd he (by simp)) | exact ⟨⟨_, rfl⟩, by simp⟩ | exact ⟨fun _ _ _ => rfl, by simp⟩ | exact ⟨fun _ _ => rfl, by simp⟩ | exact ⟨Aside.refl _ _, by simp⟩), ?_⟩
  refine Goes.step rfl (fun _ h₁ => ?_); replace hF := rl hF h₁; clear h₁; rw [stepG_region]; simp only [goes_go, List.size_toArray, List.length_cons, List.length_nil, Nat.reduceAdd, Nat.zero_add, List.range, List.range.loop]; refine ⟨(by first | exact (fun e he => absurd he (by simp)) | exact ⟨⟨_, rfl⟩, by simp⟩ | exact ⟨fun _ _ _ => rfl, by simp⟩ | exact ⟨fun _ _ => rfl, by simp⟩ | exact ⟨Aside.refl _ _, by simp⟩), ?_⟩
  refine Goes.step rfl (fun _ h₁ => ?_); replace hF := rl hF h₁; clear h₁
  rw [stepG_value (v := .func (.func 154) #[] #[.pointer (some ⟨w0.heap.size + 5, 0, none⟩), .pointer (some ⟨w0.heap.size, 0, none⟩), .pointer (some ⟨po, 0, none⟩), .pointer (some ⟨pe, 0, none⟩)]) rfl (by rfl) (by k_ne) (by simp [execOp, Instr.makeFunc, Act.eval]; rfl)]
  simp only [goes_go]
  refine ⟨by rw [listed_nil (by rfl)]; exact (by first | exact (fun e he => absurd he (by simp)) | exact ⟨⟨_, rfl⟩, by simp⟩ | exact ⟨fun _ _ _ => rfl, by simp⟩ | exact ⟨fun _ _ => rfl, by simp⟩ | exact ⟨Aside.refl _ _, by simp⟩), ?_⟩
  walk_nrm
  refine Goes.stop fun w₂ r₂ => ?_
  replace hF := rl hF r₂
  have hCK : CK w0.heap.size c1 c2 po pe x w₂ := ⟨hF.pos, hF.full, hF.cells.1, hF.cells.2⟩
  refine ⟨rfl, _, _, w₂, _, stepG_spawn (d := callC w0.heap.size po pe) (w' := w₂) (f := .func 154) (c := #[.pointer (some ⟨w0.heap.size + 5, 0, none⟩), .pointer (some ⟨w0.heap.size, 0, none⟩), .pointer (some ⟨po, 0, none⟩), .pointer (some ⟨pe, 0, none⟩)]) rfl (by rfl) (by k_ne) (by simp [execOp, resolve, Act.eval, callC, Deferred.ofValue]) rfl, ?_, hF.wg, ⟨_, _, hF.k1⟩, ⟨_, _, hF.k2⟩, ⟨20, ?_⟩, kid_start hO (by omega) (by omega) w₂ hCK⟩
  · rw [listed_nil (by rfl)]
    exact fun e he => absurd he (by simp)
  · have hp := hF.pos
    have hF2 : MF w0.heap.size c1 c2 po pe 0 w₂ ∧ Hid (H6 H w0.heap.size) (re (six v) w₂.tape w₂.drawn) w₂ := ⟨⟨hF.cells.1, hF.cells.2, by rw [hF.size]; omega, hF.wg⟩, hid_six hd hF⟩
    clear hF rl hCK r₂
    have hF := hF2
    have rl : ∀ {w w' : World}, (MF w0.heap.size c1 c2 po pe 0 w ∧ Hid (H6 H w0.heap.size) (re (six v) w.tape w.drawn) w) → AtRel w w' → (MF w0.heap.size c1 c2 po pe 0 w' ∧ Hid (H6 H w0.heap.size) (re (six v) w'.tape w'.drawn) w') := fun h r => ⟨h.1.at r, hid_at h.2 r⟩
    walk_nrm
    refine Goes.step rfl (fun _ h₁ => ?_); replace hF := rl hF h₁; clear h₁; rw [stepG_region_end]; simp only [goes_go]; refine ⟨(by first | exact (fun e he => absurd he (by simp)) | exact ⟨⟨_, rfl⟩, by simp⟩ | exact ⟨fun _ _ _ => rfl, by simp⟩ | exact ⟨fun _ _ => rfl, by simp⟩ | exact ⟨Aside.refl _ _, by simp⟩), ?_⟩
    refine Goes.step rfl (fun _ h₁ => ?_); replace hF := rl hF h₁; clear h₁; rw [stepG_seq]; simp only [goes_go]; refine ⟨(by first | exact (fun e he => absurd he (by simp)) | exact ⟨⟨_, rfl⟩, by simp⟩ | exact ⟨fun _ _ _ => rfl, by simp⟩ | exact ⟨fun _ _ => rfl, by simp⟩ | exact ⟨Aside.refl _ _, by simp⟩), ?_⟩
    refine Goes.step rfl (fun _ h₁ => ?_); replace hF := rl hF h₁; clear h₁; rw [stepG_region]; simp only [goes_go, List.size_toArray, List.length_cons, List.length_nil, Nat.reduceAdd, Nat.zero_add, List.range, List.range.loop]; refine ⟨(by first | exact (fun e he => absurd he (by simp)) | exact ⟨⟨_, rfl⟩, by simp⟩ | exact ⟨fun _ _ _ => rfl, by simp⟩ | exact ⟨fun _ _ => rfl, by simp⟩ | exact ⟨Aside.refl _ _, by simp⟩), ?_⟩
    refine Goes.step rfl (fun _ h₁ => ?_); replace hF := rl hF h₁; clear h₁; refine goes_oper_k rfl rfl (by k_ne) (fun K hK => ?_); go_simp; refine hK _ _ ⟨by rw [show listed _ _ _ _ _ = #[] from listed_nil (by simp [go_sem, *])]; exact (by first | exact (fun e he => absurd he (by simp)) | exact ⟨⟨_, rfl⟩, by simp⟩ | exact ⟨fun _ _ _ => rfl, by simp⟩ | exact ⟨fun _ _ => rfl, by simp⟩ | exact ⟨Aside.refl _ _, by simp⟩), ?_⟩; clear hK K; try walk_nrm
    refine Goes.step rfl (fun _ h₁ => ?_); replace hF := rl hF h₁; clear h₁; rw [stepG_region_end]; simp only [goes_go]; refine ⟨(by first | exact (fun e he => absurd he (by simp)) | exact ⟨⟨_, rfl⟩, by simp⟩ | exact ⟨fun _ _ _ => rfl, by simp⟩ | exact ⟨fun _ _ => rfl, by simp⟩ | exact ⟨Aside.refl _ _, by simp⟩), ?_⟩
    refine Goes.step rfl (fun _ h₁ => ?_); replace hF := rl hF h₁; clear h₁; rw [stepG_seq]; simp only [goes_go]; refine ⟨(by first | exact (fun e he => absurd he (by simp)) | exact ⟨⟨_, rfl⟩, by simp⟩ | exact ⟨fun _ _ _ => rfl, by simp⟩ | exact ⟨fun _ _ => rfl, by simp⟩ | exact ⟨Aside.refl _ _, by simp⟩), ?_⟩
    refine Goes.step rfl (fun _ h₁ => ?_); replace hF := rl hF h₁; clear h₁; rw [stepG_seq]; simp only [goes_go]; refine ⟨(by first | exact (fun e he => absurd he (by simp)) | exact ⟨⟨_, rfl⟩, by simp⟩ | exact ⟨fun _ _ _ => rfl, by simp⟩ | exact ⟨fun _ _ => rfl, by simp⟩ | exact ⟨Aside.refl _ _, by simp⟩), ?_⟩
    refine Goes.step rfl (fun _ h₁ => ?_); replace hF := rl hF h₁; clear h₁; rw [stepG_region]; simp only [goes_go, List.size_toArray, List.length_cons, List.length_nil, Nat.reduceAdd, Nat.zero_add, List.range, List.range.loop]; refine ⟨(by first | exact (fun e he => absurd he (by simp)) | exact ⟨⟨_, rfl⟩, by simp⟩ | exact ⟨fun _ _ _ => rfl, by simp⟩ | exact ⟨fun _ _ => rfl, by simp⟩ | exact ⟨Aside.refl _ _, by simp⟩), ?_⟩
    refine Goes.step rfl (fun _ h₁ => ?_); replace hF := rl hF h₁; clear h₁; refine goes_oper_k rfl rfl (by k_ne) (fun K hK => ?_); have hx := hF.1.o; go_simp; refine hK _ _ ⟨⟨fun _ _ _ => rfl, fun e he => ?_⟩, ?_⟩; (· have hm := mem_listed he; simp [go_sem, *] at hm; subst hm; exact evq_read0 hO _ (by have := hp.o; simp; omega) (by have := hp.o; simp; omega)); clear hK K hx; try walk_nrm
    refine Goes.stop fun w₃ r₃ => ?_
    replace hF := rl hF r₃
    exact .inl ⟨Nat.zero_le _, hF.1, _, _, ⟨rfl, rfl, rfl, rfl, rfl, rfl⟩, ⟨tq, six v, q0, q1, q8, q9, L, hF.2⟩, .inl ⟨rfl, rfl, rfl⟩⟩
end
end Go.Proofs.YtegkbjpcgelomaaGreatDoor.Wk
end
