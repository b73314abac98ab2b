/- The table of types out of the row's condition. -/
import Derived.Test.YtegkbjpcgelomaaGreatDoorZ15
import Derived.Test.YtegkbjpcgelomaaGreatDoorRows
import Derived.LaidLaws
import Derived.ProofKit
import Derived.OpenShut
import Derived.Lib.LaidTab
import Derived.Stop.LaidErr
import Derived.Test.YtegkbjpcgelomaaGreatDoorZ12
import Derived.Conc.Beside
import Derived.Test.YtegkbjpcgelomaaGreatDoorCards
import Derived.Test.YtegkbjpcgelomaaGreatDoorTie
import Derived.Conc.LeavingOf
import Derived.Conc.Holds
import Derived.SevenTiedAt
set_option linter.unusedVariables false
set_option linter.unusedSimpArgs false
set_option linter.unusedSectionVars false
section
namespace Go.Proofs.YtegkbjpcgelomaaGreatDoor.Laid
open Go Go.RowKit Go.ChangeShapes Go.WideShapes Go.Proofs.YtegkbjpcgelomaaGreatDoor.Walks
section
variable {H : Type} {enc : TypeId × Value → H} {w : World} {base : Nat} {spare : Nat → Bool} {held : Bool}

theorem cells_type {fuel : Nat} {c : List Value} {b k : Int} {l : Bool} {p : List MemPlace} (hl : c.length = 3) (hf : DataW.trod enc Tryz.prog w base spare held fuel 31 c = some (.agg [.lit (.int .i64 b), .lit (.int .i64 k), .lit (.bool l)], p)) :
    c = [.int .i64 b, .int .i64 k, .bool l] := by
  match c, hl with
  | [c0, c1, c2], _ =>
    obtain ⟨xs, n, _, hx, _, hlen, hg⟩ := DataW.trod_struct Tryz.underlying31 hf
    match xs, hlen with
    | [y0, y1, y2], _ =>
      have k0 : Tryz.prog.cellsOf 3 = 1 := by kernel_rfl
      have k2 : Tryz.prog.cellsOf 4 = 1 := by kernel_rfl
      have g0 := hg 0 _ rfl
      simp [k0] at g0
      obtain ⟨a0, e0, f0, w0⟩ := DataW.trod_int Tryz.underlying3 g0
      have g1 := hg 1 _ rfl
      simp [k0] at g1
      obtain ⟨a1, e1, f1, w1⟩ := DataW.trod_int Tryz.underlying3 g1
      have g2 := hg 2 _ rfl
      simp [k0, k2] at g2
      obtain ⟨a2, e2, f2⟩ := DataW.trod_bool Tryz.underlying4 g2
      subst f0 f1 f2
      simp at hx e0 e1 e2
      obtain ⟨⟨q0, q1, q2⟩, -⟩ := hx
      subst e0 e1 e2 q0 q1 q2
      rfl

/-- The k-th of the fourteen, as a datum. -/
def dat (k : Nat) : DataW H := .agg [.lit (.int .i64 (kB k)), .lit (.int .i64 (kK k)), .lit (.bool (kL k))]
theorem und_arr : Tryz.prog.underlying 82 = some (.array 14 31) := by kernel_rfl
theorem cells_arr {fuel : Nat} {cs : List Value} {ds : List (DataW H)} {p : List MemPlace} (h : DataW.trod enc Tryz.prog w base spare held fuel 82 cs = some (.agg ds, p)) (k : Nat) (hk : k < 14) (hd : ds[k]? = some (dat k)) :
    cs[k * 3]? = some (.int .i64 (kB k)) ∧ cs[k * 3 + 1]? = some (.int .i64 (kK k)) ∧ cs[k * 3 + 2]? = some (.bool (kL k)) := by
  have hce : Tryz.prog.cellsOf 31 = 3 := by kernel_rfl
  have hct : Tryz.prog.cellsOf 82 = 42 := by kernel_rfl
  cases fuel with
  | zero => simp [DataW.trod] at h
  | succ fuel =>
    simp only [DataW.trod, und_arr, hce, hct] at h
    split at h
    · rename_i hl
      obtain ⟨xs, hm, hx⟩ := Option.map_eq_some_iff.1 h
      obtain ⟨y, hy, hf⟩ := Lib.mapM_at hm k k (by simp [hk])
      have hxs : xs.map (·.1) = ds := by
        have := congrArg Prod.fst hx
        simpa using this
      have h2 : (xs.map (·.1))[k]? = some y.1 := by simp [hy]
      rw [hxs, hd] at h2
      obtain ⟨y1, y2⟩ := y
      simp at h2
      subst h2
      have hlen : ((cs.drop (k * 3)).take 3).length = 3 := by
        have hl' : cs.length = 42 := by simpa using hl
        simp
        omega
      have e := cells_type hlen hf
      have at_ : ∀ j, j < 3 → cs[k * 3 + j]? = ((cs.drop (k * 3)).take 3)[j]? := fun j hj => by
        rw [List.getElem?_take_of_lt hj, List.getElem?_drop]
      rw [e] at at_
      exact ⟨at_ 0 (by omega), at_ 1 (by omega), at_ 2 (by omega)⟩
    · cases h
end
theorem TT_of_laid {W : World} {rest : List (String × DataW Unit)} (h : laidMet Tryz.prog (("almanacker/keviah.types", Rows.laid_almanacker_keviah_types) :: rest) W) : TT W := by
  obtain ⟨ps, ⟨g', t', cs, fuel, p, q, hg', ht', hvar, hd, _, _⟩, _⟩ := h
  have hg : Tryz.prog.globalNamed "almanacker/keviah.types" = some 0 := by kernel_rfl
  have hty : (Tryz.prog.globals[0]?).map (·.type) = some 82 := by kernel_rfl
  obtain rfl := Option.some.inj (hg.symm.trans hg')
  obtain rfl := Option.some.inj (hty.symm.trans ht')
  have c := fun i => World.var?_cell hg hvar i
  have key := fun k (hk : k < 14) (z : _) => cells_arr hd k hk z
  have all : ∀ k, k < 14 → cs.toList[k * 3]? = some (.int .i64 (kB k)) ∧ cs.toList[k * 3 + 1]? = some (.int .i64 (kK k)) ∧ cs.toList[k * 3 + 2]? = some (.bool (kL k)) := fun k hk => key k hk (by
    match k, hk with
    | 0, _ => rfl
    | 1, _ => rfl
    | 2, _ => rfl
    | 3, _ => rfl
    | 4, _ => rfl
    | 5, _ => rfl
    | 6, _ => rfl
    | 7, _ => rfl
    | 8, _ => rfl
    | 9, _ => rfl
    | 10, _ => rfl
    | 11, _ => rfl
    | 12, _ => rfl
    | 13, _ => rfl)
  refine ⟨fun k hk => ?_, fun k hk => ?_, fun k hk => ?_⟩
  · rw [c]; simpa using (all k hk).1
  · rw [c]; simpa using (all k hk).2.1
  · rw [c]; simpa using (all k hk).2.2
end Go.Proofs.YtegkbjpcgelomaaGreatDoor.Laid
end
/- Both tables out of the row's condition. -/
section
namespace Go.Proofs.YtegkbjpcgelomaaGreatDoor.Laid
open Go Go.RowKit Go.ChangeShapes Go.WideShapes Go.Proofs.YtegkbjpcgelomaaGreatDoor.Walks
theorem gplain : Tryz.prog.globalNamed "almanacker/month.plain" = some 1 := by kernel_rfl
theorem gplainT : (Tryz.prog.globals[1]?).map (·.type) = some 135 := by kernel_rfl
theorem und12 : Tryz.prog.underlying 135 = some (.array 12 3) := by kernel_rfl
theorem plain_head {W : World} {rest : List (String × DataW Unit)} (h : laidMet Tryz.prog (("almanacker/month.plain", Rows.laid_almanacker_month_plain) :: rest) W) :
    Lib.TabIs Tryz.prog W "almanacker/month.plain" .i64 [30, 29, 30, 29, 30, 29, 30, 29, 30, 29, 30, 29] :=
  Lib.tabIs_of_head gplain gplainT und12 Tryz.underlying3 (by kernel_rfl) (by kernel_rfl) h
theorem GT_of_laid {W : World} {rest : List (String × DataW Unit)} (h : laidMet Tryz.prog (("almanacker/keviah.types", Rows.laid_almanacker_keviah_types) :: ("almanacker/month.plain", Rows.laid_almanacker_month_plain) :: rest) W) : GT W := by
  have T := TT_of_laid h
  have P := plain_head (laidMet.tail h)
  have c : ∀ j, j < 12 → W.cell? ⟨1, j, none⟩ = some (.int .i64 (plv j)) := fun j hj => by
    have h2 := P.cell gplain j (by simpa using hj)
    rw [h2]
    have : j = 0 ∨ j = 1 ∨ j = 2 ∨ j = 3 ∨ j = 4 ∨ j = 5 ∨ j = 6 ∨ j = 7 ∨ j = 8 ∨ j = 9 ∨ j = 10 ∨ j = 11 := by omega
    rcases this with rfl | rfl | rfl | rfl | rfl | rfl | rfl | rfl | rfl | rfl | rfl | rfl <;> rfl
  exact ⟨T, World.block_lt_of_cell? W _ (c 0 (by omega)), c⟩
end Go.Proofs.YtegkbjpcgelomaaGreatDoor.Laid
end
/- A contract over the program that stands beside, of a call that tells true: the true machine's run, on whatever tape, ends so. -/
section
namespace Go.Proofs.YtegkbjpcgelomaaGreatDoor.Lift
open Go Go.Proofs Go.Conc Go.ConcX Go.Sim Go.Proofs.YtegkbjpcgelomaaGreatDoor.Base Go.Proofs.YtegkbjpcgelomaaGreatDoor.Walks Go.Proofs.YtegkbjpcgelomaaGreatDoor.Wk

/-- What a world comes to if the blocks at which nobody may look sideways are hidden. -/
def calmO (o : Obj) : Obj := if okObj o = true then o else hidO
def calm (W : World) : World := { W with heap := W.heap.map calmO }
theorem calm_get (W : World) (b : Nat) : (calm W).heap[b]? = (W.heap[b]?).map calmO := by simp [calm]
theorem calm_ok {W : World} {b : Nat} {o : Obj} (h : W.heap[b]? = some o) (ho : okObj o = true) : (calm W).heap[b]? = some o := by
  rw [calm_get, h]
  simp [calmO, ho]
theorem calm_cell {W : World} {a : Addr} {x : Value} (h : W.cell? a = some x) : (calm W).cell? a = some x := by
  unfold World.cell? at h ⊢
  cases e : W.heap[a.block]? with
  | none => simp [e] at h
  | some o =>
    rw [e] at h
    cases o with
    | cells c t f => rw [calm_ok e rfl]; exact h
    | _ => simp at h
theorem calm_size (W : World) : (calm W).heap.size = W.heap.size := by simp [calm]
theorem calm_world (W : World) : OkWorld (calm W) := by
  intro b o h
  rw [calm_get] at h
  obtain ⟨o1, -, rfl⟩ := Option.map_eq_some_iff.1 h
  unfold calmO
  split
  · assumption
  · rfl
/-- What is hidden at the start. -/
def hid0 (W : World) : HSet := ⟨fun b => ∃ o, W.heap[b]? = some o ∧ okObj o = false, W.heap.size, fun b => W.heap[b]?⟩
theorem calm_hid (W : World) : Hid (hid0 W) (calm W) W := by
  refine ⟨rfl, rfl, rfl, rfl, calm_size W, fun b nb => ?_, fun b hb => ?_, Nat.le_refl _, calm_world W⟩
  · rw [calm_get]
    cases e : W.heap[b]? with
    | none => rfl
    | some o =>
      have : okObj o = true := by
        cases h : okObj o with
        | true => rfl
        | false => exact absurd ⟨o, e, h⟩ nb
      simp [calmO, this]
  · obtain ⟨o, e, ho⟩ := hb
    refine ⟨by rw [calm_get, e]; simp [calmO, ho], o, e, ?_, fun _ => e⟩
    cases o with
    | pending c t => exact .pending c t
    | loop l => exact .loop l
    | _ => simp [okObj] at ho
theorem gt_calm {W : World} (G : GT W) : GT (calm W) :=
  ⟨⟨fun k hk => calm_cell (G.t.b k hk), fun k hk => calm_cell (G.t.k k hk), fun k hk => calm_cell (G.t.l k hk)⟩, by rw [calm_size]; exact G.lt, fun j hj => calm_cell (G.p j hj)⟩
theorem pt_calm {W : World} (p : PT W) : PT (calm W) := by
  refine ⟨?_⟩
  have h := p.tab
  unfold Lib.TabIs World.var? at *
  cases hg : Tryq.prog.globalNamed "internal/strconv.uint64pow10" with
  | none => simp [hg] at h
  | some k =>
    simp only [hg, Option.bind_some] at h ⊢
    cases e : W.heap[k]? with
    | none => simp [e] at h
    | some o =>
      rw [e] at h
      cases o with
      | cells c t f => rw [calm_ok e rfl]; exact h
      | _ => simp at h
theorem gt_re {v : World} (G : GT v) (τ : Nat → Question → Nat) (n : Nat) : GT (re v τ n) := ⟨⟨G.t.b, G.t.k, G.t.l⟩, G.lt, G.p⟩
theorem pt_re {v : World} (p : PT v) (τ : Nat → Question → Nat) (n : Nat) : PT (re v τ n) := ⟨p.tab⟩
/-- The place to come to: the call comes back true; what was there is as it was. -/
def Told (f : FuncId) (fn : Func) (k : Tmp) (v0 : World) (fr : Frame) (cs : List Frame) (v : World) : Prop :=
  fr.mode = .returning ∧ cs = [foot Tryq.prog] ∧ fr.fn = f ∧ fr.defers = [] ∧ fr.kind = .normal ∧ fr.tmps.getD k undef = .bool true ∧ v0.heap.size ≤ v.heap.size ∧ (∀ k, k < v0.heap.size → v.heap[k]? = v0.heap[k]?) ∧ v.os = v0.os ∧ v.output = v0.output
theorem told_goal (f : FuncId) (fn : Func) (k : Tmp) (v0 : World) : Goal Tryq.prog (Told f fn k v0) := ⟨fun fr cs v h => ⟨h.1, h.2.1⟩, fun fr cs v τ n h => h⟩
/-- What was there is as it was. -/
def KeptAll (W w' : World) : Prop := w'.os = W.os ∧ w'.output = W.output ∧ W.heap.size ≤ w'.heap.size ∧ ∀ k, k < W.heap.size → w'.heap[k]? = W.heap[k]?
theorem lift (f : FuncId) (fn : Func) (k : Tmp) (c : Code) (hq : Tryq.prog.funcs[f]? = some fn) (hp : Tryz.prog.funcs[f]? = some fn) (hb : fn.body = some c) (hres : fn.results = #[.tmp k]) (hf2 : f ≠ 2) (args : Array Value) (W : World) (hG : GT W) (hPT : PT W)
    (hC : ∀ v, GT v → PT v → Calls Tryq.prog f args v fun e w' => e = .returned (.bool true) ∧ Gr v w') :
    ∃ M last o w' t', runNT Tryz.prog (M + 1) (solo (G (Frame.enter Tryz.prog f args .normal) []) W) #[] = (.ended o w', t') ∧ runN Tryz.prog M (solo (G (Frame.enter Tryz.prog f args .normal) []) W) = .next last ∧
      step Tryz.prog last = .ended o w' ∧ Conc.Good Tryz.prog (fun v w' => v = .bool true ∧ KeptAll W w') last o w' t' := by
  have hgoal := told_goal f fn k (calm W)
  have ent : Frame.enter Tryz.prog f args .normal = Frame.enter Tryq.prog f args .normal := by unfold Frame.enter; rw [hq, hp]
  rw [ent, solo_eq_crowd]
  have hpl : Plain Tryq.prog (OpGood Tryq.prog Tryz.prog) (Frame.enter Tryq.prog f args .normal) := plain_enter pair hq hb
  have hal : Go.Sim.Alike Tryq.prog Tryz.prog (Frame.enter Tryq.prog f args .normal) := by
    show Tryz.prog.funcs[f]? = Tryq.prog.funcs[f]?
    rw [hq, hp]
  -- the tree
  have hW : Wf Tryq.prog (Told f fn k (calm W)) (Frame.enter Tryq.prog f args .normal) [] (calm W) := by
    refine wf_of pair hgoal hpl (fun x hx => absurd hx (by simp)) (calm_world W) fun τ n hn => ?_
    obtain ⟨e, w', fr, ⟨rfl, hg⟩, hc, hfn, hm, hd, hk, fn', hfn', hr⟩ := hC (re (calm W) τ n) (gt_re (gt_calm hG) τ n) (pt_re (pt_calm hPT) τ n) [foot Tryq.prog]
    obtain ⟨N, hN⟩ := hc
    have e : fn' = fn := Option.some.inj (hfn'.symm.trans (by rw [hfn]; exact hq))
    subst e
    rw [results_tmp hres] at hr
    have ht : fr.tmps.getD k undef = .bool true := by injection hr
    refine hn N fr _ w' hN ⟨hm, rfl, hfn, hd, hk, ht, hg.size, fun j hj => hg.heap hj, ?_, ?_⟩
    · obtain ⟨q, os, rfl⟩ := hg.out; rfl
    · obtain ⟨q, os, rfl⟩ := hg.out; rfl
  have hPh : ∀ g, stand g → Phase Tryq.prog Tryz.prog g (Told f fn k (calm W)) [] := fun g hg => by
    rcases hg with rfl | rfl
    · exact phase_up hgoal
    · exact phase_cc hgoal
  have hS : Sit Tryz.prog (hid0 W) #[G (Frame.enter Tryq.prog f args .normal) []] (re (calm W) W.tape W.drawn) W #[] (fun _ => 0) :=
    ⟨leavers_one _ _, ⟨_, 0, past_nil, fun l h => h.elim⟩, calm_hid W⟩
  obtain ⟨N, gs', fr', H', v', w', sl', t', q', hrun, h0, hT, hpl', hal', hS', hext⟩ := crowd_sim pair hgoal (bP := []) hPh hW hpl (fun x hx => absurd hx (by simp)) (fun x hx => by
    rcases List.mem_cons.1 hx with rfl | hx
    · exact hal
    · cases hx) (hid0 W) _ W none #[] _ (by simp) hS
  obtain ⟨hm, -, hfn, hd, hk, ht, hsz, hhp, hos, hout⟩ := hT
  obtain ⟨Shun, B, hPa, hSh⟩ := hS'.past
  have hkept : KeptAll W w' := by
    have hh := hS'.hid
    have hs' : v'.heap.size = w'.heap.size := hh.size
    rw [calm_size] at hsz hhp
    refine ⟨hh.os.symm.trans hos, hh.output.symm.trans hout, by omega, fun b hb => ?_⟩
    by_cases hH : H' b
    · obtain ⟨-, o, e1, -, e2⟩ := hh.hid b hH
      have := e2 (by rw [hext.1]; exact hb)
      rw [hext.2.1] at this
      rw [e1]; exact this.symm
    · have e1 : v'.heap[b]? = w'.heap[b]? := hh.same b hH
      have nH : ¬ (hid0 W) b := fun h => hH (hext.2.2 b h)
      rw [← e1, hhp b hb]
      exact (calm_hid W).same b nH
  have hlast : ∀ w₁, AtRel w' w₁ → AtEnd Tryz.prog Shun B (fun v w' => v = .bool true ∧ KeptAll W w') (G fr' []) w₁ := by
    rintro w₁ ⟨d, rfl⟩
    refine ⟨rfl, .bool true, #[], ?_, by simp, rfl, hkept⟩
    have hfP : Tryz.prog.funcs[fr'.fn]? = some fn := by rw [hfn]; exact hp
    have r1 := results_tmp hres fr'.tmps Tryz.prog (w'.at d)
    have r2 := events_results_tmp (P := Tryz.prog) (w := w'.at d) hres fr'.tmps #[]
    rw [ht] at r1
    have hne : ¬ 2 = fr'.fn := by rw [hfn]; exact fun h => hf2 h.symm
    simp [G, stepG, unwind, doReturn, hne, hm, hd, hk, hfP, r1, r2, seen, GStep.after]
  obtain ⟨K4, last, o, w2, t2, e1, e2, e3, e4⟩ := beside_ends (P := Tryz.prog) (Post := fun v w' => v = .bool true ∧ KeptAll W w') (D := fun _ _ es => es = #[]) (n := 0) (sl := sl') (fun _ _ es h e he => by subst h; simp at he) h0 hS'.leavers hPa (Goes.stop hlast)
  refine ⟨N + K4, last, o, w2, t2, ?_, ?_, e3, e4⟩
  · rw [Nat.add_assoc, runNT_add, hrun]; exact e1
  · rw [runN_add, ← runNT_fst Tryz.prog _ _ #[], hrun]; exact e2
end Go.Proofs.YtegkbjpcgelomaaGreatDoor.Lift
end
/- The laid tables out of a top row's condition; the builders of a row whose call may start goroutines. -/
section
namespace Go.Proofs.YtegkbjpcgelomaaGreatDoor.Laid
open Go Go.Conc Go.RowKit Go.ChangeShapes Go.WideShapes Go.Proofs.YtegkbjpcgelomaaGreatDoor.Walks
theorem gpow : Tryz.prog.globalNamed "internal/strconv.uint64pow10" = some 3 := by kernel_rfl
theorem gpowT : (Tryz.prog.globals[3]?).map (·.type) = some 244 := by kernel_rfl
theorem und20 : Tryz.prog.underlying 244 = some (.array 20 174) := by kernel_rfl
set_option maxRecDepth 100000 in
theorem top_of_laid {W : World} (h : laidMet Tryz.prog Rows.wholeNineteenRow.laid W) : GT W ∧ PT W := by
  have h : laidMet Tryz.prog [("math/bits.deBruijn32tab", Rows.laid_math_bits_deBruijn32tab), ("math/bits.deBruijn64tab", Rows.laid_math_bits_deBruijn64tab), ("internal/strconv.uint64pow10", Rows.laid_internal_strconv_uint64pow10), ("almanacker/keviah.types", Rows.laid_almanacker_keviah_types), ("almanacker/month.plain", Rows.laid_almanacker_month_plain)] W := h
  have h1 := laidMet.tail (laidMet.tail h)
  refine ⟨GT_of_laid (laidMet.tail h1), ⟨?_⟩⟩
  have := Lib.tabIs_of_head (zs := Lib.pow10Tab) gpow gpowT und20 Tryz.underlying174 (by kernel_rfl) (by kernel_rfl) h1
  unfold Lib.TabIs World.var? at this ⊢
  exact this
/-- A row that leaves: what is laid is met, too. -/
theorem leaving_and {H : Type} {enc : TypeId × Value → H} {a : Assume} {C : Checked} {os : Os} {f : FuncId} {fn : Func} {s : ChangeSpec} {conds : List PathCond} {apart fresh handsOn again : Bool} {X : World → Array Value → Prop}
    (hX : ∀ (w w' : World) (args : Array Value), w.heap = w'.heap → X w args → X w' args)
    (own : ownKnob C.prog.godebug = none) (started : os.Started) (hfn : C.prog.funcs[f]? = some fn)
    (witness : ∃ (w : World) (tape : Tape) (i : Input), w.os = os ∧ (w.forCall tape i).Shaped C.prog ∧ i.vars = [] ∧ Input.okWide C.prog (w.forCall tape i) .any w.heap.size f i ∧
      ((s.pre enc C.prog fn conds apart (w.forCall tape i).memory i.args ∧ X (w.forCall tape i).memory i.args) ∧ sizedMet enc C.prog fn (OpenSpec.ofChange s) apart (w.forCall tape i).memory i.args) ∧ a.holds C.prog (lone (Frame.enter C.prog f i.args .normal) [] (w.forCall tape i)))
    (runs : ∀ (W : World) (base : Nat) (args : Array Value) (ds gs : List (DataW H)) (before : List MemPlace),
      (∀ (j : Nat) t v, fn.params[j]? = some t → args[j]? = some v → Value.okWide C.prog W .any base t v) →
      DataW.Whole enc C.prog fn.params.toList s.vars apart W args.toList ds gs before →
      X W args →
      ∃ M last o w' t', runNT C.prog (M + 1) (solo (G (Frame.enter C.prog f args .normal) []) W) #[] = (.ended o w', t') ∧ runN C.prog M (solo (G (Frame.enter C.prog f args .normal) []) W) = .next last ∧
        step C.prog last = .ended o w' ∧ Conc.Good C.prog (fun v W' => s.post enc C.prog fn apart fresh handsOn again W args v W') last o w' t') :
    ReturnsInLeavingWide a C os f .any (fun w args => (s.pre enc C.prog fn conds apart w args ∧ X w args) ∧ sizedMet enc C.prog fn (OpenSpec.ofChange s) apart w args) (s.post enc C.prog fn apart fresh handsOn again) := by
  refine returnsInLeavingWide_of_good own started witness ?_
  intro w tape i _ _ _ hok hpre hholds
  obtain ⟨_, _, _, fn', hfn', _, _, _, _, hval⟩ := hok
  have e : fn' = fn := Option.some.inj (hfn'.symm.trans hfn)
  subst e
  obtain ⟨⟨⟨ds, gs, before, hw, hc⟩, hx⟩, hz⟩ := hpre
  have hw' := DataW.Whole.of_heap (w' := w.forCall tape i) (by rfl) hw
  obtain ⟨M, last, o, w', t', h1, h2, h3, h4⟩ := runs (w.forCall tape i) w.heap.size i.args ds gs before hval hw' (hX _ _ _ (by rfl) hx)
  exact ⟨M, last, o, w', t', h1, h2, h3, h4.mono fun v hp => ChangeSpec.post_blind hp⟩
/-- .. and its card: the call may start goroutines. -/
theorem holds_tied_goes (Lk : Looks) {p : Pinned} {s : OpenSpec} {c : OpenClaim} (kinds : List LaidKind) (tests : Bool) (har : Bool × String) (lk : Bool)
    (hc : c.holds p s) (hw : c.wfByText s = true) (htie : c.laidByTextAt Lk p kinds tests)
    (hst : c.start = .entering) (hnb : c.noBlocks = false ∧ c.again = false) (hm : p.checked.prog.mainIs = some (har.1, har.2.toList)) (hn : (!har.1 && har.2.isEmpty && !lk) = false)
    (hl : ∀ f fn, p.checked.prog.funcNamed c.func = some f → p.checked.prog.funcs[f]? = some fn → lk = p.checked.prog.looks [] ∧ ∀ (j : Nat) t, fn.params[j]? = some t → p.checked.prog.wantsStandIn t = false)
    (hg : true = c.goesBy p.checked.prog) :
    Claim7.holds p (.plain s) { stood := { row := c, standIns := [], harness := har, looks := lk }, kinds := [], alts := [], goes := true, laidByText := true, laidKinds := kinds, laidTests := tests, laidLooks := Lk } := by
  have h6 : ∀ r : OpenClaim, Claim7.isSixth { stood := { row := r, standIns := [], harness := har, looks := lk }, kinds := [] } = false := fun r => by simpa [Claim7.isSixth] using hn
  exact ⟨Claim7.tied_new_at Lk kinds tests (Claim7.new_of_sixth hc har lk hst hnb hm (h6 c) hl) hw, (fun D hD => by cases hD), htie, (fun h => by cases h), hg⟩
end Go.Proofs.YtegkbjpcgelomaaGreatDoor.Laid
end
