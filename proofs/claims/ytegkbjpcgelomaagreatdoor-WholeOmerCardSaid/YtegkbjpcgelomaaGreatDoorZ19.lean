/- strings.Builder, used by a call that has made it: what strings.Join asks of it. -/
import Derived.Test.YtegkbjpcgelomaaGreatDoorZ14
import Derived.Test.YtegkbjpcgelomaaGreatDoorZ15
import Derived.Test.YtegkbjpcgelomaaGreatDoorZ8
import Derived.Lib.Builder
import Derived.Lib.AppendStr
import Derived.Lib.UnsafeStr
import Derived.Lib.MakeNoZero
import Derived.Lib.Strings
import Derived.Lib.Slices
import Derived.Lib.Walk
import Derived.Laws.Pointers
import Derived.Laws.Externs
import Derived.Laws.IdiomCopy
import Derived.Test.YtegkbjpcgelomaaGreatDoorZ18
import Derived.Test.YtegkbjpcgelomaaGreatDoorZ17
import Derived.Maps.Own
import Derived.Maps.Keyed
import Derived.Maps.Views
set_option linter.unusedVariables false
set_option linter.unusedSimpArgs false
section
set_option maxRecDepth 100000
namespace Go.Proofs.YtegkbjpcgelomaaGreatDoor.Walks
open Go Go.RowKit Go.Sort Go.Proofs.YtegkbjpcgelomaaGreatDoor.Base

/-- Nothing below B has changed, and the tape is read on. -/
structure BG (B : Nat) (w w' : World) : Prop where
  b : Below B w w'
  d : w.drawn ≤ w'.drawn
theorem BG.refl (B : Nat) (w : World) : BG B w w := ⟨.refl B w, Nat.le_refl _⟩
theorem BG.trans {B : Nat} {a b c : World} (h : BG B a b) (k : BG B b c) : BG B a c := ⟨h.b.trans k.b, Nat.le_trans h.d k.d⟩
theorem BG.drew {B : Nat} {a b : World} (h : BG B a b) : BG B a b.drew := ⟨h.b.drew, Nat.le_succ_of_le h.d⟩
theorem BG.setCell {B : Nat} {a b : World} (h : BG B a b) {p : Addr} (hp : B ≤ p.block) (v : Value) : BG B a (b.setCell p v) := ⟨h.b.setCell hp v, h.d⟩
theorem BG.alloc {B : Nat} {a b : World} (h : BG B a b) (hb : B ≤ b.heap.size) (o : Obj) : BG B a (b.alloc o) := ⟨h.b.alloc hb o, h.d⟩
theorem BG.gr {w w' : World} (h : BG w.heap.size w w') : Gr w w' := by
  refine ⟨⟨w'.drawn - w.drawn, w'.heap.extract w.heap.size w'.heap.size, ?_⟩⟩
  obtain ⟨⟨h1, h2, h3, h4, h5⟩, hd⟩ := h
  have e : w'.heap = w.heap ++ w'.heap.extract w.heap.size w'.heap.size := by
    apply Array.ext_getElem?
    intro i
    by_cases hi : i < w.heap.size
    · rw [Array.getElem?_append_left hi, h5 i hi]
    · rw [Array.getElem?_append_right (by omega)]
      by_cases hj : i < w'.heap.size
      · rw [Array.getElem?_extract, if_pos (by omega)]
        congr 1
        omega
      · rw [Array.getElem?_eq_none (by omega), Array.getElem?_eq_none (by simp; omega)]
  cases w'
  cases w
  simp only [Go.Sort.grow, World.drewN] at *
  subst h1 h2 h3
  congr 1
  omega
section
variable {P : Program} (w : World)
theorem run_append_str (base : Nat) (t u ty e : TypeId) (i : TypeInfo) (ht : P.underlying t = some (.slice e)) (hu : P.underlying u = some .string) (hi : P.info? e = some i) (hz : i.zero = some (.int .u8 0))
    (hsize : i.size = 1) (hby : i.bytes = 1)
    (v : Value) (n : Nat) (xs : List Value) (hown : w.ownsRow base e 1 v n xs) (s : ByteArray) (hs : 0 < s.size)
    (h63 : n + s.size ≤ maxLen) (hbytes : n + s.size ≤ 140737488355328) (hbase : base ≤ w.heap.size) :
    ∃ v' w', (Builtin.append_ #[t, u] ty #[v, .string s]).run P w = .ok v' w' ∧ w'.ownsRow base e 1 v' (n + s.size) (xs ++ Lib.strCells s) ∧ w.grownBy w' v.ownBlock ∧ w.drawn ≤ w'.drawn := by
  obtain ⟨v', w', hr, ho, hg, -⟩ := Lib.run_append_own_string (P := P) w base t u ty e i ht hu hi hz hsize hby v n xs hown s h63 hbytes hbase
  refine ⟨v', w', hr, ho, hg, ?_⟩
  have hxl : xs.length = n := by simpa using hown.1
  rcases hown.2 with ⟨rfl, rfl⟩ | ⟨g, cap, cur, rfl, hbg, hg, hnc, hcm, hcs, htake⟩
  · have hr2 := run_append_nil_string (P := P) w t u ty e i (.int .u8 0) ht hu hi hz s (by omega) (by simp only [maxLen] at h63; omega) (by rw [hby]; omega)
    rw [hr] at hr2
    injection hr2 with _ e2
    rw [e2]
    exact Nat.le_succ _
  · by_cases hroom : n + s.size ≤ cap
    · have hr2 := Lib.run_append_room_string (P := P) w t u ty e i ht hu hi hsize g n cap cur hg s hroom (by omega)
      rw [hr] at hr2
      injection hr2 with _ e2
      rw [e2]
      exact Nat.le_refl _
    · have holds : ∀ j u, xs[j]? = some u → w.cell? ((⟨g, 0, none⟩ : Addr).add j) = some u := hown.cells (g := g) rfl
      have hr2 := Lib.run_append_grow_string (P := P) w t u ty e i (.int .u8 0) ht hu hi hz ⟨g, 0, none⟩ n cap xs (by rw [hsize]; simpa using hxl) holds s (by omega) (by simp only [maxLen] at h63; omega) (by rw [hby]; exact growslice_fits (by omega) (by omega))
      rw [hr] at hr2
      injection hr2 with _ e2
      rw [e2]
      exact Nat.le_succ _
theorem wpList_append_str {ops : Array Oper} {rest : List Oper} {o : Oper} {a : Act} {Q : Exit → Act → World → Prop} (hgd : o.guard = none) (sl x : Operand) (t u : TypeId)
    (ho : o.op = .call { callee := .builtin .append, args := #[sl, x], argTypes := #[t, u] })
    (base : Nat) (e : TypeId) (i : TypeInfo) (ht : P.underlying t = some (.slice e)) (hu : P.underlying u = some .string) (hi : P.info? e = some i) (hz : i.zero = some (.int .u8 0))
    (hsize : i.size = 1) (hby : i.bytes = 1)
    (v : Value) (n : Nat) (xs : List Value) (hs : a.eval sl = v) (hown : w.ownsRow base e 1 v n xs) (s : ByteArray) (hx : a.eval x = .string s) (hs0 : 0 < s.size)
    (h63 : n + s.size ≤ maxLen) (hbytes : n + s.size ≤ 140737488355328) (hbase : base ≤ w.heap.size)
    (h : ∀ v' w', w'.ownsRow base e 1 v' (n + s.size) (xs ++ Lib.strCells s) → w.grownBy w' v.ownBlock → w.drawn ≤ w'.drawn → wpList P ops Q rest (a.put o.dst v') w') : wpList P ops Q (o :: rest) a w := by
  refine wpList_plain hgd fun K hK => ?_
  obtain ⟨v', w', hr, h2, h3, h4⟩ := run_append_str (P := P) w base t u o.type e i ht hu hi hz hsize hby v n xs hown s hs0 h63 hbytes hbase
  unfold Oper.wp execOp
  simp only [ho, resolve, invoke, builtin, Sem.run_bind, Sem.run_pure, Result.andThen_ok, List.map_toArray, List.map_cons, List.map_nil, hs, hx, hr]
  exact hK _ _ (h v' w' h2 h3 h4)
end
abbrev BA (B b : Nat) (p : Value) (bs : List Value) (w : World) : Prop := Lib.BuilderAt 154 5 B b p bs w
theorem upon_nil {P : Program} {o : Oper} {a : Act} {K : Act → World → Prop} {Q : Exit → Act → World → Prop} {w : World} {x : Operand} (ho : o.op = .nilCheck x) (hx : a.eval x = undef) (hd : o.dst = none) (h : K a w) : Oper.wp P o a w K Q := by
  unfold Oper.wp execOp
  simp only [ho, hx]
  show Oper.upon P o a K Q (.ok (.value undef) w)
  rw [Oper.upon_value, hd]
  exact h
theorem lies_b : liesAt Tryq.prog Tryq.prog.depth 154 (2 / Tryq.prog.cellsOf 154) 0 154 1 = true := by kernel_rfl
theorem info_b : ∃ j, Tryq.prog.info? 154 = some j ∧ j.size = 2 := by
  obtain ⟨j, hj, hjs⟩ := Option.map_eq_some_iff.1 (show (Tryq.prog.info? 154).map (·.size) = some 2 by kernel_rfl)
  exact ⟨j, hj, hjs⟩
theorem info_u8 : ∃ j, Tryq.prog.info? 5 = some j ∧ j.zero = some (.int .u8 0) ∧ j.size = 1 ∧ j.bytes = 1 := by
  obtain ⟨j, hj, hjs⟩ := Option.map_eq_some_iff.1 (show (Tryq.prog.info? 5).map (fun i => (i.zero, i.size, i.bytes)) = some (some (.int .u8 0), 1, 1) by kernel_rfl)
  simp only [Prod.mk.injEq] at hjs
  exact ⟨j, hj, hjs.1, hjs.2.1, hjs.2.2⟩
/-- The check at a fresh builder. -/
theorem cc_fresh (b : Nat) (w : World) (h0 : w.cell? ⟨b, 0, none⟩ = some (.pointer none)) (hsh : w.shape? b = some (154, 2)) (hfz : w.frozen? ⟨b, 0, none⟩ = false) :
    Calls Tryq.prog 126 #[.pointer (some ⟨b, 0, none⟩)] w fun e w' => e = .returned (.tuple #[]) ∧ w' = w.setCell ⟨b, 0, none⟩ (.pointer (some ⟨b, 0, none⟩)) := by
  obtain ⟨j, hj, -⟩ := info_b
  go_enter Tryq.func126, Tryq.ntmps126
  go_wp2_with (first | (refine wpList_plain rfl fun K hK => ?_; refine upon_nil rfl rfl rfl ?_; refine hK _ _ ?_))
  rw [Lib.run_from_unsafe w ⟨b, 0, none⟩ Tryq.underlying200 Tryq.underlying151 hj hsh lies_b]
  simp only [Result.andThen]
  rw [Oper.upon_value]
  go_wp2
  go_end0
  exact ⟨rfl, rfl⟩
theorem cc_used (b : Nat) (w : World) (h0 : w.cell? ⟨b, 0, none⟩ = some (.pointer (some ⟨b, 0, none⟩))) :
    Calls Tryq.prog 126 #[.pointer (some ⟨b, 0, none⟩)] w fun e w' => e = .returned (.tuple #[]) ∧ w' = w := by
  obtain ⟨j, hj, -⟩ := info_b
  go_enter Tryq.func126, Tryq.ntmps126
  go_wp2_with (first | (refine wpList_plain rfl fun K hK => ?_; refine upon_nil rfl rfl rfl ?_; refine hK _ _ ?_))
  rw [Lib.run_neq_ptr_same w _ Tryq.underlying151 hj]
  go_wp2
  go_end0
  exact ⟨rfl, rfl⟩
theorem makeNo (n : Nat) (w : World) (hn : n ≤ 281474976710656) : ∃ cs : Array Value, (callFunc 150 #[.int .i64 n]).run Tryq.prog w = .ok (.value (.slice (some ⟨w.heap.size, 0, none⟩) n cs.size)) (w.drew.drew.alloc (.cells cs 5)) ∧ n ≤ cs.size ∧ (n ≤ maxLen → cs.size ≤ maxLen) := by
  obtain ⟨cs, hrun, hle, hmax⟩ := Lib.run_makeNoZero (P := Tryq.prog) w #[3] 152 5 Tryq.underlying152 n hn
  refine ⟨cs, ?_, hle, hmax⟩
  rw [run_callFunc_extern Tryq.func150 (by kernel_rfl) (by kernel_rfl) (by kernel_rfl) (e := Extern.BytealgMakeNoZero.makeNoZero #[3] #[152]) (by kernel_rfl), hrun]
  rfl
theorem alloc_set (w : World) (o : Obj) (p : Addr) (v : Value) (h : p.block < w.heap.size) : (w.setCell p v).alloc o = (w.alloc o).setCell p v := by
  unfold World.setCell World.alloc
  simp only
  congr 1
  apply Array.ext_getElem?
  intro i
  simp only [Array.getElem?_push, Array.getElem?_modify, Array.size_modify]
  by_cases hi : i = w.heap.size
  · subst hi
    have : ¬ p.block = w.heap.size := by omega
    simp [this]
  · simp [hi]
end Go.Proofs.YtegkbjpcgelomaaGreatDoor.Walks
end
/- Walks of package sabbath: the Saturdays, days of SimchatTorah, all Sabbaths of a cycle. -/
section
namespace Go.Proofs.YtegkbjpcgelomaaGreatDoor.Walks
open Go Go.RowKit Go.Sort Go.Proofs.YtegkbjpcgelomaaGreatDoor.Base Go.Proofs.YtegkbjpcgelomaaGreatDoor.Plain Go.Proofs.YtegkbjpcgelomaaGreatDoor.Math

/-- A slice that holds numbers. -/
structure Ints (w : World) (g : Nat) (L : List Int) : Prop where
  lt : g < w.heap.size
  c : ∀ i e, L[i]? = some e → w.cell? ⟨g, i, none⟩ = some (.int .i64 e)
theorem Ints.gr {w w' : World} {g : Nat} {L : List Int} (h : Ints w g L) (hg : Gr w w') : Ints w' g L := ⟨hg.lt h.lt, fun i e he => hg.keep h.lt (h.c i e he)⟩
/-- Such a slice, which may be nil. -/
def SlI (w : World) (v : Value) (L : List Int) : Prop := (L = [] ∧ ∃ ao cap, v = .slice ao 0 cap) ∨ ∃ g cap, v = .slice (some ⟨g, 0, none⟩) L.length cap ∧ 0 < L.length ∧ Ints w g L
theorem SlI.gr {w w' : World} {v : Value} {L : List Int} (h : SlI w v L) (hg : Gr w w') : SlI w' v L := by
  rcases h with h | ⟨g, cap, a, b, c⟩
  · exact .inl h
  · exact .inr ⟨g, cap, a, b, c.gr hg⟩
def cei (L : List Int) : List Value := L.map (Value.int .i64)
theorem ints_of {w : World} {base e n cap g : Nat} {L : List Int} (h : w.ownsRow base e 1 (.slice (some ⟨g, 0, none⟩) n cap) n (cei L)) (hn : 0 < n) (hl : L.length = n) : Ints w g L := by
  have R := row_of (f := fun j => (cei L).getD j undef) h hn (fun j hj => by
    have : j < (cei L).length := by simp [cei, hl]; omega
    simp [List.getD, List.getElem?_eq_getElem this])
  refine ⟨R.lt, fun i e he => ?_⟩
  have hi : i < n := by rw [← hl]; exact (List.getElem?_eq_some_iff.1 he).1
  have r1 := R.c i (by omega)
  simpa [List.getD, cei, he] using r1
theorem sli_of {w : World} {base e n : Nat} {v : Value} {L : List Int} (h : w.ownsRow base e 1 v n (cei L)) (hl : L.length = n) : SlI w v L := by
  rcases h.2 with ⟨rfl, z⟩ | ⟨g, cap, cur, rfl, r⟩
  · exact .inl ⟨List.eq_nil_of_length_eq_zero (by omega), none, 0, rfl⟩
  · by_cases hn : 0 < n
    · exact .inr ⟨g, cap, by rw [hl], by omega, ints_of h hn hl⟩
    · obtain rfl : n = 0 := by omega
      exact .inl ⟨List.eq_nil_of_length_eq_zero hl, some ⟨g, 0, none⟩, cap, rfl⟩
theorem cei_snoc (L : List Int) (e : Int) : cei (L ++ [e]) = cei L ++ [.int .i64 e] := by simp [cei]
/-- The first k Saturdays. -/
def satn (a : Int) (k : Nat) : List Int := (List.range k).map fun (k : Nat) => saF a + 7 * (k : Int)
theorem satn_snoc (a : Int) (k : Nat) : satn a (k + 1) = satn a k ++ [saF a + 7 * (k : Int)] := by simp [satn, List.range_succ]
theorem satn_len (a : Int) (k : Nat) : (satn a k).length = k := by simp [satn]
theorem Gr.iter {a b : World} (h : Gr a b) (s : ByteArray) (n : Nat) : Gr a (b.iter s n) := h.alloc _
/-- What comes: a list of numbers. -/
def IntsE (w : World) (L : List Int) (e : Ending) (w' : World) : Prop := ∃ v, e = .returned v ∧ SlI w' v L ∧ Gr w w'
set_option maxRecDepth 100000 in
set_option maxHeartbeats 8000000 in
theorem up_c (a b : Int) (w : World) (h0 : -5000000 ≤ a) (h1 : a ≤ 5000000) (h2 : b ≤ 5000000) (h3 : saK a b ≤ 1000) : Calls Tryq.prog 133 #[.int .i64 a, .int .i64 b] w (IntsE w (sats a b)) := by
  go_enter Tryq.func133, Tryq.ntmps133
  go_wp2_with (first | (refine wpList_plain rfl fun K hK => ?_; refine upon_nil rfl rfl rfl ?_; refine hK _ _ ?_))
  obtain ⟨W, hW⟩ : ∃ W, W = ((((((w.iter ByteArray.empty 0).iter ByteArray.empty 0).iter ByteArray.empty 0).iter ByteArray.empty 0).iter ByteArray.empty 0).iter ByteArray.empty 0) := ⟨_, rfl⟩
  have GW : Gr w W := by rw [hW]; exact Gr.iter (Gr.iter (Gr.iter (Gr.iter (Gr.iter (Gr.iter (Gr.refl w) _ _) _ _) _ _) _ _) _ _) _ _
  rw [← hW]
  clear hW
  have hS : a + -((a + 70000001) % 7) % 7 = saF a := by unfold saF; omega
  have rS : a ≤ saF a ∧ saF a ≤ a + 6 := by unfold saF; omega
  have hK := saK_lt (a := a) (b := b)
  rw [hS]
  clear hS
  obtain ⟨t13, h13⟩ : ∃ t, (7 - (a + 70000001) % 7) % 7 = t := ⟨_, rfl⟩
  rw [h13]
  clear h13
  go_loopg [8, 9] (saK a b) (fun kx s8 s9 wr => ∃ (k : Nat), k ≤ saK a b ∧ saK a b - k ≤ kx ∧ s9 = .int .i64 (saF a + 7 * (k : Int)) ∧ wr.ownsRow W.heap.size 3 1 s8 k (cei (satn a k)) ∧ Gr W wr)
  case atStart => exact ⟨0, by omega, by omega, by simp, World.ownsRow_nil _ _ _ _, Gr.refl _⟩
  case round =>
    obtain ⟨k, hk, hm, rfl, ho, hg⟩ := hrel
    by_cases e : saF a + 7 * (k : Int) ≤ b
    · have e2 : k < saK a b := (hK k).2 e
      have hs := hg.size
      go_wp2_with (first | (at_builtin; refine append_ints _ rfl _ _ rfl W.heap.size _ _ _ rfl (ho.alloc _) _ 1 1 [.int .i64 (saF a + 7 * (k : Int))] rfl rfl (fun j u hj => by (match j, hj with | 0, hj => (simp at hj; subst hj; simp [go_sem]))) (by simp [Value.oneCell']) (by decide) (by omega) (by simp; omega) ?_; intro g1 c1 wX OX kX bX GX_; have GX : Gr W wX := GX_ W (hg.alloc _) (Nat.le_refl _)))
      go_roundg (saK a b - (k + 1))
      case measure => omega
      case rel => exact ⟨k + 1, by omega, Nat.le_refl _, by go_num, by rw [satn_snoc, cei_snoc]; exact OX, GX⟩
    · have e2 : k = saK a b := by
        rcases Nat.lt_or_ge k (saK a b) with q | q
        · exact absurd ((hK k).1 q) e
        · omega
      have hv : SlI wr u8 (sats a b) := by
        have : sats a b = satn a k := by rw [e2]; rfl
        rw [this]
        exact sli_of ho (satn_len a k)
      have HV' := Lib.hid hv
      clear hv ho
      go_wp2
      go_ret
      exact ⟨_, rfl, HV'.out, GW.trans hg⟩
end Go.Proofs.YtegkbjpcgelomaaGreatDoor.Walks
end
/- A map from numbers to Booleans that the call has made: what it tells, as a function; a store; a look. -/
section
namespace Go.Proofs.YtegkbjpcgelomaaGreatDoor.Base
open Go Go.RowKit Go.Sort Go.Maps Go.WideElems Go.ChangeMaps Go.MapKept

theorem setIf_append (a b : Array Obj) (k : Nat) (o : Obj) (h : a.size ≤ k) : (a ++ b).setIfInBounds k o = a ++ b.setIfInBounds (k - a.size) o := by
  apply Array.ext_getElem?
  intro i
  simp only [Array.getElem?_setIfInBounds, Array.getElem?_append, Array.size_append]
  by_cases h1 : k = i
  · subst h1
    have h2 : ¬ k < a.size := by omega
    simp only [h2, if_true, if_false]
    by_cases h3 : k < a.size + b.size
    · have h4 : k - a.size < b.size := by omega
      simp [h3, h4]
    · have h4 : ¬ k - a.size < b.size := by omega
      simp [h3, h4]
  · by_cases h2 : i < a.size
    · simp [h1, h2]
    · have h3 : ¬ k - a.size = i - a.size := by omega
      simp [h1, h2, h3]
theorem Gr.setBlock {a b : World} (h : Gr a b) (k : Nat) (o : Obj) (hk : a.heap.size ≤ k) : Gr a (ChangeMaps.setBlock b k o) := by
  obtain ⟨⟨q, os, rfl⟩⟩ := h
  refine ⟨⟨q, os.setIfInBounds (k - a.heap.size) o, ?_⟩⟩
  unfold ChangeMaps.setBlock Go.Sort.grow
  simp only
  congr 1
  exact setIf_append _ _ _ _ hk
theorem pel_bool {v : Value} {z : DataW Unit × List MemPlace} (h : plainElem Tryq.prog 4 v = some z) : ∃ x, v = .bool x ∧ z = (.lit (.bool x), []) := by
  unfold plainElem at h
  rw [show Tryq.prog.underlying 4 = some .bool by kernel_rfl] at h
  cases v <;> simp at h
  subst h
  exact ⟨_, rfl, rfl⟩
/-- Block b holds at most N entries, and tells f. -/
structure MapB (w : World) (b N : Nat) (f : Int → Bool) : Prop where
  ex : ∃ (es : Array MapEntry) (clock : Nat), w.heap[b]? = some (.map es clock) ∧ Fit (H := Unit) Tryq.prog 3 (plainElem Tryq.prog 4) es clock ∧ es.size ≤ N ∧
    ∀ x : Int, (DataW.map ((es.toList.map (rg (H := Unit) Tryq.prog 3 (plainElem Tryq.prog 4))).foldr DataW.insert [])).atKey (.int .i64 x) (.lit (.bool false)) = .lit (.bool (f x))
theorem MapB.lt {w : World} {b N : Nat} {f : Int → Bool} (h : MapB w b N f) : b < w.heap.size := by
  obtain ⟨es, clock, hb, -⟩ := h.ex
  exact (Array.getElem?_eq_some_iff.1 hb).1
theorem MapB.gr {w w' : World} {b N : Nat} {f : Int → Bool} (h : MapB w b N f) (g : Gr w w') : MapB w' b N f := by
  have hl := h.lt
  obtain ⟨es, clock, hb, r⟩ := h.ex
  exact ⟨es, clock, (g.heap hl).trans hb, r⟩
theorem MapB.kept {w w' : World} {row : Option Nat} {b N : Nat} {f : Int → Bool} (h : MapB w b N f) (g : w.grownBy w' row) (hne : some b ≠ row) : MapB w' b N f := by
  have hl := h.lt
  obtain ⟨es, clock, hb, r⟩ := h.ex
  exact ⟨es, clock, (g.block b hl hne).trans hb, r⟩
theorem MapB.mono {w : World} {b N M : Nat} {f : Int → Bool} (h : MapB w b N f) (hm : N ≤ M) : MapB w b M f := by
  obtain ⟨es, clock, hb, F, hs, r⟩ := h.ex
  exact ⟨es, clock, hb, F, Nat.le_trans hs hm, r⟩
theorem MapB.made (w : World) : MapB (w.alloc (.map #[] 0)) w.heap.size 0 fun _ => false :=
  ⟨#[], 0, (MapKept.heap_alloc w _).1, ⟨by simp, stamped_empty 0, by simp⟩, Nat.le_refl _, fun x => by rfl⟩
theorem und_int : Tryq.prog.underlying 3 = some (.int .i64) := by kernel_rfl
theorem und_bool : Tryq.prog.underlying 4 = some .bool := by kernel_rfl
theorem zero_bool (w : World) : (zeroValue 4).run Tryq.prog w = .ok (.bool false) w := by simp
theorem MapB.look {w : World} {b N : Nat} {f : Int → Bool} (h : MapB w b N f) {t : TypeId} (ht : Tryq.prog.underlying t = some (.map 3 4)) (x : Int) (hx : (Lit.int .i64 x).wf = true) :
    (Instr.lookup t (.map (some b)) (.int .i64 x) false).run Tryq.prog w = .ok (.bool (f x)) w := by
  obtain ⟨es, clock, hb, F, hs, r⟩ := h.ex
  have K := int_keyed (P := Tryq.prog) und_int
  have hkey := keyOf_int_mk (P := Tryq.prog) und_int hx
  rcases Maps.fit_look false K ht (zero_bool w) hb F hkey with ⟨hrun, _, hat⟩ | ⟨e0, y, _, _, hrun, hRv, hat, _⟩
  · have := r x
    rw [hat] at this
    simp only [DataW.lit.injEq, Lit.bool.injEq] at this
    have q := this
    exact hrun.trans (congrArg (fun z => Result.ok (Value.bool z) w) q)
  · have := r x
    rw [hat] at this
    obtain ⟨z, hv, hy⟩ := pel_bool hRv
    rw [hy] at this
    simp only [DataW.lit.injEq, Lit.bool.injEq] at this
    have q := this
    rw [hv] at hrun
    exact hrun.trans (congrArg (fun z => Result.ok (Value.bool z) w) q)
theorem MapB.upd {w : World} {b N : Nat} {f : Int → Bool} (h : MapB w b N f) {t : TypeId} (ht : Tryq.prog.underlying t = some (.map 3 4)) (x : Int) (hx : (Lit.int .i64 x).wf = true) (hN : N < maxLen) :
    ∃ w', (Instr.mapUpdate t (.map (some b)) (.int .i64 x) (.bool true)).run Tryq.prog w = .ok () w' ∧ MapB w' b (N + 1) (fun z => decide (z = x) || f z) ∧ w.grownBy w' (some b) ∧ ∀ W, Gr W w → W.heap.size ≤ b → Gr W w' := by
  obtain ⟨es, clock, hb, F, hs, r⟩ := h.ex
  have K := int_keyed (P := Tryq.prog) und_int
  have hkey := keyOf_int_mk (P := Tryq.prog) und_int hx
  obtain ⟨es', clock', hrun, F', hput, _⟩ := Maps.fit_store (R' := plainElem Tryq.prog 4) K ht hb F (Nat.lt_of_le_of_lt hs hN) (fun _ _ _ _ hz => hz) hkey (plainElem_bool und_bool true)
  refine ⟨_, hrun, ⟨es', clock', heap_setBlock_same hb _, F', ?_, fun z => ?_⟩, ⟨rfl, rfl, rfl, by simp [ChangeMaps.setBlock], fun i _ hi => heap_setBlock_other hb _ (fun e => hi (by rw [e]))⟩, fun W hW hk => hW.setBlock _ _ hk⟩
  · have e1 : es'.size = ((es'.toList.map (rg (H := Unit) Tryq.prog 3 (plainElem Tryq.prog 4))).foldr DataW.insert []).length := by rw [length_sorted]; simp
    rw [e1, hput]
    unfold putKey
    rw [length_insert]
    have e2 := List.length_filter_le (notKey (.int .i64 x)) ((es.toList.map (rg (H := Unit) Tryq.prog 3 (plainElem Tryq.prog 4))).foldr DataW.insert [])
    rw [length_sorted] at e2
    simp at e2
    omega
  · rw [hput, ← DataW.put_eq]
    by_cases hz : z = x
    · subst hz
      rw [atKey_put_same ⟨_, rfl⟩ (by trivial)]
      simp
    · rw [atKey_put_other (fun q => hz (by injection q)), r z]
      simp [hz]
theorem wf_small {x : Int} (h0 : -1000000000000 ≤ x) (h1 : x ≤ 1000000000000) : (Lit.int .i64 x).wf = true := by
  have a : IntKind.i64.min = -9223372036854775808 := rfl
  have b : IntKind.i64.max = 9223372036854775807 := rfl
  simp only [Lit.wf, a, b, Bool.and_eq_true, decide_eq_true_eq]
  omega
theorem wpList_mapUpdate_b (w : World) {ops : Array Oper} {rest : List Oper} {o : Oper} {a : Act} {Q : Exit → Act → World → Prop} (hg : o.guard = none) (m x v : Operand) (t : TypeId) (hop : o.op = Op.mapUpdate t m x v)
    (ht : Tryq.prog.underlying t = some (.map 3 4)) (b N : Nat) (f : Int → Bool) (hm : a.eval m = .map (some b)) (hown : MapB w b N f) (hN : N < maxLen) (k : Int) (hx : a.eval x = .int .i64 k) (hw : (Lit.int .i64 k).wf = true) (hv : a.eval v = .bool true)
    (hK : ∀ w', MapB w' b (N + 1) (fun z => decide (z = k) || f z) → w.grownBy w' (some b) → (∀ W, Gr W w → W.heap.size ≤ b → Gr W w') → wpList Tryq.prog ops Q rest (a.put o.dst undef) w') :
    wpList Tryq.prog ops Q (o :: rest) a w := by
  refine wpList_plain hg fun K' hK' => ?_
  obtain ⟨w', hrun, r1, r2, r3⟩ := hown.upd ht k hw hN
  unfold Oper.wp
  simp [execOp, hop, hm, hx, hv, hrun, Result.andThen]
  exact hK' _ _ (hK w' r1 r2 r3)
theorem wpList_lookup_b (w : World) {ops : Array Oper} {rest : List Oper} {o : Oper} {a : Act} {Q : Exit → Act → World → Prop} (hg : o.guard = none) (m x : Operand) (t : TypeId) (hop : o.op = Op.lookup t m x false)
    (ht : Tryq.prog.underlying t = some (.map 3 4)) (b N : Nat) (f : Int → Bool) (hm : a.eval m = .map (some b)) (hown : MapB w b N f) (k : Int) (hx : a.eval x = .int .i64 k) (hw : (Lit.int .i64 k).wf = true)
    (hK : wpList Tryq.prog ops Q rest (a.put o.dst (.bool (f k))) w) : wpList Tryq.prog ops Q (o :: rest) a w := by
  refine wpList_plain hg fun K' hK' => ?_
  have hrun := hown.look ht k hw
  unfold Oper.wp
  simp [execOp, hop, hm, hx, hrun, Result.andThen]
  exact hK' _ _ hK
end Go.Proofs.YtegkbjpcgelomaaGreatDoor.Base
end
/- Walks of package sabbath: days, all Sabbaths of a cycle, the days on which no portion is read. -/
section
namespace Go.Proofs.YtegkbjpcgelomaaGreatDoor.Walks
open Go Go.RowKit Go.Sort Go.Proofs.YtegkbjpcgelomaaGreatDoor.Base Go.Proofs.YtegkbjpcgelomaaGreatDoor.Plain Go.Proofs.YtegkbjpcgelomaaGreatDoor.Math

set_option maxHeartbeats 4000000 in
theorem sday_c (y n d : Int) (w : World) (G : GT w) (h0 : 1 ≤ y) (h1 : y ≤ 9999) (n0 : 1 ≤ n) (n1 : n ≤ 12) (d0 : 1 ≤ d) (d1 : d ≤ 29) :
    Calls Tryq.prog 131 #[.int .i64 y, .int .i64 n, .int .i64 d] w fun e w' => e = .returned (.int .i64 (dyn y n d)) ∧ Gr w w' := by
  obtain ⟨a, b, c⟩ := dJ_in (lp y) n0 n1
  have C1 : RowKit.Hid (∀ W, Gr w W → Calls Tryq.prog 24 #[.agg #[.int .i64 y, .int .i64 n, .bool false, .int .i64 d]] W fun e w' => e = .returned (.tuple #[.int .i64 (dyn y n d), .int .i64 0]) ∧ Gr W w') := Lib.hid fun W hW => by
    have := htoday_in y (dJ (lp y) n) d W (G.gr hW) (dyn_hv h0 h1 n0 n1 d0 d1)
    rwa [b, c] at this
  obtain ⟨R, hR⟩ : ∃ R, dyn y n d = R := ⟨_, rfl⟩
  rw [hR] at C1 ⊢
  clear hR a b c G
  go_enter Tryq.func131, Tryq.ntmps131
  go_wp2_with (first | (go_at_call 24; (with_reducible refine (C1.out _ ((by repeat (first | exact Gr.refl _ | refine Gr.setCell ?_ _ _ (by first | exact Nat.le_refl _ | (simp; omega) | (simp; done)) | refine Gr.grown ?_ _ _ | refine Gr.drewN ?_ _ | refine Gr.drew ?_ | refine Gr.alloc ?_ _ | refine Gr.grow ?_ _ | (refine Gr.trans ?_ (by assumption)))))).mono ?_); rintro e wA ⟨rfl, hgwA⟩))
  go_ret
  exact ⟨rfl, (by repeat (first | exact Gr.refl _ | refine Gr.setCell ?_ _ _ (by first | exact Nat.le_refl _ | (simp; omega) | (simp; done)) | refine Gr.grown ?_ _ _ | refine Gr.drewN ?_ _ | refine Gr.drew ?_ | refine Gr.alloc ?_ _ | refine Gr.grow ?_ _ | (refine Gr.trans ?_ (by assumption))))⟩
theorem dyn_rej (y p : Int) : dyn y 1 (23 - p) = rej y p := by
  unfold dyn rej dJ
  rw [if_neg (by omega)]
  rfl
set_option maxHeartbeats 4000000 in
theorem rejoice_c (y p : Int) (w : World) (G : GT w) (h0 : 1 ≤ y) (h1 : y ≤ 9999) (hp : p = 0 ∨ p = 1) :
    Calls Tryq.prog 113 #[.int .i64 y, .int .i64 p] w fun e w' => e = .returned (.int .i64 (rej y p)) ∧ Gr w w' := by
  have C1 := Lib.hid fun W (hW : Gr w W) => sday_c y 1 (23 - p) W (G.gr hW) h0 h1 (by omega) (by omega) (by omega) (by omega)
  rw [dyn_rej] at C1
  obtain ⟨R, hR⟩ : ∃ R, rej y p = R := ⟨_, rfl⟩
  rw [hR] at C1 ⊢
  have p0 : 0 ≤ p := by omega
  have p1 : p ≤ 1 := by omega
  clear hR G hp
  go_enter Tryq.func113, Tryq.ntmps113
  go_wp2_with (first | (go_at_call 131; (with_reducible refine (C1.out _ ((by repeat (first | exact Gr.refl _ | refine Gr.setCell ?_ _ _ (by first | exact Nat.le_refl _ | (simp; omega) | (simp; done)) | refine Gr.grown ?_ _ _ | refine Gr.drewN ?_ _ | refine Gr.drew ?_ | refine Gr.alloc ?_ _ | refine Gr.grow ?_ _ | (refine Gr.trans ?_ (by assumption)))))).mono ?_); rintro e wA ⟨rfl, hgwA⟩))
  go_ret
  exact ⟨rfl, (by repeat (first | exact Gr.refl _ | refine Gr.setCell ?_ _ _ (by first | exact Nat.le_refl _ | (simp; omega) | (simp; done)) | refine Gr.grown ?_ _ _ | refine Gr.drewN ?_ _ | refine Gr.drew ?_ | refine Gr.alloc ?_ _ | refine Gr.grow ?_ _ | (refine Gr.trans ?_ (by assumption))))⟩
set_option maxHeartbeats 4000000 in
theorem scheck_c (y p : Int) (w : World) (h0 : 1 ≤ y) (h1 : y ≤ 9998) (hp : p = 0 ∨ p = 1) :
    Calls Tryq.prog 132 #[.int .i64 y, .int .i64 p] w fun e w' => e = .returned (.int .i64 0) ∧ Gr w w' := by
  rcases hp with rfl | rfl
  all_goals (
    go_enter Tryq.func132, Tryq.ntmps132
    go_wp2
    go_ret
    exact ⟨rfl, (by repeat (first | exact Gr.refl _ | refine Gr.setCell ?_ _ _ (by first | exact Nat.le_refl _ | (simp; omega) | (simp; done)) | refine Gr.grown ?_ _ _ | refine Gr.drewN ?_ _ | refine Gr.drew ?_ | refine Gr.alloc ?_ _ | refine Gr.grow ?_ _ | (refine Gr.trans ?_ (by assumption))))⟩)
/-- .. and an error beside. -/
def IntsE2 (w : World) (L : List Int) (e : Ending) (w' : World) : Prop := ∃ v, e = .returned (.tuple #[v, .int .i64 0]) ∧ SlI w' v L ∧ Gr w w'
set_option maxHeartbeats 4000000 in
theorem all_in (y p : Int) (w : World) (G : GT w) (h0 : 1 ≤ y) (h1 : y ≤ 9998) (hp : p = 0 ∨ p = 1) :
    Calls Tryq.prog 114 #[.int .i64 y, .int .i64 p] w (IntsE2 w (allS y p)) := by
  have C1 := Lib.hid fun W (hW : Gr w W) => rejoice_c y p W (G.gr hW) h0 (by omega) hp
  have C2 := Lib.hid fun W (hW : Gr w W) => rejoice_c (y + 1) p W (G.gr hW) (by omega) (by omega) hp
  have C3 := Lib.hid fun W => scheck_c y p W h0 h1 hp
  have r1 := rej_range h0 (show y ≤ 9999 by omega) hp
  have r2 := rej_range (y := y + 1) (by omega) (by omega) hp
  have ha := allS_pos h0 h1 hp
  have C4 : RowKit.Hid (∀ W, Calls Tryq.prog 133 #[.int .i64 (rej y p + 1), .int .i64 (rej (y + 1) p)] W (IntsE W (allS y p))) := Lib.hid fun W => up_c _ _ W (by omega) (by omega) (by omega) (by have := ha.2; unfold allS at this; rw [sats_len] at this; omega)
  obtain ⟨L, hL⟩ : ∃ L, allS y p = L := ⟨_, rfl⟩
  obtain ⟨A, hA⟩ : ∃ A, rej y p = A := ⟨_, rfl⟩
  obtain ⟨B, hB⟩ : ∃ B, rej (y + 1) p = B := ⟨_, rfl⟩
  rw [hL] at C4 ⊢
  rw [hA] at C1 C4 r1
  rw [hB] at C2 C4 r2
  clear hL hA hB ha G hp
  go_enter Tryq.func114, Tryq.ntmps114
  go_wp2_with (first | (go_at_call 132; (with_reducible refine (C3.out _).mono ?_); rintro e wA ⟨rfl, hgwA⟩) | (go_at_call 113; (with_reducible refine (C1.out _ ((by repeat (first | exact Gr.refl _ | refine Gr.setCell ?_ _ _ (by first | exact Nat.le_refl _ | (simp; omega) | (simp; done)) | refine Gr.grown ?_ _ _ | refine Gr.drewN ?_ _ | refine Gr.drew ?_ | refine Gr.alloc ?_ _ | refine Gr.grow ?_ _ | (refine Gr.trans ?_ (by assumption)))))).mono ?_); rintro e wB ⟨rfl, hgwB⟩) | (go_at_call 113; (with_reducible refine (C2.out _ ((by repeat (first | exact Gr.refl _ | refine Gr.setCell ?_ _ _ (by first | exact Nat.le_refl _ | (simp; omega) | (simp; done)) | refine Gr.grown ?_ _ _ | refine Gr.drewN ?_ _ | refine Gr.drew ?_ | refine Gr.alloc ?_ _ | refine Gr.grow ?_ _ | (refine Gr.trans ?_ (by assumption)))))).mono ?_); rintro e wC ⟨rfl, hgwC⟩) | (go_at_call 133; refine (C4.out _).mono ?_; rintro e wD ⟨v, rfl, hS, hgwD⟩))
  go_ret2
  exact ⟨v, rfl, hS, (by repeat (first | exact Gr.refl _ | refine Gr.setCell ?_ _ _ (by first | exact Nat.le_refl _ | (simp; omega) | (simp; done)) | refine Gr.grown ?_ _ _ | refine Gr.drewN ?_ _ | refine Gr.drew ?_ | refine Gr.alloc ?_ _ | refine Gr.grow ?_ _ | (refine Gr.trans ?_ (by assumption))))⟩
end Go.Proofs.YtegkbjpcgelomaaGreatDoor.Walks
end
/- Walks of package sabbath: the days on which no portion is read. -/
section
namespace Go.Proofs.YtegkbjpcgelomaaGreatDoor.Walks
open Go Go.RowKit Go.Sort Go.Proofs.YtegkbjpcgelomaaGreatDoor.Base Go.Proofs.YtegkbjpcgelomaaGreatDoor.Plain Go.Proofs.YtegkbjpcgelomaaGreatDoor.Math

theorem feof_c (y p : Int) (w : World) (G : GT w) (h0 : 1 ≤ y) (h1 : y ≤ 9999) (hp : p = 0 ∨ p = 1) : Calls Tryq.prog 31 #[.int .i64 y, .int .i64 p] w (OfE w (evs y p)) := by
  have hS : ∀ (v : Value) (L : List (Int × Int)) (W : World), L.length ≤ 1000 → Gr w W → 0 < L.length → (∃ g cap, v = .slice (some ⟨g, 0, none⟩) L.length cap ∧ Evs W g L) → Calls Tryq.prog 67 #[v] W (SortE W L) := by
    rintro v L W hl hW hpos ⟨g, cap, rfl, E⟩
    exact sort_c g cap L W hpos hl E
  rcases hp with rfl | rfl
  · exact feof_in0 y w G h0 h1 hS
  · exact feof_in1 y w G h0 h1 hS
theorem Evs.kept {w w' : World} {row : Option Nat} {g : Nat} {L : List (Int × Int)} (h : Evs w g L) (k : w.grownBy w' row) (hne : some g ≠ row) : Evs w' g L := by
  have hb := k.block g h.lt hne
  have c : ∀ o, w'.cell? ⟨g, o, none⟩ = w.cell? ⟨g, o, none⟩ := fun o => World.cell?_of_block hb
  exact ⟨Nat.lt_of_lt_of_le h.lt k.size, fun i e he => by rw [c, c]; exact h.c i e he⟩
theorem _root_.Go.Proofs.YtegkbjpcgelomaaGreatDoor.Base.MapB.congr {w : World} {b N : Nat} {f g : Int → Bool} (h : MapB w b N f) (e : ∀ z, f z = g z) : MapB w b N g := by
  rw [← show f = g from funext e]
  exact h
theorem _root_.Go.Proofs.YtegkbjpcgelomaaGreatDoor.Base.MapB.ne {w : World} {b N g : Nat} {f : Int → Bool} (h : MapB w b N f) {o : Nat} {v : Value} (hc : w.cell? ⟨g, o, none⟩ = some v) : some g ≠ some b := by
  intro q
  injection q with q
  subst q
  obtain ⟨es, clock, hb, -⟩ := h.ex
  unfold World.cell? at hc
  simp [hb] at hc
/-- What the map tells behind k years. -/
def rsN (y p : Int) (k : Nat) (n : Int) : Bool := match k with
  | 0 => false
  | 1 => rstL (evs y p) n
  | _ => rst y p n
theorem rsN_step (y p : Int) {k : Nat} (hk : k < 2) (n : Int) : rsN y p (k + 1) n = (rsN y p k n || rstL (evs (y + (k : Int)) p) n) := by
  match k, hk with
  | 0, _ => simp [rsN]
  | 1, _ => simp [rsN, rst]
theorem rstL_step (M : List (Int × Int)) (i : Nat) (e : Int × Int) (h : M[i]? = some e) (n : Int) : rstL (M.take (i + 1)) n = (rstL (M.take i) n || (fRest e.1 && e.2 == n)) := by
  unfold rstL
  rw [List.take_add_one, h]
  simp [List.any_append]
theorem or_step (a b : Bool) (z D : Int) : (decide (z = D) || (a || b)) = (a || (b || (true && D == z))) := by
  by_cases q : z = D
  · subst q; simp
  · have q' : (D == z) = false := beq_eq_false_iff_ne.2 fun h => q h.symm
    simp [q, q']
def RestE (w : World) (y p : Int) (e : Ending) (w' : World) : Prop := ∃ b, e = .returned (.tuple #[.map (some b), .int .i64 0]) ∧ MapB w' b 100000 (rst y p) ∧ Gr w w'
theorem und_mib : Tryq.prog.underlying 166 = some (.map 3 4) := by kernel_rfl
theorem ev_days {y p : Int} (h0 : 1 ≤ y) (h1 : y ≤ 9999) : ∀ e ∈ evs y p, -1373427 ≤ e.2 ∧ e.2 ≤ 2278690 := by
  intro e he
  unfold evs at he
  rw [List.mem_flatMap] at he
  obtain ⟨i, hi, hm⟩ := he
  have hi : i < 19 := by simpa using hi
  have hf := fFT p hi
  have hd := fdy_range h0 h1 hi
  unfold evr at hm
  split at hm
  · rw [List.mem_map] at hm
    obtain ⟨d, hd', rfl⟩ := hm
    have hd' : d < (fT p i + 1 - fF p i).toNat := by simpa using hd'
    simp only
    omega
  · cases hm
set_option maxRecDepth 20000 in
set_option maxHeartbeats 8000000 in
theorem resting_c (y p : Int) (w : World) (G : GT w) (h0 : 1 ≤ y) (h1 : y ≤ 9998) (hp : p = 0 ∨ p = 1) : Calls Tryq.prog 134 #[.int .i64 y, .int .i64 p] w (RestE w y p) := by
  have C1 := Lib.hid fun W (hW : Gr w W) (k : Nat) (hk : k < 2) => feof_c (y + (k : Int)) p W (G.gr hW) (by omega) (by omega) hp
  have C2 := Lib.hid fun k W => rest_c k W
  have hEL : ∀ k : Nat, k < 2 → (evs (y + (k : Int)) p).length ≤ 152 := fun k hk => evp_len (y + (k : Int)) p 19 (by omega)
  have hED : ∀ k : Nat, k < 2 → ∀ e ∈ evs (y + (k : Int)) p, -1373427 ≤ e.2 ∧ e.2 ≤ 2278690 := fun k hk => ev_days (by omega) (by omega)
  have hEL := Lib.hid hEL
  have hED := Lib.hid hED
  clear hp G
  have hmm := @run_makeMap Tryq.prog
  go_enter Tryq.func134, Tryq.ntmps134
  go_wp2
  obtain ⟨W1, hW1⟩ : ∃ W1, W1 = (w.alloc (Obj.map #[] 0)).alloc (Obj.cells #[.int .i64 y, .int .i64 (y + 1)] 3) := ⟨_, rfl⟩
  rw [← hW1]
  have G1 : Gr w W1 := by rw [hW1]; exact ((Gr.refl _).alloc _).alloc _
  have M1 : MapB W1 w.heap.size 0 fun _ => false := by rw [hW1]; exact (MapB.made w).gr ((Gr.refl _).alloc _)
  have S1 : W1.heap[w.heap.size + 1]? = some (Obj.cells #[.int .i64 y, .int .i64 (y + 1)] 3 (0, 0)) := by
    rw [hW1]
    have := heap_alloc_new (w.alloc (Obj.map #[] 0)) (Obj.cells #[.int .i64 y, .int .i64 (y + 1)] 3)
    simpa using this
  have l1 : w.heap.size + 1 < W1.heap.size := by rw [hW1]; simp
  obtain ⟨bm, hbm⟩ : ∃ b, w.heap.size = b := ⟨_, rfl⟩
  have hbw : w.heap.size ≤ bm := by omega
  rw [hbm] at M1 S1 l1 ⊢
  clear hW1 hmm
  go_loopg [19] 2 (fun kx s19 wr => ∃ (k N : Nat), k ≤ 2 ∧ 2 - k ≤ kx ∧ s19 = .int .i64 (k : Int) ∧ N ≤ 200 * k ∧ MapB wr bm N (rsN y p k) ∧ wr.heap[bm + 1]? = some (Obj.cells #[.int .i64 y, .int .i64 (y + 1)] 3 (0, 0)) ∧ bm + 1 < wr.heap.size ∧ Gr w wr)
  case atStart => exact ⟨0, 0, by omega, by omega, rfl, by omega, M1, S1, l1, G1⟩
  case round =>
    obtain ⟨k, N, hk, hm, rfl, hN, hM, hS, hl, hg⟩ := hrel
    rename World => wo
    by_cases e : k < 2
    · have e' : (k : Int) < 2 := by omega
      have c0 : wo.cell? ⟨bm + 1, k, none⟩ = some (.int .i64 (y + (k : Int))) := by
        rw [Lib.cell_of_heap hS]
        match k, e with
        | 0, _ => simp
        | 1, _ => rfl
      have hz : k = 0 ∨ 0 < k := by omega
      go_wp2_with (first | (go_at_call 31; refine (C1.out _ ((by repeat (first | exact Gr.refl _ | refine Gr.setCell ?_ _ _ (by first | exact Nat.le_refl _ | (simp; omega) | (simp; done)) | refine Gr.grown ?_ _ _ | refine Gr.drewN ?_ _ | refine Gr.drew ?_ | refine Gr.alloc ?_ _ | refine Gr.grow ?_ _ | (refine Gr.trans ?_ (by assumption))))) k e).mono ?_; rintro e1 wA ⟨gE, capE, M, rfl, hPerm, hSort, hE, hgA⟩))
      have hML : M.length ≤ 152 := by rw [hPerm.length_eq]; exact hEL.out k e
      have hMD : ∀ x ∈ M, -1373427 ≤ x.2 ∧ x.2 ≤ 2278690 := fun x hx => hED.out k e x (hPerm.mem_iff.1 hx)
      have hMA := hM.gr hgA
      have hSA := (hgA.heap (by omega)).trans hS
      have hlA : bm + 1 < wA.heap.size := by have := hgA.size; omega
      have hGA := hg.trans hgA
      have hR := rstL_perm hPerm
      clear hM hS hl hg hgA c0
      go_loopg [34] M.length (fun kx s34 wr => ∃ (i N' : Nat), i ≤ M.length ∧ M.length - i ≤ kx ∧ s34 = .int .i64 (i : Int) ∧ N' ≤ N + i ∧ MapB wr bm N' (fun n => rsN y p k n || rstL (M.take i) n) ∧ Evs wr gE M ∧ wr.heap[bm + 1]? = some (Obj.cells #[.int .i64 y, .int .i64 (y + 1)] 3 (0, 0)) ∧ bm + 1 < wr.heap.size ∧ Gr w wr)
      case atStart => exact ⟨0, N, by omega, by omega, rfl, by omega, hMA.congr (fun z => by simp [rstL]), hE, hSA, hlA, hGA⟩
      case round =>
        obtain ⟨i, N', hi, hm', rfl, hN', hMr, hEr, hSr, hlr, hgr⟩ := hrel
        by_cases ei : i < M.length
        · have ei' : (i : Int) < (M.length : Int) := by omega
          obtain ⟨x, hx⟩ : ∃ x, M[i]? = some x := ⟨_, List.getElem?_eq_getElem ei⟩
          obtain ⟨k0, k1⟩ := hEr.c i x hx
          rw [Nat.mul_comm] at k0 k1
          have hxD := hMD x (List.mem_of_getElem? hx)
          have hst := rstL_step M i x hx
          have hne := hMr.ne k0
          obtain ⟨K, D⟩ := x
          simp only at k0 k1 hxD hst
          obtain ⟨d0, d1⟩ := hxD
          have hA1 := (Gr.refl wr).alloc (Obj.cells #[.int .i64 K, .int .i64 D] 67)
          have hMa := hMr.gr hA1
          have hEa := hEr.gr hA1
          have hSa := (hA1.heap (by omega)).trans hSr
          have hla : bm + 1 < (wr.alloc (Obj.cells #[.int .i64 K, .int .i64 D] 67)).heap.size := by simp; omega
          have hga := hgr.trans hA1
          have hnb : some (bm + 1) ≠ some bm := by simp
          have hNl : N' < maxLen := by simp only [maxLen]; omega
          have hwf : (Lit.int .i64 D).wf = true := wf_small (by omega) (by omega)
          by_cases hr : fRest K = true
          · rw [hr] at hst
            go_wp2_with (first | (go_at_call 158; refine (C2.out _ _).mono ?_; rintro e2 wB ⟨rfl, rfl⟩; rw [hr]) | (at_mapUpdate; refine wpList_mapUpdate_b _ rfl _ _ _ _ rfl und_mib bm N' _ rfl hMa hNl D rfl hwf rfl ?_; go_loud (intro wX hMX kX GX_; have hEX := hEa.kept kX hne; have hSX := (kX.block (bm + 1) hla hnb).trans hSa; have hlX : bm + 1 < wX.heap.size := Nat.lt_of_lt_of_le hla kX.size; have hgX := GX_ w hga hbw)))
            go_roundg (M.length - (i + 1))
            case measure => omega
            case rel => exact ⟨i + 1, N' + 1, by omega, Nat.le_refl _, by go_num, by omega, hMX.congr (fun z => by rw [hst]; exact or_step _ _ z D), hEX, hSX, hlX, hgX⟩
          · have hr : fRest K = false := by simpa using hr
            rw [hr] at hst
            go_wp2_with (first | (go_at_call 158; refine (C2.out _ _).mono ?_; rintro e2 wB ⟨rfl, rfl⟩; rw [hr]))
            go_roundg (M.length - (i + 1))
            case measure => omega
            case rel => exact ⟨i + 1, N', by omega, Nat.le_refl _, by go_num, by omega, hMa.congr (fun z => by rw [hst]; simp), hEa, hSa, hla, hga⟩
        · obtain rfl : i = M.length := by omega
          go_wp2
          go_roundg (2 - (k + 1))
          case measure => omega
          case rel => exact ⟨k + 1, N', by omega, Nat.le_refl _, by go_num, by omega, hMr.congr (fun z => by rw [rsN_step y p e, ← hR]; simp), hSr, hlr, hgr⟩
    · obtain rfl : k = 2 := by omega
      go_wp2
      go_ret2
      exact ⟨bm, rfl, hM.mono (by omega), hg⟩
end Go.Proofs.YtegkbjpcgelomaaGreatDoor.Walks
end
/- Walks of package sabbath: the free ones, parts of a cycle, a day's cycle. -/
section
namespace Go.Proofs.YtegkbjpcgelomaaGreatDoor.Walks
open Go Go.RowKit Go.Sort Go.Proofs.YtegkbjpcgelomaaGreatDoor.Base Go.Proofs.YtegkbjpcgelomaaGreatDoor.Plain Go.Proofs.YtegkbjpcgelomaaGreatDoor.Math

theorem sats_range {a b : Int} (h0 : -5000000 ≤ a) (h1 : b ≤ 5000000) : ∀ n ∈ sats a b, -5000000 ≤ n ∧ n ≤ 5000000 := by
  intro n hn
  unfold sats at hn
  rw [List.mem_map] at hn
  obtain ⟨k, hk, rfl⟩ := hn
  have hk : k < saK a b := by simpa using hk
  have := (saK_lt k).1 hk
  have : a ≤ saF a := by unfold saF; omega
  omega
theorem take_filter (L : List Int) (q : Int → Bool) (i : Nat) (n : Int) (h : L[i]? = some n) : (L.take (i + 1)).filter q = (L.take i).filter q ++ (if q n = true then [n] else []) := by
  rw [List.take_add_one, h, List.filter_append]
  congr 1
  by_cases c : q n = true
  · simp [c]
  · simp [c]
set_option maxRecDepth 20000 in
set_option maxHeartbeats 8000000 in
theorem free_c (y p : Int) (w : World) (G : GT w) (h0 : 1 ≤ y) (h1 : y ≤ 9998) (hp : p = 0 ∨ p = 1) : Calls Tryq.prog 115 #[.int .i64 y, .int .i64 p] w (IntsE2 w (freeS y p)) := by
  have C1 := Lib.hid fun W (hW : Gr w W) => all_in y p W (G.gr hW) h0 h1 hp
  have C2 := Lib.hid fun W (hW : Gr w W) => resting_c y p W (G.gr hW) h0 h1 hp
  have ha := allS_pos h0 h1 hp
  have hr : ∀ n ∈ allS y p, -5000000 ≤ n ∧ n ≤ 5000000 := by
    have r1 := rej_range h0 (show y ≤ 9999 by omega) hp
    have r2 := rej_range (y := y + 1) (by omega) (by omega) hp
    exact sats_range (by omega) (by omega)
  have hr := Lib.hid hr
  have hF : RowKit.Hid (freeS y p = (allS y p).filter fun n => !rst y p n) := Lib.hid rfl
  obtain ⟨L, hL⟩ : ∃ L, allS y p = L := ⟨_, rfl⟩
  rw [hL] at C1 ha hr hF
  obtain ⟨a0, a1⟩ := ha
  clear hL G hp
  go_enter Tryq.func115, Tryq.ntmps115
  go_wp2_with (first | (go_at_call 114; refine (C1.out _ ((by repeat (first | exact Gr.refl _ | refine Gr.setCell ?_ _ _ (by first | exact Nat.le_refl _ | (simp; omega) | (simp; done)) | refine Gr.grown ?_ _ _ | refine Gr.drewN ?_ _ | refine Gr.drew ?_ | refine Gr.alloc ?_ _ | refine Gr.grow ?_ _ | (refine Gr.trans ?_ (by assumption)))))).mono ?_; rintro e wA ⟨v, rfl, hS, hgA⟩; obtain ⟨gA, capA, rfl, hI⟩ : ∃ g cap, v = .slice (some ⟨g, 0, none⟩) L.length cap ∧ Ints wA g L := (by rcases hS with ⟨q, -⟩ | ⟨g, cap, q, -, r⟩; (subst q; simp at a0); exact ⟨g, cap, q, r⟩); clear hS) | (go_at_call 134; refine (C2.out _ ((by repeat (first | exact Gr.refl _ | refine Gr.setCell ?_ _ _ (by first | exact Nat.le_refl _ | (simp; omega) | (simp; done)) | refine Gr.grown ?_ _ _ | refine Gr.drewN ?_ _ | refine Gr.drew ?_ | refine Gr.alloc ?_ _ | refine Gr.grow ?_ _ | (refine Gr.trans ?_ (by assumption)))))).mono ?_; rintro e wB ⟨bm, rfl, hM, hgB⟩; have hIB := hI.gr hgB))
  have hGB := hgA.trans hgB
  clear hI hgA hgB
  go_loopg [9, 32] L.length (fun kx s9 s32 wr => ∃ (i : Nat), i ≤ L.length ∧ L.length - i ≤ kx ∧ s32 = .int .i64 (i : Int) ∧ wr.ownsRow wB.heap.size 3 1 s9 ((L.take i).filter fun n => !rst y p n).length (cei ((L.take i).filter fun n => !rst y p n)) ∧ Gr wB wr)
  case atStart => exact ⟨0, by omega, by omega, rfl, World.ownsRow_nil _ _ _ _, Gr.refl _⟩
  case round =>
    obtain ⟨i, hi, hm, rfl, ho, hg⟩ := hrel
    by_cases e : i < L.length
    · have e' : (i : Int) < (L.length : Int) := by omega
      obtain ⟨n, hn⟩ : ∃ n, L[i]? = some n := ⟨_, List.getElem?_eq_getElem e⟩
      have k0 := (hIB.gr hg).c i n hn
      obtain ⟨n0, n1⟩ := hr.out n (List.mem_of_getElem? hn)
      have hst := take_filter L (fun n => !rst y p n) i n hn
      have hMr := hM.gr hg
      have hwf : (Lit.int .i64 n).wf = true := wf_small (by omega) (by omega)
      have hfl : ((L.take i).filter fun n => !rst y p n).length ≤ 60 := Nat.le_trans (List.length_filter_le _ _) (by rw [List.length_take]; omega)
      have hs := hg.size
      by_cases hq : rst y p n = true
      · simp only [hq, Bool.not_true, Bool.false_eq_true, if_false, List.append_nil] at hst
        go_wp2_with (first | (refine wpList_lookup_b _ rfl _ _ _ rfl und_mib bm _ _ rfl hMr n rfl hwf ?_; rw [hq]))
        go_roundg (L.length - (i + 1))
        case measure => omega
        case rel => exact ⟨i + 1, by omega, Nat.le_refl _, by go_num, by rw [hst]; exact ho, hg⟩
      · have hq : rst y p n = false := by simpa using hq
        simp only [hq, Bool.not_false, if_true] at hst
        go_wp2_with (first | (refine wpList_lookup_b _ rfl _ _ _ rfl und_mib bm _ _ rfl hMr n rfl hwf ?_; rw [hq]) | (at_builtin; refine append_ints _ rfl _ _ rfl wB.heap.size _ _ _ rfl (ho.alloc _) _ 1 1 [.int .i64 n] rfl rfl (fun j u hj => by (match j, hj with | 0, hj => (simp at hj; subst hj; simp [go_sem]))) (by simp [Value.oneCell']) (by decide) (by omega) (by simp; omega) ?_; intro g1 c1 wX OX kX bX GX_; have GX : Gr wB wX := GX_ wB (hg.alloc _) (Nat.le_refl _)))
        go_roundg (L.length - (i + 1))
        case measure => omega
        case rel => exact ⟨i + 1, by omega, Nat.le_refl _, by go_num, by rw [hst, cei_snoc]; simpa using OX, GX⟩
    · obtain rfl : i = L.length := by omega
      have hv : SlI wr u9 (freeS y p) := by
        rw [List.take_of_length_le (Nat.le_refl _)] at ho
        rw [hF.out]
        exact sli_of ho rfl
      have HV' := Lib.hid hv
      clear hv ho
      go_wp2
      go_ret2
      exact ⟨_, rfl, HV'.out, hGB.trans hg⟩
end Go.Proofs.YtegkbjpcgelomaaGreatDoor.Walks
end
/- Walks of package sabbath: parts of a cycle, a day's cycle. -/
section
namespace Go.Proofs.YtegkbjpcgelomaaGreatDoor.Walks
open Go Go.RowKit Go.Sort Go.Proofs.YtegkbjpcgelomaaGreatDoor.Base Go.Proofs.YtegkbjpcgelomaaGreatDoor.Plain Go.Proofs.YtegkbjpcgelomaaGreatDoor.Math

/-- The part, counted so far. -/
def prtN (A B C D n : Int) (k : Nat) : Int := match k with
  | 0 => 1
  | 1 => 1 + (if A ≤ n then 1 else 0)
  | 2 => 1 + (if A ≤ n then 1 else 0) + (if B ≤ n then 1 else 0)
  | 3 => 1 + (if A ≤ n then 1 else 0) + (if B ≤ n then 1 else 0) + (if C ≤ n then 1 else 0)
  | _ => 1 + (if A ≤ n then 1 else 0) + (if B ≤ n then 1 else 0) + (if C ≤ n then 1 else 0) + (if D ≤ n then 1 else 0)
def prtB (A B C D : Int) (k : Nat) : Int := match k with | 0 => A | 1 => B | 2 => C | _ => D
theorem prtN_step (A B C D n : Int) {k : Nat} (hk : k < 4) : prtN A B C D n (k + 1) = prtN A B C D n k + (if prtB A B C D k ≤ n then 1 else 0) := by
  match k, hk with
  | 0, _ => rfl
  | 1, _ => rfl
  | 2, _ => rfl
  | 3, _ => rfl
theorem prtN_range (A B C D n : Int) (k : Nat) : 1 ≤ prtN A B C D n k ∧ prtN A B C D n k ≤ 5 := by
  unfold prtN
  split <;> (repeat' split) <;> omega
set_option maxRecDepth 20000 in
set_option maxHeartbeats 8000000 in
theorem part_c (y n : Int) (w : World) (G : GT w) (h0 : 1 ≤ y) (h1 : y ≤ 9998) :
    Calls Tryq.prog 116 #[.int .i64 y, .int .i64 n] w fun e w' => e = .returned (.tuple #[.int .i64 (prt y n), .int .i64 0]) ∧ Gr w w' := by
  have C1 := Lib.hid fun W (hW : Gr w W) => sday_c y 7 15 W (G.gr hW) h0 (by omega) (by omega) (by omega) (by omega) (by omega)
  have C2 := Lib.hid fun W (hW : Gr w W) => sday_c y 9 6 W (G.gr hW) h0 (by omega) (by omega) (by omega) (by omega) (by omega)
  have C3 := Lib.hid fun W (hW : Gr w W) => sday_c y 11 10 W (G.gr hW) h0 (by omega) (by omega) (by omega) (by omega) (by omega)
  have C4 := Lib.hid fun W (hW : Gr w W) => sday_c (y + 1) 1 1 W (G.gr hW) (by omega) (by omega) (by omega) (by omega) (by omega) (by omega)
  have hP : prt y n = prtN (dyn y 7 15) (dyn y 9 6) (dyn y 11 10) (dyn (y + 1) 1 1) n 4 := rfl
  rw [hP]
  clear hP
  obtain ⟨A, hA⟩ : ∃ A, dyn y 7 15 = A := ⟨_, rfl⟩
  obtain ⟨B, hB⟩ : ∃ B, dyn y 9 6 = B := ⟨_, rfl⟩
  obtain ⟨C, hC⟩ : ∃ C, dyn y 11 10 = C := ⟨_, rfl⟩
  obtain ⟨D, hD⟩ : ∃ D, dyn (y + 1) 1 1 = D := ⟨_, rfl⟩
  rw [hA] at C1 ⊢; rw [hB] at C2 ⊢; rw [hC] at C3 ⊢; rw [hD] at C4 ⊢
  clear hA hB hC hD G
  go_enter Tryq.func116, Tryq.ntmps116
  go_wp2_with (first | (go_at_call 131; (first | (with_reducible refine (C1.out _ ((by repeat (first | exact Gr.refl _ | refine Gr.setCell ?_ _ _ (by first | exact Nat.le_refl _ | (simp; omega) | (simp; done)) | refine Gr.grown ?_ _ _ | refine Gr.drewN ?_ _ | refine Gr.drew ?_ | refine Gr.alloc ?_ _ | refine Gr.grow ?_ _ | (refine Gr.trans ?_ (by assumption)))))).mono ?_) | (with_reducible refine (C2.out _ ((by repeat (first | exact Gr.refl _ | refine Gr.setCell ?_ _ _ (by first | exact Nat.le_refl _ | (simp; omega) | (simp; done)) | refine Gr.grown ?_ _ _ | refine Gr.drewN ?_ _ | refine Gr.drew ?_ | refine Gr.alloc ?_ _ | refine Gr.grow ?_ _ | (refine Gr.trans ?_ (by assumption)))))).mono ?_) | (with_reducible refine (C3.out _ ((by repeat (first | exact Gr.refl _ | refine Gr.setCell ?_ _ _ (by first | exact Nat.le_refl _ | (simp; omega) | (simp; done)) | refine Gr.grown ?_ _ _ | refine Gr.drewN ?_ _ | refine Gr.drew ?_ | refine Gr.alloc ?_ _ | refine Gr.grow ?_ _ | (refine Gr.trans ?_ (by assumption)))))).mono ?_) | (with_reducible refine (C4.out _ ((by repeat (first | exact Gr.refl _ | refine Gr.setCell ?_ _ _ (by first | exact Nat.le_refl _ | (simp; omega) | (simp; done)) | refine Gr.grown ?_ _ _ | refine Gr.drewN ?_ _ | refine Gr.drew ?_ | refine Gr.alloc ?_ _ | refine Gr.grow ?_ _ | (refine Gr.trans ?_ (by assumption)))))).mono ?_)); rintro e wB ⟨rfl, hgwB⟩))
  have GW : Gr w (wB.alloc (Obj.cells #[.int .i64 A, .int .i64 B, .int .i64 C, .int .i64 D] 3)) := (by repeat (first | exact Gr.refl _ | refine Gr.setCell ?_ _ _ (by first | exact Nat.le_refl _ | (simp; omega) | (simp; done)) | refine Gr.grown ?_ _ _ | refine Gr.drewN ?_ _ | refine Gr.drew ?_ | refine Gr.alloc ?_ _ | refine Gr.grow ?_ _ | (refine Gr.trans ?_ (by assumption))))
  go_loopg [6, 26] 4 (fun kx s6 s26 wr => ∃ (k : Nat), k ≤ 4 ∧ 4 - k ≤ kx ∧ s6 = .int .i64 (prtN A B C D n k) ∧ s26 = .int .i64 (k : Int) ∧ wr = wB.alloc (Obj.cells #[.int .i64 A, .int .i64 B, .int .i64 C, .int .i64 D] 3))
  case atStart => exact ⟨0, by omega, by omega, rfl, rfl, rfl⟩
  case round =>
    obtain ⟨k, hk, hm, rfl, rfl, rfl⟩ := hrel
    have hR := prtN_range A B C D n k
    by_cases e : k < 4
    · have e' : (k : Int) < 4 := by omega
      have c0 : (wB.alloc (Obj.cells #[.int .i64 A, .int .i64 B, .int .i64 C, .int .i64 D] 3)).cell? ⟨wB.heap.size, k, none⟩ = some (.int .i64 (prtB A B C D k)) := by
        match k, e with
        | 0, _ => simp [go_sem, prtB]
        | 1, _ => simp [go_sem, prtB]
        | 2, _ => simp [go_sem, prtB]
        | 3, _ => simp [go_sem, prtB]
      have hst := prtN_step A B C D n e
      obtain ⟨Q, hQ⟩ : ∃ Q, prtB A B C D k = Q := ⟨_, rfl⟩
      obtain ⟨T, hT⟩ : ∃ T, prtN A B C D n k = T := ⟨_, rfl⟩
      rw [hQ] at c0 hst
      rw [hT] at hst hR ⊢
      clear hQ hT
      by_cases c : Q ≤ n
      · rw [if_pos c] at hst
        go_wp2
        go_roundg (4 - (k + 1))
        case measure => omega
        case rel => exact ⟨k + 1, by omega, Nat.le_refl _, by rw [hst], by go_num, rfl⟩
      · rw [if_neg c, Int.add_zero] at hst
        go_wp2
        go_roundg (4 - (k + 1))
        case measure => omega
        case rel => exact ⟨k + 1, by omega, Nat.le_refl _, by rw [hst], by go_num, rfl⟩
    · obtain rfl : k = 4 := by omega
      go_wp2
      go_ret2
      exact ⟨rfl, GW⟩
/-- A day's cycle: its number, an error. -/
def cycY (y p n : Int) : Int := if n ≤ rej y p then y - 1 else y
def cycN (y p n : Int) : Int := if cycY y p n < 1 ∨ 9998 < cycY y p n then 0 else cycY y p n
def cycE (y p n : Int) : Int := if cycY y p n < 1 ∨ 9998 < cycY y p n then 2 else 0
set_option maxHeartbeats 4000000 in
theorem scycle_in (y p n d : Int) (j : Nat) (w : World) (G : GT w) (hv : HV y j d) (hn : hd y j d = n) (hp : p = 0 ∨ p = 1) :
    Calls Tryq.prog 79 #[.int .i64 n, .int .i64 p] w fun e w' => e = .returned (.tuple #[.int .i64 (cycN y p n), .int .i64 (cycE y p n)]) ∧ Gr w w' := by
  have h0 := hv.y0
  have h1 := hv.y1
  have C1 := Lib.hid fun W (hW : Gr w W) => hfrom_in y j d n W (G.gr hW) hv hn
  have C2 := Lib.hid fun W (hW : Gr w W) => rejoice_c y p W (G.gr hW) h0 h1 hp
  obtain ⟨N, hN⟩ : ∃ N, cN (lp y) j = N := ⟨_, rfl⟩
  obtain ⟨C, hC⟩ : ∃ C, cL (lp y) j = C := ⟨_, rfl⟩
  rw [hN, hC] at C1
  have hY : ∀ Y, cycY y p n = Y → (Y < 1 ∨ 9998 < Y → cycN y p n = 0 ∧ cycE y p n = 2) ∧ (¬ (Y < 1 ∨ 9998 < Y) → cycN y p n = Y ∧ cycE y p n = 0) := by
    rintro Y rfl
    unfold cycN cycE
    exact ⟨fun h => ⟨if_pos h, if_pos h⟩, fun h => ⟨if_neg h, if_neg h⟩⟩
  have hp0 : p ≠ 0 → p = 1 := fun h => hp.resolve_left h
  by_cases hr : n ≤ rej y p
  · have hy := hY (y - 1) (if_pos hr)
    obtain ⟨R, hR⟩ : ∃ R, rej y p = R := ⟨_, rfl⟩
    rw [hR] at C2 hr
    clear hY hN hC hR hv hn G
    by_cases hb : y - 1 < 1
    · obtain ⟨q1, q2⟩ := hy.1 (.inl hb)
      rw [q1, q2]
      clear hy q1 q2
      rcases hp with rfl | rfl
      all_goals (
        go_enter Tryq.func79, Tryq.ntmps79
        go_wp2_with (first | ((go_at_call 22; (with_reducible refine (C1.out _ ((by repeat (first | exact Gr.refl _ | refine Gr.setCell ?_ _ _ (by first | exact Nat.le_refl _ | (simp; omega) | (simp; done)) | refine Gr.grown ?_ _ _ | refine Gr.drewN ?_ _ | refine Gr.drew ?_ | refine Gr.alloc ?_ _ | refine Gr.grow ?_ _ | (refine Gr.trans ?_ (by assumption)))))).mono ?_); rintro e wA ⟨rfl, hgwA⟩; obtain ⟨hclwA, hfzwA, hszwA⟩ := gcell hgwA; (try simp [Nat.add_one_le_iff] at hszwA))) | (go_at_call 113; (with_reducible refine (C2.out _ ((by repeat (first | exact Gr.refl _ | refine Gr.setCell ?_ _ _ (by first | exact Nat.le_refl _ | (simp; omega) | (simp; done)) | refine Gr.grown ?_ _ _ | refine Gr.drewN ?_ _ | refine Gr.drew ?_ | refine Gr.alloc ?_ _ | refine Gr.grow ?_ _ | (refine Gr.trans ?_ (by assumption)))))).mono ?_); rintro e wB ⟨rfl, hgwB⟩; obtain ⟨hclwB, hfzwB, hszwB⟩ := gcell hgwB; (try simp [Nat.add_one_le_iff] at hszwB)))
        go_ret2
        exact ⟨rfl, (by repeat (first | exact Gr.refl _ | refine Gr.setCell ?_ _ _ (by first | exact Nat.le_refl _ | (simp; omega) | (simp; done)) | refine Gr.grown ?_ _ _ | refine Gr.drewN ?_ _ | refine Gr.drew ?_ | refine Gr.alloc ?_ _ | refine Gr.grow ?_ _ | (refine Gr.trans ?_ (by assumption))))⟩)
    · obtain ⟨q1, q2⟩ := hy.2 (by omega)
      rw [q1, q2]
      clear hy q1 q2
      rcases hp with rfl | rfl
      all_goals (
        go_enter Tryq.func79, Tryq.ntmps79
        go_wp2_with (first | ((go_at_call 22; (with_reducible refine (C1.out _ ((by repeat (first | exact Gr.refl _ | refine Gr.setCell ?_ _ _ (by first | exact Nat.le_refl _ | (simp; omega) | (simp; done)) | refine Gr.grown ?_ _ _ | refine Gr.drewN ?_ _ | refine Gr.drew ?_ | refine Gr.alloc ?_ _ | refine Gr.grow ?_ _ | (refine Gr.trans ?_ (by assumption)))))).mono ?_); rintro e wA ⟨rfl, hgwA⟩; obtain ⟨hclwA, hfzwA, hszwA⟩ := gcell hgwA; (try simp [Nat.add_one_le_iff] at hszwA))) | (go_at_call 113; (with_reducible refine (C2.out _ ((by repeat (first | exact Gr.refl _ | refine Gr.setCell ?_ _ _ (by first | exact Nat.le_refl _ | (simp; omega) | (simp; done)) | refine Gr.grown ?_ _ _ | refine Gr.drewN ?_ _ | refine Gr.drew ?_ | refine Gr.alloc ?_ _ | refine Gr.grow ?_ _ | (refine Gr.trans ?_ (by assumption)))))).mono ?_); rintro e wB ⟨rfl, hgwB⟩; obtain ⟨hclwB, hfzwB, hszwB⟩ := gcell hgwB; (try simp [Nat.add_one_le_iff] at hszwB)))
        go_ret2
        exact ⟨rfl, (by repeat (first | exact Gr.refl _ | refine Gr.setCell ?_ _ _ (by first | exact Nat.le_refl _ | (simp; omega) | (simp; done)) | refine Gr.grown ?_ _ _ | refine Gr.drewN ?_ _ | refine Gr.drew ?_ | refine Gr.alloc ?_ _ | refine Gr.grow ?_ _ | (refine Gr.trans ?_ (by assumption))))⟩)
  · have hy := hY y (if_neg hr)
    obtain ⟨R, hR⟩ : ∃ R, rej y p = R := ⟨_, rfl⟩
    rw [hR] at C2 hr
    clear hY hN hC hR hv hn G
    by_cases hb : 9998 < y
    · obtain ⟨q1, q2⟩ := hy.1 (.inr hb)
      rw [q1, q2]
      clear hy q1 q2
      rcases hp with rfl | rfl
      all_goals (
        go_enter Tryq.func79, Tryq.ntmps79
        go_wp2_with (first | ((go_at_call 22; (with_reducible refine (C1.out _ ((by repeat (first | exact Gr.refl _ | refine Gr.setCell ?_ _ _ (by first | exact Nat.le_refl _ | (simp; omega) | (simp; done)) | refine Gr.grown ?_ _ _ | refine Gr.drewN ?_ _ | refine Gr.drew ?_ | refine Gr.alloc ?_ _ | refine Gr.grow ?_ _ | (refine Gr.trans ?_ (by assumption)))))).mono ?_); rintro e wA ⟨rfl, hgwA⟩; obtain ⟨hclwA, hfzwA, hszwA⟩ := gcell hgwA; (try simp [Nat.add_one_le_iff] at hszwA))) | (go_at_call 113; (with_reducible refine (C2.out _ ((by repeat (first | exact Gr.refl _ | refine Gr.setCell ?_ _ _ (by first | exact Nat.le_refl _ | (simp; omega) | (simp; done)) | refine Gr.grown ?_ _ _ | refine Gr.drewN ?_ _ | refine Gr.drew ?_ | refine Gr.alloc ?_ _ | refine Gr.grow ?_ _ | (refine Gr.trans ?_ (by assumption)))))).mono ?_); rintro e wB ⟨rfl, hgwB⟩; obtain ⟨hclwB, hfzwB, hszwB⟩ := gcell hgwB; (try simp [Nat.add_one_le_iff] at hszwB)))
        go_ret2
        exact ⟨rfl, (by repeat (first | exact Gr.refl _ | refine Gr.setCell ?_ _ _ (by first | exact Nat.le_refl _ | (simp; omega) | (simp; done)) | refine Gr.grown ?_ _ _ | refine Gr.drewN ?_ _ | refine Gr.drew ?_ | refine Gr.alloc ?_ _ | refine Gr.grow ?_ _ | (refine Gr.trans ?_ (by assumption))))⟩)
    · obtain ⟨q1, q2⟩ := hy.2 (by omega)
      rw [q1, q2]
      clear hy q1 q2
      rcases hp with rfl | rfl
      all_goals (
        go_enter Tryq.func79, Tryq.ntmps79
        go_wp2_with (first | ((go_at_call 22; (with_reducible refine (C1.out _ ((by repeat (first | exact Gr.refl _ | refine Gr.setCell ?_ _ _ (by first | exact Nat.le_refl _ | (simp; omega) | (simp; done)) | refine Gr.grown ?_ _ _ | refine Gr.drewN ?_ _ | refine Gr.drew ?_ | refine Gr.alloc ?_ _ | refine Gr.grow ?_ _ | (refine Gr.trans ?_ (by assumption)))))).mono ?_); rintro e wA ⟨rfl, hgwA⟩; obtain ⟨hclwA, hfzwA, hszwA⟩ := gcell hgwA; (try simp [Nat.add_one_le_iff] at hszwA))) | (go_at_call 113; (with_reducible refine (C2.out _ ((by repeat (first | exact Gr.refl _ | refine Gr.setCell ?_ _ _ (by first | exact Nat.le_refl _ | (simp; omega) | (simp; done)) | refine Gr.grown ?_ _ _ | refine Gr.drewN ?_ _ | refine Gr.drew ?_ | refine Gr.alloc ?_ _ | refine Gr.grow ?_ _ | (refine Gr.trans ?_ (by assumption)))))).mono ?_); rintro e wB ⟨rfl, hgwB⟩; obtain ⟨hclwB, hfzwB, hszwB⟩ := gcell hgwB; (try simp [Nat.add_one_le_iff] at hszwB)))
        go_ret2
        exact ⟨rfl, (by repeat (first | exact Gr.refl _ | refine Gr.setCell ?_ _ _ (by first | exact Nat.le_refl _ | (simp; omega) | (simp; done)) | refine Gr.grown ?_ _ _ | refine Gr.drewN ?_ _ | refine Gr.drew ?_ | refine Gr.alloc ?_ _ | refine Gr.grow ?_ _ | (refine Gr.trans ?_ (by assumption))))⟩)
end Go.Proofs.YtegkbjpcgelomaaGreatDoor.Walks
end
/- The readings of a cycle in plain numbers. No program in sight. -/
section
namespace Go.Proofs.YtegkbjpcgelomaaGreatDoor.Math
open Go Go.RowKit Go.Proofs.YtegkbjpcgelomaaGreatDoor.Plain Go.Proofs.YtegkbjpcgelomaaGreatDoor.Walks

/-- As many of these numbers as are wanted. -/
def joinF (f : Int → Bool) (few : Int) : List Int → Int → Bool
  | [] => f
  | n :: L => if 0 < few then joinF (fun z => decide (z = n) || f z) (few - 1) L else joinF f few L
/-- What is read together in a cycle. -/
def planF (l : Bool) (p1 p2 p3 p5 : Int) : Int → Bool :=
  let f1 := if l = true then fun _ => false else joinF (joinF (fun _ => false) (25 - p1) [22]) (9 - p2) [27, 29, 32]
  let f2 := joinF f1 (44 - (if l = true then p1 + p2 else 34) - p3) [42, 39]
  if p5 = 1 then joinF f2 1 [51] else f2
/-- How many of the free ones lie in a part. -/
def cntP (y : Int) (F : List Int) (k : Int) : Int := ((F.filter fun n => prt y n == k).length : Int)
theorem cntP_nil (y k : Int) : cntP y [] k = 0 := rfl
theorem cntP_snoc (y : Int) (F : List Int) (n k : Int) : cntP y (F ++ [n]) k = cntP y F k + (if prt y n = k then 1 else 0) := by
  unfold cntP
  rw [List.filter_append, List.length_append]
  by_cases h : prt y n = k
  · simp [h]
  · have h' : (prt y n == k) = false := beq_eq_false_iff_ne.2 h
    simp [h, h']
theorem cntP_range (y : Int) (F : List Int) (k : Int) : 0 ≤ cntP y F k ∧ cntP y F k ≤ F.length := by
  unfold cntP
  have := List.length_filter_le (fun n => prt y n == k) F
  omega
def planY (y p : Int) : Int → Bool := planF (lp y) (cntP y (freeS y p) 1) (cntP y (freeS y p) 2) (cntP y (freeS y p) 3) (cntP y (freeS y p) 5)
/-- The next portion, behind some Sabbaths. -/
def nxt (P : Int → Bool) (F : List Int) (L : List Int) : Int := L.foldl (fun a n => if n ∈ F then a + (if P a = true then 2 else 1) else a) 1
theorem nxt_snoc (P : Int → Bool) (F L : List Int) (n : Int) : nxt P F (L ++ [n]) = if n ∈ F then nxt P F L + (if P (nxt P F L) = true then 2 else 1) else nxt P F L := by
  unfold nxt
  rw [List.foldl_append]
  rfl
theorem nxt_range (P : Int → Bool) (F L : List Int) : 1 ≤ nxt P F L ∧ nxt P F L ≤ 1 + 2 * (L.length : Int) := by
  unfold nxt
  suffices h : ∀ (L : List Int) (a : Int), a ≤ L.foldl (fun a n => if n ∈ F then a + (if P a = true then 2 else 1) else a) a ∧ L.foldl (fun a n => if n ∈ F then a + (if P a = true then 2 else 1) else a) a ≤ a + 2 * (L.length : Int) from h L 1
  intro L
  induction L with
  | nil => intro a; simp
  | cons n L ih =>
    intro a
    simp only [List.foldl_cons, List.length_cons]
    have := ih (if n ∈ F then a + (if P a = true then 2 else 1) else a)
    by_cases h : n ∈ F
    · rw [if_pos h] at this ⊢
      by_cases q : P a = true
      · rw [if_pos q] at this ⊢; omega
      · rw [if_neg q] at this ⊢; omega
    · rw [if_neg h] at this ⊢
      omega
/-- The reading of the i-th Sabbath: the first portion, how many, the day. -/
def rdE (P : Int → Bool) (F L : List Int) (i : Nat) : Nat → Int
  | 0 => if L.getD i 0 ∈ F then nxt P F (L.take i) else 0
  | 1 => if L.getD i 0 ∈ F then (if P (nxt P F (L.take i)) = true then 2 else 1) else 0
  | _ => L.getD i 0
end Go.Proofs.YtegkbjpcgelomaaGreatDoor.Math
end
