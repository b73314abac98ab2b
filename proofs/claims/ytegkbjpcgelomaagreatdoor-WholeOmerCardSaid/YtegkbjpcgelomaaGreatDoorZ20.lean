/- Walks of package torah: the plan of a cycle; the reader; is a number in a list. -/
import Derived.Test.YtegkbjpcgelomaaGreatDoorZ19
import Derived.Test.YtegkbjpcgelomaaGreatDoorZ14
import Derived.Shelf.RegionOpenPlain
set_option linter.unusedVariables false
set_option linter.unusedSimpArgs false
section
namespace Go.Proofs.YtegkbjpcgelomaaGreatDoor.Walks
open Go Go.RowKit Go.Sort Go.Proofs.YtegkbjpcgelomaaGreatDoor.Base Go.Proofs.YtegkbjpcgelomaaGreatDoor.Plain Go.Proofs.YtegkbjpcgelomaaGreatDoor.Math

theorem und_plan : Tryq.prog.underlying 167 = some (.map 3 4) := by kernel_rfl
theorem Ints.kept {w w' : World} {row : Option Nat} {g : Nat} {L : List Int} (h : Ints w g L) (k : w.grownBy w' row) (hne : some g ≠ row) : Ints w' g L := by
  have hb := k.block g h.lt hne
  exact ⟨Nat.lt_of_lt_of_le h.lt k.size, fun i e he => by rw [World.cell?_of_block hb]; exact h.c i e he⟩
/-- What comes of join: the map alone has changed. -/
def JoinE (w : World) (b N : Nat) (f : Int → Bool) (e : Ending) (w' : World) : Prop :=
  e = .returned (.tuple #[]) ∧ MapB w' b N f ∧ w.grownBy w' (some b) ∧ ∀ W, Gr W w → W.heap.size ≤ b → Gr W w'
theorem _root_.Go.World.grownBy.trans' {a b c : World} {row : Option Nat} (h : a.grownBy b row) (k : b.grownBy c row) : a.grownBy c row :=
  ⟨k.os.trans h.os, k.tape.trans h.tape, k.output.trans h.output, Nat.le_trans h.size k.size, fun i hi hne => (k.block i (Nat.lt_of_lt_of_le hi h.size) hne).trans (h.block i hi hne)⟩
set_option maxHeartbeats 4000000 in
theorem join_p (b N g cap : Nat) (few : Int) (f : Int → Bool) (L : List Int) (w : World) (h0 : -1000000 ≤ few) (h1 : few ≤ 1000000) (hN : N + L.length ≤ 1000) (hL : ∀ n ∈ L, 0 ≤ n ∧ n ≤ 1000) (hM : MapB w b N f) (hI : Ints w g L) (hne : some g ≠ some b) :
    Calls Tryq.prog 136 #[.map (some b), .int .i64 few, .slice (some ⟨g, 0, none⟩) L.length cap] w (JoinE w b (N + L.length) (joinF f few L)) := by
  have hL := Lib.hid hL
  go_enter Tryq.func136, Tryq.ntmps136
  go_wp2
  go_loopg [1, 10] L.length (fun kx s1 s10 wr => ∃ (i N' : Nat) (few' : Int) (f' : Int → Bool), i ≤ L.length ∧ L.length - i ≤ kx ∧ s10 = .int .i64 (i : Int) ∧ s1 = .int .i64 few' ∧ -1000000 ≤ few' ∧ few' ≤ 1000000 ∧ N' ≤ N + i ∧ joinF f few L = joinF f' few' (L.drop i) ∧ MapB wr b N' f' ∧ w.grownBy wr (some b) ∧ ∀ W, Gr W w → W.heap.size ≤ b → Gr W wr)
  case atStart => exact ⟨0, N, few, f, by omega, by omega, rfl, rfl, h0, h1, by omega, rfl, hM, .refl _ _, fun _ h _ => h⟩
  case round =>
    obtain ⟨i, N', few', f', hi, hm, rfl, rfl, hf0, hf1, hN', hJ, hMr, hk, hG⟩ := hrel
    by_cases e : i < L.length
    · have e' : (i : Int) < (L.length : Int) := by omega
      obtain ⟨n, hn⟩ : ∃ n, L[i]? = some n := ⟨_, List.getElem?_eq_getElem e⟩
      have k0 := (hI.kept hk hne).c i n hn
      have hd : L.drop i = n :: L.drop (i + 1) := by
        rw [List.drop_eq_getElem_cons e]
        congr 1
        exact (List.getElem?_eq_some_iff.1 hn).2
      rw [hd] at hJ
      obtain ⟨n0, n1⟩ := hL.out n (List.mem_of_getElem? hn)
      have hwf : (Lit.int .i64 n).wf = true := wf_small (by omega) (by omega)
      have hNl : N' < maxLen := by simp only [maxLen]; omega
      by_cases c : 0 < few'
      · rw [joinF, if_pos c] at hJ
        go_wp2_with (first | (at_mapUpdate; refine wpList_mapUpdate_b _ rfl _ _ _ _ rfl und_plan b N' _ rfl hMr hNl n rfl hwf rfl ?_; intro wX hMX kX GX_; have hkX := hk.trans' kX; have hGX : ∀ W, Gr W w → W.heap.size ≤ b → Gr W wX := fun W h1 h2 => GX_ W (hG W h1 h2) h2))
        go_roundg (L.length - (i + 1))
        case measure => omega
        case rel => exact ⟨i + 1, N' + 1, few' - 1, _, by omega, Nat.le_refl _, by go_num, by go_num, by omega, by omega, by omega, hJ, hMX, hkX, hGX⟩
      · rw [joinF, if_neg c] at hJ
        go_wp2
        go_roundg (L.length - (i + 1))
        case measure => omega
        case rel => exact ⟨i + 1, N', few', _, by omega, Nat.le_refl _, by go_num, rfl, by omega, by omega, by omega, hJ, hMr, hk, hG⟩
    · obtain rfl : i = L.length := by omega
      rw [List.drop_of_length_le (Nat.le_refl _)] at hJ
      go_wp2
      go_end0
      exact ⟨rfl, by rw [hJ]; exact hMr.mono (by omega), hk, hG⟩

/-- What comes of the plan. -/
def PlanE (w : World) (f : Int → Bool) (e : Ending) (w' : World) : Prop := ∃ b, e = .returned (.map (some b)) ∧ MapB w' b 1000 f ∧ Gr w w'
/-- Where the plan stands: the box of the parts, the map behind it. -/
structure PSt (w : World) (p0 p1 p2 p3 p4 p5 : Int) (cur : World) (N : Nat) (f : Int → Bool) : Prop where
  hb : cur.heap[w.heap.size]? = some (Obj.cells #[.int .i64 p0, .int .i64 p1, .int .i64 p2, .int .i64 p3, .int .i64 p4, .int .i64 p5] 163 (0, 0))
  m : MapB cur (w.heap.size + 1) N f
  g : Gr w cur
theorem PSt.cell {w cur : World} {p0 p1 p2 p3 p4 p5 : Int} {N : Nat} {f : Int → Bool} (h : PSt w p0 p1 p2 p3 p4 p5 cur N f) :
    cur.cell? ⟨w.heap.size, 1, none⟩ = some (.int .i64 p1) ∧ cur.cell? ⟨w.heap.size, 2, none⟩ = some (.int .i64 p2) ∧ cur.cell? ⟨w.heap.size, 3, none⟩ = some (.int .i64 p3) ∧ cur.cell? ⟨w.heap.size, 5, none⟩ = some (.int .i64 p5) :=
  ⟨by rw [Lib.cell_of_heap h.hb]; rfl, by rw [Lib.cell_of_heap h.hb]; rfl, by rw [Lib.cell_of_heap h.hb]; rfl, by rw [Lib.cell_of_heap h.hb]; rfl⟩
theorem PSt.join {w cur : World} {p0 p1 p2 p3 p4 p5 : Int} {N : Nat} {f : Int → Bool} (h : PSt w p0 p1 p2 p3 p4 p5 cur N f) (L : List Int) (A : Array Value) (hA : A = (cei L).toArray) (n : Nat) (hn : n = L.length) (gs : Nat) (hgs : gs = cur.heap.size) (few : Int) (h0 : -1000000 ≤ few) (h1 : few ≤ 1000000) (hN : N + L.length ≤ 1000) (hL : ∀ n ∈ L, 0 ≤ n ∧ n ≤ 1000) :
    Calls Tryq.prog 136 #[.map (some (w.heap.size + 1)), .int .i64 few, .slice (some ⟨gs, 0, none⟩) n n] (cur.alloc (.cells A 3)) fun e w' => e = .returned (.tuple #[]) ∧ PSt w p0 p1 p2 p3 p4 p5 w' (N + L.length) (joinF f few L) := by
  subst hA hn hgs
  have hl := h.m.lt
  have hI : Ints (cur.alloc (.cells (cei L).toArray 3)) cur.heap.size L := by
    refine ⟨by simp, fun i e he => ?_⟩
    rw [Lib.cell_of_heap (heap_alloc_new cur _)]
    simp [cei, he]
  have g1 := (Gr.refl cur).alloc (.cells (cei L).toArray 3)
  refine (join_p (w.heap.size + 1) N cur.heap.size L.length few f L _ h0 h1 hN hL (h.m.gr g1) hI (by intro q; injection q with q; omega)).mono ?_
  rintro e w' ⟨rfl, hM, hk, hG⟩
  refine ⟨rfl, ?_, hM, hG w (h.g.trans g1) (by omega)⟩
  have hlt : w.heap.size < cur.heap.size := by omega
  rw [hk.block w.heap.size (by simp; omega) (by simp), Lib.alloc_old cur _ _ hlt]
  exact h.hb
set_option maxRecDepth 20000 in
set_option maxHeartbeats 8000000 in
theorem tof_c (l : Bool) (p0 p1 p2 p3 p4 p5 : Int) (w : World) (h1 : 0 ≤ p1 ∧ p1 ≤ 1000) (h2 : 0 ≤ p2 ∧ p2 ≤ 1000) (h3 : 0 ≤ p3 ∧ p3 ≤ 1000) (h5 : 0 ≤ p5 ∧ p5 ≤ 1000) :
    Calls Tryq.prog 118 #[.bool l, .agg #[.int .i64 p0, .int .i64 p1, .int .i64 p2, .int .i64 p3, .int .i64 p4, .int .i64 p5]] w (PlanE w (planF l p1 p2 p3 p5)) := by
  have hmm := @run_makeMap Tryq.prog
  obtain ⟨a10, a11⟩ := h1
  obtain ⟨a20, a21⟩ := h2
  obtain ⟨a30, a31⟩ := h3
  obtain ⟨a50, a51⟩ := h5
  have hS : PSt w p0 p1 p2 p3 p4 p5 ((w.alloc (Obj.cells #[.int .i64 p0, .int .i64 p1, .int .i64 p2, .int .i64 p3, .int .i64 p4, .int .i64 p5] 163)).alloc (Obj.map #[] 0)) 0 fun _ => false := by
    refine ⟨?_, ?_, ((Gr.refl w).alloc _).alloc _⟩
    · rw [Lib.alloc_old _ _ _ (by simp)]
      exact heap_alloc_new w _
    · have := MapB.made (w.alloc (Obj.cells #[.int .i64 p0, .int .i64 p1, .int .i64 p2, .int .i64 p3, .int .i64 p4, .int .i64 p5] 163))
      simpa using this
  cases l
  · by_cases c5 : p5 = 1
    · subst c5
      go_enter Tryq.func118, Tryq.ntmps118
      go_wp2_with (first | (go_at_call 136; fail))
      go_at_call 136
      refine (hS.join [22] _ rfl 1 rfl _ (by simp) _ (by omega) (by omega) (by decide) (by decide)).mono ?_
      rintro e wX ⟨rfl, hS2⟩
      clear hS; have hS := hS2; clear hS2; obtain ⟨c1, c2, c3, c5⟩ := hS.cell
      go_wp2_with (first | (go_at_call 136; fail))
      go_at_call 136
      refine (hS.join [27, 29, 32] _ rfl 3 rfl _ (by simp) _ (by omega) (by omega) (by decide) (by decide)).mono ?_
      rintro e wX ⟨rfl, hS2⟩
      clear hS; have hS := hS2; clear hS2; obtain ⟨c1, c2, c3, c5⟩ := hS.cell
      go_wp2_with (first | (go_at_call 136; fail))
      go_at_call 136
      refine (hS.join [42, 39] _ rfl 2 rfl _ (by simp) _ (by omega) (by omega) (by decide) (by decide)).mono ?_
      rintro e wX ⟨rfl, hS2⟩
      clear hS; have hS := hS2; clear hS2; obtain ⟨c1, c2, c3, c5⟩ := hS.cell
      go_wp2_with (first | (go_at_call 136; fail))
      go_at_call 136
      refine (hS.join [51] _ rfl 1 rfl _ (by simp) _ (by omega) (by omega) (by decide) (by decide)).mono ?_
      rintro e wX ⟨rfl, hS2⟩
      clear hS; have hS := hS2; clear hS2; obtain ⟨c1, c2, c3, c5⟩ := hS.cell
      go_wp2
      go_ret
      exact ⟨_, rfl, MapB.congr (MapB.mono hS.m (M := 1000) (by decide)) (fun z => by simp [planF]), hS.g⟩
    · have b5 : (p5 == 1) = false := beq_eq_false_iff_ne.2 c5
      have q5 := c5
      go_enter Tryq.func118, Tryq.ntmps118
      go_wp2_with (first | (go_at_call 136; fail))
      go_at_call 136
      refine (hS.join [22] _ rfl 1 rfl _ (by simp) _ (by omega) (by omega) (by decide) (by decide)).mono ?_
      rintro e wX ⟨rfl, hS2⟩
      clear hS; have hS := hS2; clear hS2; obtain ⟨c1, c2, c3, c5⟩ := hS.cell
      go_wp2_with (first | (go_at_call 136; fail))
      go_at_call 136
      refine (hS.join [27, 29, 32] _ rfl 3 rfl _ (by simp) _ (by omega) (by omega) (by decide) (by decide)).mono ?_
      rintro e wX ⟨rfl, hS2⟩
      clear hS; have hS := hS2; clear hS2; obtain ⟨c1, c2, c3, c5⟩ := hS.cell
      go_wp2_with (first | (go_at_call 136; fail))
      go_at_call 136
      refine (hS.join [42, 39] _ rfl 2 rfl _ (by simp) _ (by omega) (by omega) (by decide) (by decide)).mono ?_
      rintro e wX ⟨rfl, hS2⟩
      clear hS; have hS := hS2; clear hS2; obtain ⟨c1, c2, c3, c5⟩ := hS.cell
      go_wp2
      go_ret
      exact ⟨_, rfl, MapB.congr (MapB.mono hS.m (M := 1000) (by decide)) (fun z => by simp [planF, q5]), hS.g⟩
  · by_cases c5 : p5 = 1
    · subst c5
      go_enter Tryq.func118, Tryq.ntmps118
      go_wp2_with (first | (go_at_call 136; fail))
      go_at_call 136
      refine (hS.join [42, 39] _ rfl 2 rfl _ (by simp) _ (by omega) (by omega) (by decide) (by decide)).mono ?_
      rintro e wX ⟨rfl, hS2⟩
      clear hS; have hS := hS2; clear hS2; obtain ⟨c1, c2, c3, c5⟩ := hS.cell
      go_wp2_with (first | (go_at_call 136; fail))
      go_at_call 136
      refine (hS.join [51] _ rfl 1 rfl _ (by simp) _ (by omega) (by omega) (by decide) (by decide)).mono ?_
      rintro e wX ⟨rfl, hS2⟩
      clear hS; have hS := hS2; clear hS2; obtain ⟨c1, c2, c3, c5⟩ := hS.cell
      go_wp2
      go_ret
      exact ⟨_, rfl, MapB.congr (MapB.mono hS.m (M := 1000) (by decide)) (fun z => by simp [planF]), hS.g⟩
    · have b5 : (p5 == 1) = false := beq_eq_false_iff_ne.2 c5
      have q5 := c5
      go_enter Tryq.func118, Tryq.ntmps118
      go_wp2_with (first | (go_at_call 136; fail))
      go_at_call 136
      refine (hS.join [42, 39] _ rfl 2 rfl _ (by simp) _ (by omega) (by omega) (by decide) (by decide)).mono ?_
      rintro e wX ⟨rfl, hS2⟩
      clear hS; have hS := hS2; clear hS2; obtain ⟨c1, c2, c3, c5⟩ := hS.cell
      go_wp2
      go_ret
      exact ⟨_, rfl, MapB.congr (MapB.mono hS.m (M := 1000) (by decide)) (fun z => by simp [planF, q5]), hS.g⟩
end Go.Proofs.YtegkbjpcgelomaaGreatDoor.Walks
end
/- Walks of package torah: the reader; is a number in a list. -/
section
namespace Go.Proofs.YtegkbjpcgelomaaGreatDoor.Walks
open Go Go.RowKit Go.Sort Go.Proofs.YtegkbjpcgelomaaGreatDoor.Base Go.Proofs.YtegkbjpcgelomaaGreatDoor.Plain Go.Proofs.YtegkbjpcgelomaaGreatDoor.Math

set_option maxHeartbeats 4000000 in
theorem reader_c (b : Nat) (w : World) : Calls Tryq.prog 117 #[.map (some b)] w fun e w' => e = .returned (.func (.func 135) #[] #[.pointer (some ⟨w.heap.size + 1, 0, none⟩), .pointer (some ⟨w.heap.size, 0, none⟩)]) ∧ w' = (w.alloc (.cells #[.map (some b)] 167)).alloc (.cells #[.int .i64 1] 3) := by
  go_enter Tryq.func117, Tryq.ntmps117
  go_wp2
  go_ret
  exact ⟨rfl, by simp [go_sem]⟩
/-- What the reader's closure gives. -/
def Rd1 (w : World) (q : Nat) (a m : Int) (e : Ending) (w' : World) : Prop := e = .returned (.tuple #[.int .i64 a, .int .i64 m]) ∧ w' = w.setCell ⟨q, 0, none⟩ (.int .i64 (a + m))
set_option maxHeartbeats 4000000 in
theorem reader1_c (q r b N : Nat) (P : Int → Bool) (a : Int) (w : World) (h0 : 0 ≤ a) (h1 : a ≤ 100000) (hq : w.cell? ⟨q, 0, none⟩ = some (.int .i64 a)) (hf : w.frozen? ⟨q, 0, none⟩ = false) (hr : w.cell? ⟨r, 0, none⟩ = some (.map (some b))) (hM : MapB w b N P) :
    Calls Tryq.prog 135 (#[] ++ #[.pointer (some ⟨q, 0, none⟩), .pointer (some ⟨r, 0, none⟩)]) w (Rd1 w q a (if P a = true then 2 else 1)) := by
  have hwf : (Lit.int .i64 a).wf = true := wf_small (by omega) (by omega)
  by_cases c : P a = true
  · rw [if_pos c]
    go_enter Tryq.func135, Tryq.ntmps135
    go_wp2_with (first | (refine wpList_lookup_b _ rfl _ _ _ rfl und_plan b _ _ rfl hM a rfl hwf ?_; rw [c]))
    go_ret2
    exact ⟨rfl, rfl⟩
  · rw [if_neg c]
    have c : P a = false := by simpa using c
    go_enter Tryq.func135, Tryq.ntmps135
    go_wp2_with (first | (refine wpList_lookup_b _ rfl _ _ _ rfl und_plan b _ _ rfl hM a rfl hwf ?_; rw [c]))
    go_ret2
    exact ⟨rfl, rfl⟩
def IdxE (w : World) (L : List Int) (x : Int) (e : Ending) (w' : World) : Prop := ∃ r : Int, e = .returned (.int .i64 r) ∧ -1 ≤ r ∧ r ≤ 1000000 ∧ decide (0 ≤ r) = decide (x ∈ L) ∧ w' = w
set_option maxHeartbeats 4000000 in
theorem index_c (v : Value) (L : List Int) (x : Int) (w : World) (hl : L.length ≤ 100000) (hS : SlI w v L) : Calls Tryq.prog 137 #[v, .int .i64 x] w (IdxE w L x) := by
  rcases hS with ⟨rfl, ao, cap, rfl⟩ | ⟨g, cap, rfl, hp, hI⟩
  · go_enter Tryq.func137, Tryq.ntmps137
    go_wp2
    refine wp_loop_rounds 1 ?_
    repeat any_goals (rw [rounds_succ]; go_wp2)
    go_ret
    exact ⟨-1, rfl, by omega, by omega, by simp, rfl⟩
  · go_enter Tryq.func137, Tryq.ntmps137
    go_wp2
    go_loopg [8] L.length (fun kx s8 wr => ∃ i : Nat, i ≤ L.length ∧ L.length - i ≤ kx ∧ s8 = .int .i64 (i : Int) ∧ x ∉ L.take i ∧ wr = w)
    case atStart => exact ⟨0, by omega, by omega, rfl, by simp, rfl⟩
    case round =>
      obtain ⟨i, hi, hm, rfl, hx, hwr⟩ := hrel
      subst hwr
      by_cases e : i < L.length
      · have e' : (i : Int) < (L.length : Int) := by omega
        obtain ⟨n, hn⟩ : ∃ n, L[i]? = some n := ⟨_, List.getElem?_eq_getElem e⟩
        have k0 := hI.c i n hn
        by_cases c : x = n
        · have hmem : x ∈ L := by rw [c]; exact List.mem_of_getElem? hn
          subst c
          go_wp2
          go_ret
          exact ⟨i, rfl, by omega, by omega, by simp [hmem], rfl⟩
        · have b : (x == n) = false := beq_eq_false_iff_ne.2 c
          go_wp2
          go_roundg (L.length - (i + 1))
          case measure => omega
          case rel =>
            refine ⟨i + 1, by omega, Nat.le_refl _, by go_num, ?_, rfl⟩
            rw [List.take_add_one, hn]
            simp [hx, c]
      · obtain rfl : i = L.length := by omega
        rw [List.take_of_length_le (Nat.le_refl _)] at hx
        go_wp2
        go_ret
        exact ⟨-1, rfl, by omega, by omega, by simp [hx], rfl⟩
set_option maxHeartbeats 4000000 in
theorem contains_c (v : Value) (L : List Int) (x : Int) (w : World) (hl : L.length ≤ 100000) (hS : SlI w v L) : Calls Tryq.prog 119 #[v, .int .i64 x] w fun e w' => e = .returned (.bool (decide (x ∈ L))) ∧ w' = w := by
  have C1 := Lib.hid (index_c v L x w hl hS)
  go_enter Tryq.func119, Tryq.ntmps119
  go_wp2_with (first | (go_at_call 137; refine (C1.out).mono ?_; rintro e w1 ⟨r, rfl, r0, r1, hr, rfl⟩))
  go_ret
  exact ⟨by rw [← hr]; rfl, rfl⟩
end Go.Proofs.YtegkbjpcgelomaaGreatDoor.Walks
end
/- Walks of package torah: the readings of a cycle. -/
section
namespace Go.Proofs.YtegkbjpcgelomaaGreatDoor.Walks
open Go Go.RowKit Go.Sort Go.Proofs.YtegkbjpcgelomaaGreatDoor.Base Go.Proofs.YtegkbjpcgelomaaGreatDoor.Plain Go.Proofs.YtegkbjpcgelomaaGreatDoor.Math

theorem SlI.open {w : World} {v : Value} {L : List Int} (h : SlI w v L) : ∃ ao cap, v = .slice ao L.length cap ∧ (0 < L.length → ∃ g, ao = some ⟨g, 0, none⟩ ∧ Ints w g L) := by
  rcases h with ⟨rfl, ao, cap, rfl⟩ | ⟨g, cap, rfl, hp, hI⟩
  · exact ⟨ao, cap, rfl, fun h => absurd h (by simp)⟩
  · exact ⟨_, cap, rfl, fun _ => ⟨g, rfl, hI⟩⟩
/-- A slice of readings, its fields as numbers. -/
structure RB (w : World) (g n : Nat) (f : Nat → Nat → Int) : Prop where
  hb : ∃ cs, w.heap[g]? = some (.cells cs 72 (0, 0)) ∧ cs.size = n * 3 ∧ ∀ i o, i < n → o < 3 → cs[i * 3 + o]? = some (.int .i64 (f i o))
theorem RB.lt {w : World} {g n : Nat} {f : Nat → Nat → Int} (h : RB w g n f) : g < w.heap.size := by
  obtain ⟨cs, hb, -⟩ := h.hb
  exact (Array.getElem?_eq_some_iff.1 hb).1
theorem RB.gr {w w' : World} {g n : Nat} {f : Nat → Nat → Int} (h : RB w g n f) (k : Gr w w') : RB w' g n f := by
  have hl := h.lt
  obtain ⟨cs, hb, r⟩ := h.hb
  exact ⟨cs, (k.heap hl).trans hb, r⟩
theorem RB.cell {w : World} {g n : Nat} {f : Nat → Nat → Int} (h : RB w g n f) {i o : Nat} (hi : i < n) (ho : o < 3) : w.cell? ⟨g, i * 3 + o, none⟩ = some (.int .i64 (f i o)) := by
  obtain ⟨cs, hb, -, r⟩ := h.hb
  rw [Lib.cell_of_heap hb]
  exact r i o hi ho
theorem RB.thaw {w : World} {g n : Nat} {f : Nat → Nat → Int} (h : RB w g n f) (k : Nat) : w.frozen? ⟨g, k, none⟩ = false := by
  obtain ⟨cs, hb, -⟩ := h.hb
  exact Lib.frozen_of_heap hb k
theorem RB.congr {w : World} {g n : Nat} {f f' : Nat → Nat → Int} (h : RB w g n f) (e : ∀ i o, i < n → o < 3 → f i o = f' i o) : RB w g n f' := by
  obtain ⟨cs, hb, hs, r⟩ := h.hb
  exact ⟨cs, hb, hs, fun i o hi ho => by rw [← e i o hi ho]; exact r i o hi ho⟩
theorem heap_set_other (w : World) (p : Addr) (v : Value) {k : Nat} (h : p.block ≠ k) : (w.setCell p v).heap[k]? = w.heap[k]? := by
  unfold World.setCell
  simp [Array.getElem?_modify, h]
theorem heap_set_same (w : World) (g o : Nat) (v : Value) {cs : Array Value} {e : TypeId} {fz : Nat × Nat} (h : w.heap[g]? = some (.cells cs e fz)) : (w.setCell ⟨g, o, none⟩ v).heap[g]? = some (.cells (cs.setIfInBounds o v) e fz) := by
  unfold World.setCell
  simp [Array.getElem?_modify, h]
theorem RB.set {w : World} {g n : Nat} {f : Nat → Nat → Int} (h : RB w g n f) {i o : Nat} (hi : i < n) (ho : o < 3) (v : Int) : RB (w.setCell ⟨g, i * 3 + o, none⟩ (.int .i64 v)) g n fun i' o' => if i' = i ∧ o' = o then v else f i' o' := by
  obtain ⟨cs, hb, hs, r⟩ := h.hb
  refine ⟨_, heap_set_same w g _ _ hb, by simpa using hs, fun i' o' hi' ho' => ?_⟩
  rw [Array.getElem?_setIfInBounds]
  by_cases e : i' = i ∧ o' = o
  · obtain ⟨rfl, rfl⟩ := e
    have : i' * 3 + o' < cs.size := by rw [hs]; omega
    simp [this]
  · have : ¬ i * 3 + o = i' * 3 + o' := by omega
    rw [if_neg this, if_neg e]
    exact r i' o' hi' ho'
theorem RB.other {w : World} {g n : Nat} {f : Nat → Nat → Int} (h : RB w g n f) (p : Addr) (v : Value) (hp : p.block ≠ g) : RB (w.setCell p v) g n f := by
  obtain ⟨cs, hb, r⟩ := h.hb
  exact ⟨cs, by rw [heap_set_other w p v hp]; exact hb, r⟩
theorem ninfo_rd : (Tryq.prog.info? 72).map (fun i => (i.zero, i.size, i.bytes)) = some (some (.agg #[.int .i64 0, .int .i64 0, .int .i64 0]), 3, 24) := by kernel_rfl
theorem nund_rds : Tryq.prog.underlying 128 = some (.slice 72) := by kernel_rfl
theorem make_rd (n : Nat) (hn : n ≤ 100000) (w : World) : (Instr.makeSlice 128 (.int .i64 (n : Int)) (.int .i64 (n : Int))).run Tryq.prog w = .ok (.slice (some ⟨w.heap.size, 0, none⟩) n n) (w.alloc (.cells (madeCells #[.int .i64 0, .int .i64 0, .int .i64 0] (n * 3)) 72)) := by
  obtain ⟨i, h2, h3, h4, h5⟩ := info_parts ninfo_rd
  have h := run_make (P := Tryq.prog) w 128 72 i _ nund_rds h2 h3 .i64 .i64 n n (by omega) (by omega) (by rw [h5]; omega) (by omega)
  rw [h4, show (Value.agg #[.int .i64 0, .int .i64 0, .int .i64 0]).cells = #[.int .i64 0, .int .i64 0, .int .i64 0] from rfl] at h
  simpa using h
theorem RB.made (n : Nat) (w : World) : RB (w.alloc (.cells (madeCells #[.int .i64 0, .int .i64 0, .int .i64 0] (n * 3)) 72)) w.heap.size n fun _ _ => 0 := by
  refine ⟨_, heap_alloc_new w _, size_madeCells _ _, fun i o hi ho => ?_⟩
  unfold madeCells
  have h : i * 3 + o < n * 3 := by omega
  have e : (i * 3 + o) % 3 = o := by omega
  simp only [Array.getElem?_map, Array.getElem?_range, h, if_true, Option.map_some]
  show some ((#[Value.int .i64 0, .int .i64 0, .int .i64 0] : Array Value)[(i * 3 + o) % 3]!) = _
  rw [e]
  match o, ho with
  | 0, _ => rfl
  | 1, _ => rfl
  | 2, _ => rfl
/-- The box of the parts. -/
structure PB (W : World) (y : Int) (F : List Int) (w : World) : Prop where
  g : Gr W w
  hb : w.heap[W.heap.size]? = some (.cells #[.int .i64 (cntP y F 0), .int .i64 (cntP y F 1), .int .i64 (cntP y F 2), .int .i64 (cntP y F 3), .int .i64 (cntP y F 4), .int .i64 (cntP y F 5)] 163 (0, 0))
/-- The readings so far. -/
structure TS (W : World) (P : Int → Bool) (F L : List Int) (b : Nat) (w : World) (i : Nat) : Prop where
  g : Gr W w
  hr : w.heap[W.heap.size]? = some (.cells #[.map (some b)] 167 (0, 0))
  hq : w.heap[W.heap.size + 1]? = some (.cells #[.int .i64 (nxt P F (L.take i))] 3 (0, 0))
  hR : RB w (W.heap.size + 2) L.length fun i' o => if i' < i then rdE P F L i' o else 0
theorem rd_take {P : Int → Bool} {F L : List Int} {i : Nat} {n : Int} (hn : L[i]? = some n) : nxt P F (L.take (i + 1)) = if n ∈ F then nxt P F (L.take i) + (if P (nxt P F (L.take i)) = true then 2 else 1) else nxt P F (L.take i) := by
  rw [List.take_add_one, hn]
  exact nxt_snoc P F (L.take i) n
theorem TS.no {W : World} {P : Int → Bool} {F L : List Int} {b : Nat} {w : World} {i : Nat} {n : Int} (h : TS W P F L b w i) (hi : i < L.length) (hn : L[i]? = some n) (hF : n ∉ F) : TS W P F L b (w.setCell ⟨W.heap.size + 2, i * 3 + 2, none⟩ (.int .i64 n)) (i + 1) := by
  have hg : L.getD i 0 = n := by simp [List.getD, hn]
  refine ⟨h.g.setCell ⟨W.heap.size + 2, i * 3 + 2, none⟩ _ (by show W.heap.size ≤ W.heap.size + 2; omega), ?_, ?_, ?_⟩
  · rw [heap_set_other _ _ _ (by show W.heap.size + 2 ≠ _; omega)]; exact h.hr
  · rw [heap_set_other _ _ _ (by show W.heap.size + 2 ≠ _; omega), rd_take hn, if_neg hF]; exact h.hq
  · refine (h.hR.set hi (by decide) n).congr fun i' o hi' ho => ?_
    by_cases e : i' = i
    · subst e
      match o, ho with
      | 0, _ => simp [rdE, hn, hF]
      | 1, _ => simp [rdE, hn, hF]
      | 2, _ => simp [rdE, hn]
    · have : (i' < i + 1) = (i' < i) := by apply propext; omega
      simp [e, this]
theorem TS.yes {W : World} {P : Int → Bool} {F L : List Int} {b : Nat} {w : World} {i : Nat} {n a m : Int} (h : TS W P F L b w i) (hi : i < L.length) (hn : L[i]? = some n) (hF : n ∈ F) (ha : nxt P F (L.take i) = a) (hm : (if P a = true then 2 else 1) = m) :
    TS W P F L b ((((w.setCell ⟨W.heap.size + 2, i * 3 + 2, none⟩ (.int .i64 n)).setCell ⟨W.heap.size + 1, 0, none⟩ (.int .i64 (a + m))).setCell ⟨W.heap.size + 2, i * 3, none⟩ (.int .i64 a)).setCell ⟨W.heap.size + 2, i * 3 + 1, none⟩ (.int .i64 m)) (i + 1) := by
  have hg : L.getD i 0 = n := by simp [List.getD, hn]
  have e2 : ∀ o v (w : World), Gr W w → Gr W (w.setCell ⟨W.heap.size + 2, o, none⟩ v) := fun o v w hw => hw.setCell ⟨W.heap.size + 2, o, none⟩ v (by show W.heap.size ≤ W.heap.size + 2; omega)
  have e1 : ∀ v (w : World), Gr W w → Gr W (w.setCell ⟨W.heap.size + 1, 0, none⟩ v) := fun v w hw => hw.setCell ⟨W.heap.size + 1, 0, none⟩ v (by show W.heap.size ≤ W.heap.size + 1; omega)
  refine ⟨e2 _ _ _ (e2 _ _ _ (e1 _ _ (e2 _ _ _ h.g))), ?_, ?_, ?_⟩
  · rw [heap_set_other _ _ _ (by show W.heap.size + 2 ≠ _; omega), heap_set_other _ _ _ (by show W.heap.size + 2 ≠ _; omega), heap_set_other _ _ _ (by show W.heap.size + 1 ≠ _; omega), heap_set_other _ _ _ (by show W.heap.size + 2 ≠ _; omega)]
    exact h.hr
  · rw [heap_set_other _ _ _ (by show W.heap.size + 2 ≠ _; omega), heap_set_other _ _ _ (by show W.heap.size + 2 ≠ _; omega)]
    have h1 : (w.setCell ⟨W.heap.size + 2, i * 3 + 2, none⟩ (.int .i64 n)).heap[W.heap.size + 1]? = some (.cells #[.int .i64 (nxt P F (L.take i))] 3 (0, 0)) := by rw [heap_set_other _ _ _ (by show W.heap.size + 2 ≠ _; omega)]; exact h.hq
    rw [heap_set_same _ _ _ _ h1, rd_take hn, if_pos hF, ha, hm]
    rfl
  · refine ((((h.hR.set hi (by decide) n).other ⟨W.heap.size + 1, 0, none⟩ _ (by show W.heap.size + 1 ≠ _; omega)).set (o := 0) hi (by decide) a).set (o := 1) hi (by decide) m).congr fun i' o hi' ho => ?_
    by_cases e : i' = i
    · subst e
      match o, ho with
      | 0, _ => simp [rdE, hn, hF, ha]
      | 1, _ => simp [rdE, hn, hF, ha, hm]
      | 2, _ => simp [rdE, hn]
    · have : (i' < i + 1) = (i' < i) := by apply propext; omega
      simp [e, this]
/-- What comes of Cycle. -/
def TCyc (w : World) (y p : Int) (e : Ending) (w' : World) : Prop :=
  ∃ g, e = .returned (.tuple #[.slice (some ⟨g, 0, none⟩) (allS y p).length (allS y p).length, .int .i64 0]) ∧ RB w' g (allS y p).length (rdE (planY y p) (freeS y p) (allS y p)) ∧ Gr w w'
set_option maxRecDepth 20000 in
set_option maxHeartbeats 8000000 in
theorem tcycle_c (y p : Int) (w : World) (G : GT w) (h0 : 1 ≤ y) (h1 : y ≤ 9998) (hp : p = 0 ∨ p = 1) : Calls Tryq.prog 80 #[.int .i64 y, .int .i64 p] w (TCyc w y p) := by
  have C1 := Lib.hid fun W (hW : Gr w W) => all_in y p W (G.gr hW) h0 h1 hp
  have C2 := Lib.hid fun W (hW : Gr w W) => free_c y p W (G.gr hW) h0 h1 hp
  have C3 := Lib.hid fun n W (hW : Gr w W) => part_c y n W (G.gr hW) h0 h1
  have C4 := Lib.hid fun W => leap_in y W (by omega) (by omega)
  have ha := allS_pos h0 h1 hp
  have hFl : (freeS y p).length ≤ 60 := Nat.le_trans (List.length_filter_le _ _) ha.2
  have hpl : planY y p = planF (lp y) (cntP y (freeS y p) 1) (cntP y (freeS y p) 2) (cntP y (freeS y p) 3) (cntP y (freeS y p) 5) := rfl
  have hpr := fun n => prt_range y n
  unfold TCyc
  rw [hpl]
  clear hpl
  obtain ⟨L, hL⟩ : ∃ L, allS y p = L := ⟨_, rfl⟩
  obtain ⟨F, hF⟩ : ∃ F, freeS y p = F := ⟨_, rfl⟩
  rw [hL] at C1 ha ⊢
  rw [hF] at C2 hFl ⊢
  obtain ⟨a0, a1⟩ := ha
  obtain ⟨P, hP⟩ : ∃ P, planF (lp y) (cntP y F 1) (cntP y F 2) (cntP y F 3) (cntP y F 5) = P := ⟨_, rfl⟩
  rw [hP]
  have hP := Lib.hid hP
  clear hL hF hp G
  have hpr := Lib.hid hpr
  go_enter Tryq.func80, Tryq.ntmps80
  go_wp2_with (first | (go_at_call 114; refine (C1.out _ ((by repeat (first | exact Gr.refl _ | refine Gr.setCell ?_ _ _ (by first | exact Nat.le_refl _ | (simp; omega) | (simp; done)) | refine Gr.grown ?_ _ _ | refine Gr.drewN ?_ _ | refine Gr.drew ?_ | refine Gr.alloc ?_ _ | refine Gr.grow ?_ _ | (refine Gr.trans ?_ (by assumption)))))).mono ?_; rintro e wA ⟨v, rfl, hS, hgA⟩; obtain ⟨gA, capA, rfl, hI⟩ : ∃ g cap, v = .slice (some ⟨g, 0, none⟩) L.length cap ∧ Ints wA g L := (by rcases hS with ⟨q, -⟩ | ⟨g, cap, q, -, r⟩; (subst q; simp at a0); exact ⟨g, cap, q, r⟩); clear hS) | (go_at_call 115; refine (C2.out _ ((by repeat (first | exact Gr.refl _ | refine Gr.setCell ?_ _ _ (by first | exact Nat.le_refl _ | (simp; omega) | (simp; done)) | refine Gr.grown ?_ _ _ | refine Gr.drewN ?_ _ | refine Gr.drew ?_ | refine Gr.alloc ?_ _ | refine Gr.grow ?_ _ | (refine Gr.trans ?_ (by assumption)))))).mono ?_; rintro e wB ⟨vF, rfl, hSF, hgB⟩; have hIB := hI.gr hgB; obtain ⟨aF, cF, rfl, hFc⟩ := hSF.open))
  have hGB : Gr w wB := (by repeat (first | exact Gr.refl _ | refine Gr.setCell ?_ _ _ (by first | exact Nat.le_refl _ | (simp; omega) | (simp; done)) | refine Gr.grown ?_ _ _ | refine Gr.drewN ?_ _ | refine Gr.drew ?_ | refine Gr.alloc ?_ _ | refine Gr.grow ?_ _ | (refine Gr.trans ?_ (by assumption))))
  have PB0 : PB wB y (F.take 0) (wB.alloc (Obj.cells #[.int .i64 0, .int .i64 0, .int .i64 0, .int .i64 0, .int .i64 0, .int .i64 0] 163)) := ⟨(Gr.refl wB).alloc _, by rw [heap_alloc_new]; simp [cntP_nil]⟩
  clear hI hgA hgB C1 C2
  go_loopg [40] F.length (fun kx s40 wr => ∃ i : Nat, i ≤ F.length ∧ F.length - i ≤ kx ∧ s40 = .int .i64 (i : Int) ∧ PB wB y (F.take i) wr)
  case atStart => exact ⟨0, by omega, by omega, rfl, PB0⟩
  case round =>
    obtain ⟨i, hi, hm, rfl, hPB⟩ := hrel
    rename World => wo
    clear PB0
    by_cases e : i < F.length
    · have e' : (i : Int) < (F.length : Int) := by omega
      obtain ⟨n, hn⟩ : ∃ n, F[i]? = some n := ⟨_, List.getElem?_eq_getElem e⟩
      obtain ⟨gF, rfl, hIF⟩ := hFc (by omega)
      have k0 := (hIF.gr hPB.g).c i n hn
      have hst : ∀ k, cntP y (F.take (i + 1)) k = cntP y (F.take i) k + (if prt y n = k then 1 else 0) := fun k => by rw [List.take_add_one, hn]; exact cntP_snoc y _ n k
      have hcr := fun k => cntP_range y (F.take i) k
      have htl : (F.take i).length ≤ 60 := by rw [List.length_take]; omega
      obtain ⟨q0, q1⟩ := hpr.out n
      have hGo := hGB.trans hPB.g
      go_wp2_with (first | (go_at_call 116; fail))
      go_at_call 116
      refine (C3.out n _ ((by repeat (first | exact Gr.refl _ | refine Gr.setCell ?_ _ _ (by first | exact Nat.le_refl _ | (simp; omega) | (simp; done)) | refine Gr.grown ?_ _ _ | refine Gr.drewN ?_ _ | refine Gr.drew ?_ | refine Gr.alloc ?_ _ | refine Gr.grow ?_ _ | (refine Gr.trans ?_ (by assumption)))))).mono ?_
      rintro e1 wC ⟨rfl, hgC⟩
      have hbC : wC.heap[wB.heap.size]? = some (.cells #[.int .i64 (cntP y (F.take i) 0), .int .i64 (cntP y (F.take i) 1), .int .i64 (cntP y (F.take i) 2), .int .i64 (cntP y (F.take i) 3), .int .i64 (cntP y (F.take i) 4), .int .i64 (cntP y (F.take i) 5)] 163 (0, 0)) := by
        have hl : wB.heap.size < wo.heap.size := (Array.getElem?_eq_some_iff.1 hPB.hb).1
        exact (hgC.heap hl).trans hPB.hb
      have hgB' : Gr wB wC := hPB.g.trans hgC
      have r1 := hcr 1; have r2 := hcr 2; have r3 := hcr 3; have r4 := hcr 4; have r5 := hcr 5
      have s0 := hst 0; have s1 := hst 1; have s2 := hst 2; have s3 := hst 3; have s4 := hst 4; have s5 := hst 5
      obtain ⟨A0, hA0⟩ : ∃ a, cntP y (F.take i) 0 = a := ⟨_, rfl⟩
      obtain ⟨A1, hA1⟩ : ∃ a, cntP y (F.take i) 1 = a := ⟨_, rfl⟩
      obtain ⟨A2, hA2⟩ : ∃ a, cntP y (F.take i) 2 = a := ⟨_, rfl⟩
      obtain ⟨A3, hA3⟩ : ∃ a, cntP y (F.take i) 3 = a := ⟨_, rfl⟩
      obtain ⟨A4, hA4⟩ : ∃ a, cntP y (F.take i) 4 = a := ⟨_, rfl⟩
      obtain ⟨A5, hA5⟩ : ∃ a, cntP y (F.take i) 5 = a := ⟨_, rfl⟩
      obtain ⟨Q, hQ⟩ : ∃ a, prt y n = a := ⟨_, rfl⟩
      rw [hA0] at s0 hbC; rw [hA1] at s1 r1 hbC; rw [hA2] at s2 r2 hbC; rw [hA3] at s3 r3 hbC; rw [hA4] at s4 r4 hbC; rw [hA5] at s5 r5 hbC
      rw [hQ] at q0 q1 s0 s1 s2 s3 s4 s5 ⊢
      have v1 : wC.cell? ⟨wB.heap.size, 1, none⟩ = some (.int .i64 A1) := by rw [Lib.cell_of_heap hbC]; rfl
      have v2 : wC.cell? ⟨wB.heap.size, 2, none⟩ = some (.int .i64 A2) := by rw [Lib.cell_of_heap hbC]; rfl
      have v3 : wC.cell? ⟨wB.heap.size, 3, none⟩ = some (.int .i64 A3) := by rw [Lib.cell_of_heap hbC]; rfl
      have v4 : wC.cell? ⟨wB.heap.size, 4, none⟩ = some (.int .i64 A4) := by rw [Lib.cell_of_heap hbC]; rfl
      have v5 : wC.cell? ⟨wB.heap.size, 5, none⟩ = some (.int .i64 A5) := by rw [Lib.cell_of_heap hbC]; rfl
      have z1 : wC.frozen? ⟨wB.heap.size, 1, none⟩ = false := Lib.frozen_of_heap hbC _
      have z2 : wC.frozen? ⟨wB.heap.size, 2, none⟩ = false := Lib.frozen_of_heap hbC _
      have z3 : wC.frozen? ⟨wB.heap.size, 3, none⟩ = false := Lib.frozen_of_heap hbC _
      have z4 : wC.frozen? ⟨wB.heap.size, 4, none⟩ = false := Lib.frozen_of_heap hbC _
      have z5 : wC.frozen? ⟨wB.heap.size, 5, none⟩ = false := Lib.frozen_of_heap hbC _
      have hgo : ∀ P (v : Value), Gr wB (wC.setCell ⟨wB.heap.size, P, none⟩ v) := fun P v => hgB'.setCell ⟨wB.heap.size, P, none⟩ v (Nat.le_refl _)
      have hsb : ∀ P (v : Value), (wC.setCell ⟨wB.heap.size, P, none⟩ v).heap[wB.heap.size]? = _ := fun P v => heap_set_same wC wB.heap.size P v hbC
      have b1 : 0 ≤ A1 ∧ A1 ≤ 60 := by omega
      have b2 : 0 ≤ A2 ∧ A2 ≤ 60 := by omega
      have b3 : 0 ≤ A3 ∧ A3 ≤ 60 := by omega
      have b4 : 0 ≤ A4 ∧ A4 ≤ 60 := by omega
      have b5 : 0 ≤ A5 ∧ A5 ≤ 60 := by omega
      have u1 : IntKind.i64.wrap (A1 + 1) = A1 + 1 := by rw [IntKind.wrap_i64]; omega
      have u2 : IntKind.i64.wrap (A2 + 1) = A2 + 1 := by rw [IntKind.wrap_i64]; omega
      have u3 : IntKind.i64.wrap (A3 + 1) = A3 + 1 := by rw [IntKind.wrap_i64]; omega
      have u4 : IntKind.i64.wrap (A4 + 1) = A4 + 1 := by rw [IntKind.wrap_i64]; omega
      have u5 : IntKind.i64.wrap (A5 + 1) = A5 + 1 := by rw [IntKind.wrap_i64]; omega
      clear r1 r2 r3 r4 r5
      clear hst hcr hPB hGo hgC htl k0 hA0 hA1 hA2 hA3 hA4 hA5 hQ hbC hgB'
      have hQ : Q = 1 ∨ Q = 2 ∨ Q = 3 ∨ Q = 4 ∨ Q = 5 := by omega
      rcases hQ with rfl | rfl | rfl | rfl | rfl
      all_goals (
        simp only [Int.reduceEq, if_true, if_false, Int.add_zero, ↓reduceIte] at s0 s1 s2 s3 s4 s5
        clear q0 q1
        go_wp2
        go_roundg (F.length - (i + 1))
        case measure => omega
        case rel => exact ⟨i + 1, by omega, Nat.le_refl _, by go_num, hgo _ _, by rw [hsb, s0, s1, s2, s3, s4, s5]; simp [u1, u2, u3, u4, u5]⟩)
    · obtain rfl : i = F.length := by omega
      rw [List.take_of_length_le (Nat.le_refl _)] at hPB
      have hcr := fun k => cntP_range y F k
      have c1 := hcr 1; have c2 := hcr 2; have c3 := hcr 3; have c5 := hcr 5
      have hbo := hPB.hb
      have gBo := hPB.g
      have hlo : wB.heap.size < wo.heap.size := (Array.getElem?_eq_some_iff.1 hPB.hb).1
      obtain ⟨A0, hA0⟩ : ∃ a, cntP y F 0 = a := ⟨_, rfl⟩
      obtain ⟨A1, hA1⟩ : ∃ a, cntP y F 1 = a := ⟨_, rfl⟩
      obtain ⟨A2, hA2⟩ : ∃ a, cntP y F 2 = a := ⟨_, rfl⟩
      obtain ⟨A3, hA3⟩ : ∃ a, cntP y F 3 = a := ⟨_, rfl⟩
      obtain ⟨A4, hA4⟩ : ∃ a, cntP y F 4 = a := ⟨_, rfl⟩
      obtain ⟨A5, hA5⟩ : ∃ a, cntP y F 5 = a := ⟨_, rfl⟩
      have C5 := Lib.hid fun W => tof_c (lp y) (cntP y F 0) (cntP y F 1) (cntP y F 2) (cntP y F 3) (cntP y F 4) (cntP y F 5) W (by omega) (by omega) (by omega) (by omega)
      rw [hP.out, hA0, hA1, hA2, hA3, hA4, hA5] at C5
      rw [hA0, hA1, hA2, hA3, hA4, hA5] at hbo
      obtain ⟨l, hl⟩ : ∃ l, lp y = l := ⟨_, rfl⟩
      rw [hl] at C4 C5
      clear hcr hA0 hA1 hA2 hA3 hA4 hA5 hPB hl c1 c2 c3 c5 hP
      go_wp2_with (first | (go_at_call 18; (with_reducible refine (C4.out _).mono ?_); rintro e1 wC ⟨rfl, hgC⟩; have hbC := (hgC.heap hlo).trans hbo; have gBC := gBo.trans hgC; have v0 : wC.cell? ⟨wB.heap.size, 0, none⟩ = some (.int .i64 A0) := (by rw [Lib.cell_of_heap hbC]; rfl); have v1 : wC.cell? ⟨wB.heap.size, 1, none⟩ = some (.int .i64 A1) := (by rw [Lib.cell_of_heap hbC]; rfl); have v2 : wC.cell? ⟨wB.heap.size, 2, none⟩ = some (.int .i64 A2) := (by rw [Lib.cell_of_heap hbC]; rfl); have v3 : wC.cell? ⟨wB.heap.size, 3, none⟩ = some (.int .i64 A3) := (by rw [Lib.cell_of_heap hbC]; rfl); have v4 : wC.cell? ⟨wB.heap.size, 4, none⟩ = some (.int .i64 A4) := (by rw [Lib.cell_of_heap hbC]; rfl); have v5 : wC.cell? ⟨wB.heap.size, 5, none⟩ = some (.int .i64 A5) := (by rw [Lib.cell_of_heap hbC]; rfl)) | (go_at_call 118; refine (C5.out _).mono ?_; rintro e2 wD ⟨b, rfl, hM, hgD⟩; have gBD := gBC.trans hgD; clear v0 v1 v2 v3 v4 v5) | (go_at_call 117; fail))
      go_at_call 117
      refine (reader_c b _).mono ?_
      rintro e3 wE ⟨rfl, hwE⟩
      have hE0 : wE.heap.size = wD.heap.size + 2 := by rw [hwE]; simp
      have hEr : wE.heap[wD.heap.size]? = some (.cells #[.map (some b)] 167 (0, 0)) := by rw [hwE, Lib.alloc_old _ _ _ (by simp)]; exact heap_alloc_new _ _
      have hEq : wE.heap[wD.heap.size + 1]? = some (.cells #[.int .i64 1] 3 (0, 0)) := by
        rw [hwE]
        have := heap_alloc_new (wD.alloc (.cells #[.map (some b)] 167)) (.cells #[.int .i64 1] 3)
        simpa using this
      have gDE : Gr wD wE := by rw [hwE]; exact ((Gr.refl _).alloc _).alloc _
      clear hwE
      have hmk := make_rd L.length (by omega)
      have hRE := RB.made L.length wE
      rw [hE0] at hRE
      have hE1 : wD.heap.size + 2 = wE.heap.size := hE0.symm
      have gEF := (Gr.refl wE).alloc (.cells (madeCells #[.int .i64 0, .int .i64 0, .int .i64 0] (L.length * 3)) 72)
      have T0 : TS wD P F L b (wE.alloc (.cells (madeCells #[.int .i64 0, .int .i64 0, .int .i64 0] (L.length * 3)) 72)) 0 :=
        ⟨gDE.trans gEF, (gEF.heap (by omega)).trans hEr, (gEF.heap (by omega)).trans hEq, hRE.congr (fun i o _ _ => by simp)⟩
      clear hRE gEF hEr hEq gDE hE0
      go_wp2
      rw [← hE1]
      clear hE1 hmk
      go_loopg [70] L.length (fun kx s70 wr => ∃ i : Nat, i ≤ L.length ∧ L.length - i ≤ kx ∧ s70 = .int .i64 (i : Int) ∧ TS wD P F L b wr i)
      case atStart => exact ⟨0, by omega, by omega, rfl, T0⟩
      case round =>
        obtain ⟨i, hi, hm, rfl, hT⟩ := hrel
        clear T0
        by_cases e : i < L.length
        · have e' : (i : Int) < (L.length : Int) := by omega
          obtain ⟨n, hn⟩ : ∃ n, L[i]? = some n := ⟨_, List.getElem?_eq_getElem e⟩
          have k0 := ((hIB.gr gBD).gr hT.g).c i n hn
          have c2 := hT.hR.cell e (show 2 < 3 by decide)
          have z2 := hT.hR.thaw (i * 3 + 2)
          have G1 : Gr wD (wr.setCell ⟨wD.heap.size + 2, i * 3 + 2, none⟩ (.int .i64 n)) := hT.g.setCell ⟨wD.heap.size + 2, i * 3 + 2, none⟩ _ (by show wD.heap.size ≤ wD.heap.size + 2; omega)
          have C6 := Lib.hid (contains_c _ F n _ (by omega) ((hSF.gr gBD).gr G1))
          by_cases hF : n ∈ F
          · have hd : decide (n ∈ F) = true := decide_eq_true hF
            rw [hd] at C6
            have hTy := fun a m => hT.yes (a := a) (m := m) e hn hF
            obtain ⟨a, hA⟩ : ∃ a, nxt P F (L.take i) = a := ⟨_, rfl⟩
            obtain ⟨m, hMm⟩ : ∃ m : Int, (if P a = true then 2 else 1) = m := ⟨_, rfl⟩
            have hTy := hTy a m hA hMm
            have ra := nxt_range P F (L.take i)
            rw [hA] at ra
            have htl : (L.take i).length ≤ 60 := by rw [List.length_take]; omega
            have rm : 1 ≤ m ∧ m ≤ 2 := by rw [← hMm]; split <;> omega
            have R1 := hT.hR.set e (show 2 < 3 by decide) n
            have R3 := R1.other ⟨wD.heap.size + 1, 0, none⟩ (.int .i64 (a + m)) (by show wD.heap.size + 1 ≠ _; omega)
            have R4 := R3.set (o := 0) e (by decide) a
            have x0 := R3.cell e (show 0 < 3 by decide)
            have x1 := R3.cell e (show 1 < 3 by decide)
            have x2 := R4.cell e (show 1 < 3 by decide)
            have y0 := R3.thaw (i * 3)
            have y1 := R4.thaw (i * 3 + 1)
            simp only [Nat.add_zero] at x0 x2 y1
            have hq1 : (wr.setCell ⟨wD.heap.size + 2, i * 3 + 2, none⟩ (.int .i64 n)).heap[wD.heap.size + 1]? = some (.cells #[.int .i64 a] 3 (0, 0)) := by rw [heap_set_other _ _ _ (by show wD.heap.size + 2 ≠ _; omega), ← hA]; exact hT.hq
            have hr1 : (wr.setCell ⟨wD.heap.size + 2, i * 3 + 2, none⟩ (.int .i64 n)).heap[wD.heap.size]? = some (.cells #[.map (some b)] 167 (0, 0)) := by rw [heap_set_other _ _ _ (by show wD.heap.size + 2 ≠ _; omega)]; exact hT.hr
            have C7 := reader1_c (wD.heap.size + 1) wD.heap.size b 1000 P a _ (by omega) (by omega) (by rw [Lib.cell_of_heap hq1]; rfl) (Lib.frozen_of_heap hq1 0) (by rw [Lib.cell_of_heap hr1]; rfl) (hM.gr G1)
            rw [hMm] at C7
            have C7 := Lib.hid C7
            clear R1 R3 R4 hq1 hr1 G1 hd hA hMm
            go_wp2_with (first | (go_at_call 119; refine (C6.out).mono ?_; rintro e5 w5 ⟨rfl, rfl⟩) | (go_at_call 135; refine (C7.out).mono ?_; rintro e6 w6 ⟨rfl, rfl⟩))
            go_roundg (L.length - (i + 1))
            case measure => omega
            case rel => exact ⟨i + 1, by omega, Nat.le_refl _, by go_num, hTy⟩
          · have hd : decide (n ∈ F) = false := decide_eq_false hF
            rw [hd] at C6
            have hTn := hT.no e hn hF
            clear G1 hd
            go_wp2_with (first | (go_at_call 119; refine (C6.out).mono ?_; rintro e5 w5 ⟨rfl, rfl⟩))
            go_roundg (L.length - (i + 1))
            case measure => omega
            case rel => exact ⟨i + 1, by omega, Nat.le_refl _, by go_num, hTn⟩
        · obtain rfl : i = L.length := by omega
          have hRL := hT.hR.congr (f' := rdE P F L) (fun i o hi ho => by simp [hi])
          have hGL := hGB.trans (gBD.trans hT.g)
          go_wp2
          go_ret2
          exact ⟨_, rfl, hRL, hGL⟩
end Go.Proofs.YtegkbjpcgelomaaGreatDoor.Walks
end
/- torah.Of. -/
section
namespace Go.Proofs.YtegkbjpcgelomaaGreatDoor.Walks
open Go Go.RowKit Go.Sort Go.Proofs.YtegkbjpcgelomaaGreatDoor.Base Go.Proofs.YtegkbjpcgelomaaGreatDoor.Plain Go.Proofs.YtegkbjpcgelomaaGreatDoor.Math

set_option maxHeartbeats 4000000 in
theorem tof1_c (a b c D : Int) (q : Nat) (w : World) (hq : w.cell? ⟨q, 0, none⟩ = some (.int .i64 D)) (hl : q < w.heap.size) :
    Calls Tryq.prog 82 (#[.agg #[.int .i64 a, .int .i64 b, .int .i64 c]] ++ #[.pointer (some ⟨q, 0, none⟩)]) w fun e w' => e = .returned (.bool (c == D)) ∧ Gr w w' := by
  have hq2 : (w.alloc (.cells #[.int .i64 a, .int .i64 b, .int .i64 c] 72)).cell? ⟨q, 0, none⟩ = some (.int .i64 D) := ((Gr.refl w).alloc _).keep hl hq
  clear hq
  go_enter Tryq.func82, Tryq.ntmps82
  go_wp2
  go_ret
  exact ⟨rfl, (by repeat (first | exact Gr.refl _ | refine Gr.setCell ?_ _ _ (by first | exact Nat.le_refl _ | (simp; omega) | (simp; done)) | refine Gr.grown ?_ _ _ | refine Gr.drewN ?_ _ | refine Gr.drew ?_ | refine Gr.alloc ?_ _ | refine Gr.grow ?_ _ | (refine Gr.trans ?_ (by assumption))))⟩
def IdxF (w : World) (n : Nat) (f : Nat → Nat → Int) (D : Int) (e : Ending) (w' : World) : Prop :=
  ∃ r : Int, e = .returned (.int .i64 r) ∧ ((∃ i : Nat, r = i ∧ i < n ∧ f i 2 = D ∧ ∀ j, j < i → f j 2 ≠ D) ∨ r = -1 ∧ ∀ i, i < n → f i 2 ≠ D) ∧ Gr w w'
set_option maxHeartbeats 4000000 in
theorem indexf_c (g n q : Nat) (f : Nat → Nat → Int) (D : Int) (w : World) (hn : n ≤ 100000) (hR : RB w g n f) (hq : w.cell? ⟨q, 0, none⟩ = some (.int .i64 D)) (hl : q < w.heap.size) :
    Calls Tryq.prog 81 #[.slice (some ⟨g, 0, none⟩) n n, .func (.func 82) #[] #[.pointer (some ⟨q, 0, none⟩)]] w (IdxF w n f D) := by
  have C1 := Lib.hid fun a b c W (hW : Gr w W) => tof1_c a b c D q W (hW.keep hl hq) (hW.lt hl)
  go_enter Tryq.func81, Tryq.ntmps81
  go_wp2
  go_loopg [8] n (fun kx s8 wr => ∃ i : Nat, i ≤ n ∧ n - i ≤ kx ∧ s8 = .int .i64 (i : Int) ∧ (∀ j, j < i → f j 2 ≠ D) ∧ Gr w wr)
  case atStart => exact ⟨0, by omega, by omega, rfl, fun j hj => absurd hj (by omega), Gr.refl _⟩
  case round =>
    obtain ⟨i, hi, hm, rfl, hx, hg⟩ := hrel
    by_cases e : i < n
    · have e' : (i : Int) < (n : Int) := by omega
      have RR := hR.gr hg
      have k0 := RR.cell e (show 0 < 3 by decide)
      have k1 := RR.cell e (show 1 < 3 by decide)
      have k2 := RR.cell e (show 2 < 3 by decide)
      simp only [Nat.add_zero] at k0
      have hxx := Lib.hid hx
      clear hx
      by_cases c : f i 2 = D
      · have cc := Lib.hid c
        rw [c] at k2
        have b : (D == D) = true := beq_iff_eq.2 rfl
        clear c
        go_wp2_with (first | (go_at_call 82; (refine (C1.out _ _ _ _ hg).mono ?_); rintro e1 w1 ⟨rfl, hg1⟩; rw [b]))
        go_ret
        exact ⟨i, rfl, .inl ⟨i, rfl, e, cc.out, hxx.out⟩, hg.trans hg1⟩
      · have b : (f i 2 == D) = false := beq_eq_false_iff_ne.2 c
        go_wp2_with (first | (go_at_call 82; (refine (C1.out _ _ _ _ hg).mono ?_); rintro e1 w1 ⟨rfl, hg1⟩; rw [b]))
        go_roundg (n - (i + 1))
        case measure => omega
        case rel =>
          refine ⟨i + 1, by omega, Nat.le_refl _, by go_num, fun j hj => ?_, hg.trans hg1⟩
          rcases Nat.lt_or_ge j i with h | h
          · exact hxx.out j h
          · have : j = i := by omega
            subst this; exact c
    · obtain rfl : i = n := by omega
      have hxx := Lib.hid hx
      clear hx
      go_wp2
      go_ret
      exact ⟨-1, rfl, .inr ⟨rfl, hxx.out⟩, hg⟩
/-- What comes of Of. -/
def TOf (w : World) (y p n : Int) (e : Ending) (w' : World) : Prop :=
  ∃ a b c e', e = .returned (.tuple #[.agg #[.int .i64 a, .int .i64 b, .int .i64 c], .int .i64 e']) ∧ Gr w w' ∧
    ∀ i, cycE y p n = 0 → (allS (cycN y p n) p)[i]? = some n → (∀ j, j < i → (allS (cycN y p n) p)[j]? ≠ some n) → a = rdE (planY (cycN y p n) p) (freeS (cycN y p n) p) (allS (cycN y p n) p) i 0 ∧ e' = 0
theorem cyc_ok {y p n : Int} (h : cycE y p n = 0) : 1 ≤ cycN y p n ∧ cycN y p n ≤ 9998 := by
  unfold cycE at h
  unfold cycN
  split at h
  · cases h
  · rename_i q
    rw [if_neg q]
    omega
theorem cyc_no {y p n : Int} (h : cycE y p n ≠ 0) : cycN y p n = 0 ∧ cycE y p n = 2 := by
  unfold cycE at h ⊢
  unfold cycN
  split at h
  · rename_i q
    rw [if_pos q, if_pos q]
    exact ⟨rfl, rfl⟩
  · exact absurd rfl h
set_option maxRecDepth 20000 in
set_option maxHeartbeats 8000000 in
theorem tofday_c (y p n d : Int) (j : Nat) (w : World) (G : GT w) (hv : HV y j d) (hn : hd y j d = n) (hp : p = 0 ∨ p = 1) :
    Calls Tryq.prog 40 #[.int .i64 n, .int .i64 p] w (TOf w y p n) := by
  have C1 := Lib.hid fun W (hW : Gr w W) => scycle_in y p n d j W (G.gr hW) hv hn hp
  obtain ⟨Y, hY⟩ : ∃ Y, cycN y p n = Y := ⟨_, rfl⟩
  obtain ⟨E, hE⟩ : ∃ E, cycE y p n = E := ⟨_, rfl⟩
  by_cases hz : E = 0
  · have hok := cyc_ok (hE.trans hz)
    rw [hY] at hok
    rw [hY, hE, hz] at C1
    subst hz
    have hYh := Lib.hid hY
    have C2 := Lib.hid fun W (hW : Gr w W) => tcycle_c Y p W (G.gr hW) hok.1 hok.2 hp
    have hAl := allS_pos hok.1 hok.2 hp
    have C3 := Lib.hid fun g n q f D W h1 h2 h3 h4 => indexf_c g n q f D W h1 h2 h3 h4
    clear hY hE G hv hn hp hok
    go_enter Tryq.func40, Tryq.ntmps40
    go_wp2_with (first | (go_at_call 79; fail))
    go_at_call 79
    obtain ⟨W1, hW1⟩ : ∃ W1, W1 = (w.alloc (Obj.cells #[.int .i64 n] 3)).alloc (Obj.cells #[.int .i64 0, .int .i64 0, .int .i64 0] 72) := ⟨_, rfl⟩
    rw [← hW1]
    have G1 : Gr w W1 := by rw [hW1]; exact ((Gr.refl _).alloc _).alloc _
    have l0 : w.heap.size < W1.heap.size := by rw [hW1]; simp; omega
    have l1 : w.heap.size + 1 < W1.heap.size := by rw [hW1]; simp
    have x0 : W1.heap[w.heap.size]? = some (.cells #[.int .i64 n] 3 (0, 0)) := by rw [hW1, Lib.alloc_old _ _ _ (by simp)]; exact heap_alloc_new _ _
    have x1 : W1.heap[w.heap.size + 1]? = some (.cells #[.int .i64 0, .int .i64 0, .int .i64 0] 72 (0, 0)) := by
      rw [hW1]
      have := heap_alloc_new (w.alloc (Obj.cells #[.int .i64 n] 3)) (Obj.cells #[.int .i64 0, .int .i64 0, .int .i64 0] 72)
      simpa using this
    clear hW1
    refine (C1.out _ G1).mono ?_
    rintro e1 wA ⟨rfl, hgA⟩
    have GA := G1.trans hgA
    have x0 := (hgA.heap l0).trans x0
    have x1 := (hgA.heap l1).trans x1
    have l0 := hgA.lt l0
    have l1 := hgA.lt l1
    clear hgA G1
    go_wp2_with (first | (go_at_call 80; fail))
    go_at_call 80
    refine (C2.out _ GA).mono ?_
    rintro e2 wB ⟨g, rfl, hR, hgB⟩
    have GB := GA.trans hgB
    have x0 := (hgB.heap l0).trans x0
    have x1 := (hgB.heap l1).trans x1
    have l0 := hgB.lt l0
    have l1 := hgB.lt l1
    clear hgB GA
    have C4 := Lib.hid (C3.out g (allS Y p).length w.heap.size _ n wB (by omega) hR (by rw [Lib.cell_of_heap x0]; rfl) l0)
    obtain ⟨F, hF⟩ : ∃ F, rdE (planY Y p) (freeS Y p) (allS Y p) = F := ⟨_, rfl⟩
    have hF2 : RowKit.Hid (∀ i, i < (allS Y p).length → F i 2 = (allS Y p).getD i 0) := Lib.hid fun i hi => by rw [← hF]; rfl
    rw [hF] at hR C4
    replace hF := Lib.hid hF
    go_wp2_with (first | (go_at_call 81; fail))
    go_at_call 81
    refine (C4.out).mono ?_
    rintro e3 wC ⟨r, rfl, hr, hgC⟩
    have GC := GB.trans hgC
    have hRC := hR.gr hgC
    have x1 := (hgC.heap l1).trans x1
    have z0 : wC.frozen? ⟨w.heap.size + 1, 0, none⟩ = false := Lib.frozen_of_heap x1 0
    have z1 : wC.frozen? ⟨w.heap.size + 1, 1, none⟩ = false := Lib.frozen_of_heap x1 1
    have z2 : wC.frozen? ⟨w.heap.size + 1, 2, none⟩ = false := Lib.frozen_of_heap x1 2
    have y0 : wC.cell? ⟨w.heap.size + 1, 0, none⟩ = some (.int .i64 0) := by rw [Lib.cell_of_heap x1]; rfl
    have y1 : wC.cell? ⟨w.heap.size + 1, 1, none⟩ = some (.int .i64 0) := by rw [Lib.cell_of_heap x1]; rfl
    have y2 : wC.cell? ⟨w.heap.size + 1, 2, none⟩ = some (.int .i64 0) := by rw [Lib.cell_of_heap x1]; rfl
    have l1 := hgC.lt l1
    clear hgC GB hR C4 x0 l0
    rcases hr with ⟨i, rfl, hi, hD, hno⟩ | ⟨rfl, hno⟩
    · have e' : (i : Int) < ((allS Y p).length : Int) := by omega
      have k0 := hRC.cell hi (show 0 < 3 by decide)
      have k1 := hRC.cell hi (show 1 < 3 by decide)
      have k2 := hRC.cell hi (show 2 < 3 by decide)
      simp only [Nat.add_zero] at k0
      replace hD := Lib.hid hD
      replace hno := Lib.hid hno
      go_wp2
      refine bodyPost_ret (v := .tuple #[.agg #[.int .i64 (F i 0), .int .i64 (F i 1), .int .i64 (F i 2)], .int .i64 0]) (by simp [results, Tryz.results40, go_sem, *]) rfl ?_
      refine ⟨_, _, _, _, rfl, ((GC.setCell ⟨w.heap.size + 1, 0, none⟩ _ (Nat.le_succ _)).setCell ⟨w.heap.size + 1, 1, none⟩ _ (Nat.le_succ _)).setCell ⟨w.heap.size + 1, 2, none⟩ _ (Nat.le_succ _), fun i' _ h1 h2 => ?_⟩
      rw [hYh.out] at h1 h2 ⊢
      have hLi : (allS Y p)[i]? = some n := by
        have := hF2.out i hi
        rw [hD.out] at this
        rw [this, List.getD, List.getElem?_eq_getElem hi]
        rfl
      have : i' = i := by
        rcases Nat.lt_trichotomy i' i with h | h | h
        · refine absurd ?_ (hno.out i' h)
          rw [hF2.out i' (by omega), List.getD, h1]
          rfl
        · exact h
        · exact absurd hLi (h2 i h)
      subst this
      exact ⟨by rw [hF.out], rfl⟩
    · replace hno := Lib.hid hno
      go_wp2
      refine bodyPost_ret (v := .tuple #[.agg #[.int .i64 0, .int .i64 0, .int .i64 0], .int .i64 4]) (by simp [results, Tryz.results40, go_sem, *]) rfl ?_
      refine ⟨_, _, _, _, rfl, ((GC.setCell ⟨w.heap.size + 1, 0, none⟩ _ (Nat.le_succ _)).setCell ⟨w.heap.size + 1, 1, none⟩ _ (Nat.le_succ _)).setCell ⟨w.heap.size + 1, 2, none⟩ _ (Nat.le_succ _), fun i' _ h1 h2 => ?_⟩
      rw [hYh.out] at h1
      have hi' := (List.getElem?_eq_some_iff.1 h1).1
      refine absurd ?_ (hno.out i' hi')
      rw [hF2.out i' hi', List.getD, h1]
      rfl
  · obtain ⟨q1, q2⟩ := cyc_no (by rw [hE]; exact hz)
    rw [hY] at q1
    rw [hE] at q2
    subst q1 q2
    rw [hY, hE] at C1
    clear hY G hv hn hp
    have hz' : RowKit.Hid (cycE y p n ≠ 0) := Lib.hid (by rw [hE]; decide)
    clear hE hz
    go_enter Tryq.func40, Tryq.ntmps40
    go_wp2_with (first | (go_at_call 79; fail))
    go_at_call 79
    obtain ⟨W1, hW1⟩ : ∃ W1, W1 = (w.alloc (Obj.cells #[.int .i64 n] 3)).alloc (Obj.cells #[.int .i64 0, .int .i64 0, .int .i64 0] 72) := ⟨_, rfl⟩
    rw [← hW1]
    have G1 : Gr w W1 := by rw [hW1]; exact ((Gr.refl _).alloc _).alloc _
    have l1 : w.heap.size + 1 < W1.heap.size := by rw [hW1]; simp
    have x1 : W1.heap[w.heap.size + 1]? = some (.cells #[.int .i64 0, .int .i64 0, .int .i64 0] 72 (0, 0)) := by
      rw [hW1]
      have := heap_alloc_new (w.alloc (Obj.cells #[.int .i64 n] 3)) (Obj.cells #[.int .i64 0, .int .i64 0, .int .i64 0] 72)
      simpa using this
    clear hW1
    refine (C1.out _ G1).mono ?_
    rintro e1 wC ⟨rfl, hgA⟩
    have GA := G1.trans hgA
    have x1 := (hgA.heap l1).trans x1
    have l1 := hgA.lt l1
    clear hgA G1
    have z0 : wC.frozen? ⟨w.heap.size + 1, 0, none⟩ = false := Lib.frozen_of_heap x1 0
    have z1 : wC.frozen? ⟨w.heap.size + 1, 1, none⟩ = false := Lib.frozen_of_heap x1 1
    have z2 : wC.frozen? ⟨w.heap.size + 1, 2, none⟩ = false := Lib.frozen_of_heap x1 2
    have y0 : wC.cell? ⟨w.heap.size + 1, 0, none⟩ = some (.int .i64 0) := by rw [Lib.cell_of_heap x1]; rfl
    have y1 : wC.cell? ⟨w.heap.size + 1, 1, none⟩ = some (.int .i64 0) := by rw [Lib.cell_of_heap x1]; rfl
    have y2 : wC.cell? ⟨w.heap.size + 1, 2, none⟩ = some (.int .i64 0) := by rw [Lib.cell_of_heap x1]; rfl
    go_wp2
    refine bodyPost_ret (v := .tuple #[.agg #[.int .i64 0, .int .i64 0, .int .i64 0], .int .i64 2]) (by simp [results, Tryz.results40, go_sem, *]) rfl ?_
    exact ⟨_, _, _, _, rfl, ((GA.setCell ⟨w.heap.size + 1, 0, none⟩ _ (Nat.le_succ _)).setCell ⟨w.heap.size + 1, 1, none⟩ _ (Nat.le_succ _)).setCell ⟨w.heap.size + 1, 2, none⟩ _ (Nat.le_succ _), fun i' h => absurd h hz'.out⟩
end Go.Proofs.YtegkbjpcgelomaaGreatDoor.Walks
end
/- The fixed facts of awake, reckoned. No program in sight. -/
section
namespace Go.Proofs.YtegkbjpcgelomaaGreatDoor.Math
open Go Go.RowKit Go.Proofs.YtegkbjpcgelomaaGreatDoor.Plain Go.Proofs.YtegkbjpcgelomaaGreatDoor.Walks

theorem aw_hd1 : hd 5784 7 15 = 738999 := by decide +kernel
theorem aw_hd2 : hd 5784 7 5 = 738989 := by decide +kernel
theorem aw_code : cN (lp 5784) 7 = 7 ∧ cL (lp 5784) 7 = false := by decide +kernel
theorem aw_rej : rej 5784 0 = 738801 := by decide +kernel
theorem aw_idx : (allS 5784 0)[26]? = some 738989 := by decide +kernel
theorem aw_no : ∀ j, j < 26 → (allS 5784 0)[j]? ≠ some 738989 := by decide +kernel
theorem aw_first : rdE (planY 5784 0) (freeS 5784 0) (allS 5784 0) 26 0 = 27 := by decide +kernel
end Go.Proofs.YtegkbjpcgelomaaGreatDoor.Math
end
/- strings.Builder's grow, at a builder without a buffer. -/
section
set_option maxRecDepth 100000
namespace Go.Proofs.YtegkbjpcgelomaaGreatDoor.Walks
open Go Go.RowKit Go.Sort Go.Proofs.YtegkbjpcgelomaaGreatDoor.Base

set_option maxHeartbeats 2000000 in
/-- The buffer of a builder that has none. -/
theorem bgrow_c (B b n : Nat) (w : World) (hB : B ≤ b) (hbk : w.heap[b]? = some (.cells #[.pointer (some ⟨b, 0, none⟩), .slice none 0 0] 154 (0, 0))) (hBw : B ≤ w.heap.size) (hn : n ≤ 281474976710656) :
    Calls Tryq.prog 127 #[.pointer (some ⟨b, 0, none⟩), .int .i64 n] w fun e w' => e = .returned (.tuple #[]) ∧ BA B b (.pointer (some ⟨b, 0, none⟩)) [] w' ∧ BG B w w' := by
  obtain ⟨cs, hcall, hle, hmax⟩ := makeNo n w.drew hn
  have hw : IntKind.i64.wrap (IntKind.i64.wrap 0 + (n : Int)) = n := by
    rw [IntKind.wrap_i64, IntKind.wrap_i64]
    omega
  rw [← hw] at hcall
  have hlt : b < w.heap.size := by
    rcases Nat.lt_or_ge b w.heap.size with h' | h'
    · exact h'
    · simp [Array.getElem?_eq_none h'] at hbk
  have c1 : w.drew.cell? ⟨b, 1, none⟩ = some (.slice none 0 0) := by
    have : w.drew.heap[b]? = _ := hbk
    rw [Lib.cell_of_heap this]; rfl
  have c2 : (w.alloc (.cells cs 5)).cell? ⟨b, 1, none⟩ = some (.slice none 0 0) := by
    have : (w.alloc (.cells cs 5)).heap[b]? = _ := (Lib.alloc_old w _ b hlt).trans hbk
    rw [Lib.cell_of_heap this]; rfl
  have f2 : (w.alloc (.cells cs 5)).frozen? ⟨b, 1, none⟩ = false := Lib.frozen_of_heap ((Lib.alloc_old w _ b hlt).trans hbk) 1
  have hcopy : ∀ W : World, (Builtin.copy_ #[152, 152] 3 #[.slice (some ⟨w.heap.size, 0, none⟩) 0 cs.size, .slice none 0 0]).run Tryq.prog W = .ok (goInt 0) W :=
    fun W => run_copy_none W 152 152 3 5 _ _ 0 cs.size 0 0 Tryq.underlying152 (by kernel_rfl) rfl
  clear hw
  go_enter Tryq.func127, Tryq.ntmps127
  go_wp2
  have hfin := Lib.grown_fresh (T := 154) (e := 5) (cs := cs) hB hbk hBw (hmax (by unfold maxLen; omega)) (by decide)
  have hd : w.drawn ≤ ((w.alloc (.cells cs 5)).setCell ⟨b, 1, none⟩ (.slice (some ⟨w.heap.size, 0, none⟩) 0 cs.size)).drew.drew.drew.drawn := by
    show w.drawn ≤ w.drawn + 1 + 1 + 1
    omega
  have mx := mixed
  go_region_o
  all_goals (go_wp2; go_end0; first | exact ⟨rfl, hfin.1, hfin.2, hd⟩ | (rw [alloc_set w _ _ _ hlt]; exact ⟨rfl, hfin.1, hfin.2, hd⟩))
end Go.Proofs.YtegkbjpcgelomaaGreatDoor.Walks
end
/- strings.Builder: Grow at a fresh one, WriteString, String. -/
section
set_option maxRecDepth 100000
namespace Go.Proofs.YtegkbjpcgelomaaGreatDoor.Walks
open Go Go.RowKit Go.Sort Go.Proofs.YtegkbjpcgelomaaGreatDoor.Base

theorem BG.grown {B : Nat} {a b c : World} (h : BG B a b) {row : Option Nat} (hg : b.grownBy c row) (hb : B ≤ b.heap.size) (hr : ∀ j, row = some j → B ≤ j) (hd : b.drawn ≤ c.drawn) : BG B a c :=
  ⟨h.b.grown hg hb hr, Nat.le_trans h.d hd⟩
set_option maxHeartbeats 2000000 in
theorem bGrow_c (B b n : Nat) (w : World) (hB : B ≤ b) (hbk : w.heap[b]? = some (.cells #[.pointer none, .slice none 0 0] 154 (0, 0))) (hBw : B ≤ w.heap.size) (hn : n ≤ 281474976710656) (n0 : 0 < n) :
    Calls Tryq.prog 109 #[.pointer (some ⟨b, 0, none⟩), .int .i64 n] w fun e w' => e = .returned (.tuple #[]) ∧ BA B b (.pointer (some ⟨b, 0, none⟩)) [] w' ∧ BG B w w' := by
  have hbk1 : (w.setCell ⟨b, 0, none⟩ (.pointer (some ⟨b, 0, none⟩))).heap[b]? = some (.cells #[.pointer (some ⟨b, 0, none⟩), .slice none 0 0] 154 (0, 0)) := by
    simp [World.setCell, Array.getElem?_modify, hbk]
  have c1 : (w.setCell ⟨b, 0, none⟩ (.pointer (some ⟨b, 0, none⟩))).cell? ⟨b, 1, none⟩ = some (.slice none 0 0) := by rw [Lib.cell_of_heap hbk1]; rfl
  have hb1 : BG B w (w.setCell ⟨b, 0, none⟩ (.pointer (some ⟨b, 0, none⟩))) := (BG.refl B w).setCell (p := ⟨b, 0, none⟩) hB _
  have c1' : (w.setCell ⟨b, 0, none⟩ (.pointer (some ⟨b, 0, none⟩))).drew.cell? ⟨b, 1, none⟩ = some (.slice none 0 0) := c1
  have hn0 : ¬ ((n : Int) < 0) := by omega
  have hn1 : (0 : Int) < (n : Int) := by omega
  go_enter Tryq.func109, Tryq.ntmps109
  have mx := mixed
  go_wp2_with (first | (go_at_call 126; refine (cc_fresh b w (by rw [Lib.cell_of_heap hbk]; rfl) (by simp [World.shape?, hbk]) (Lib.frozen_of_heap hbk 0)).mono ?_; rintro e w' ⟨rfl, rfl⟩))
  go_region_o
  all_goals go_wp2_with (first | (go_at_call 127; refine (bgrow_c B b n (w.setCell ⟨b, 0, none⟩ (.pointer (some ⟨b, 0, none⟩))).drew hB hbk1 (by simpa [World.setCell, World.drew, -World.drew_eq] using hBw) hn).mono ?_; rintro e w' ⟨rfl, h1, h2⟩))
  all_goals (go_end0; exact ⟨rfl, h1, hb1.drew.trans h2⟩)
set_option maxHeartbeats 2000000 in
theorem bwrite_c (B b : Nat) (bs : List Value) (s : ByteArray) (w : World) (h : BA B b (.pointer (some ⟨b, 0, none⟩)) bs w) (hs : 0 < s.size) (hlen : bs.length + s.size ≤ 140737488355328) (hBw : B ≤ w.heap.size) :
    Calls Tryq.prog 110 #[.pointer (some ⟨b, 0, none⟩), .string s] w fun e w' => e = .returned (.tuple #[.int .i64 s.size, .nilIface]) ∧ BA B b (.pointer (some ⟨b, 0, none⟩)) (bs ++ Lib.strCells s) w' ∧ BG B w w' := by
  obtain ⟨i0, hi, hz0, hz1, hz2⟩ := info_u8
  have h0 := h
  obtain ⟨hB, v, hbk, hown, hne⟩ := h
  have c0 : w.cell? ⟨b, 0, none⟩ = some (.pointer (some ⟨b, 0, none⟩)) := by rw [Lib.cell_of_heap hbk]; rfl
  have c1 : w.cell? ⟨b, 1, none⟩ = some v := by rw [Lib.cell_of_heap hbk]; rfl
  clear h0
  go_enter Tryq.func110, Tryq.ntmps110
  go_wp2_with (first | (go_at_call 126; refine (cc_used b w c0).mono ?_; rintro e w' ⟨rfl, rfl⟩) | (at_builtin; refine wpList_append_str _ rfl _ _ 152 9 rfl B 5 i0 Tryq.underlying152 Tryq.underlying9 hi hz0 hz1 hz2 _ _ _ rfl hown s rfl hs ?c3 ?c4 ?c5 ?_))
  case c3 => unfold maxLen; omega
  case c4 => omega
  case c5 => omega
  intro v' w2 hown' hgrow hd
  have hlt : b < w'.heap.size := by
    rcases Nat.lt_or_ge b w'.heap.size with h' | h'
    · exact h'
    · simp [Array.getElem?_eq_none h'] at hbk
  have hb2 : w2.heap[b]? = some (.cells #[.pointer (some ⟨b, 0, none⟩), v] 154 (0, 0)) := by
    rw [hgrow.block b hlt (fun e => hne e.symm)]
    exact hbk
  have d0 : w2.cell? ⟨b, 0, none⟩ = some (.pointer (some ⟨b, 0, none⟩)) := by rw [Lib.cell_of_heap hb2]; rfl
  have d1 : w2.cell? ⟨b, 1, none⟩ = some v := by rw [Lib.cell_of_heap hb2]; rfl
  have f1 : w2.frozen? ⟨b, 1, none⟩ = false := Lib.frozen_of_heap hb2 1
  obtain ⟨ao, n', cap, rfl⟩ : ∃ ao n' cap, v' = .slice ao n' cap := by
    rcases hown'.2 with ⟨hv, _⟩ | ⟨g, cap, cur, hv, _⟩
    · exact ⟨_, _, _, hv⟩
    · exact ⟨_, _, _, hv⟩
  go_wp2
  go_ret2
  refine ⟨rfl, ?_, ?_⟩
  · exact Lib.BuilderAt.put (T := 154) (e := 5) hB hb2 (bs' := bs ++ Lib.strCells s) (by simpa [Lib.strCells_length] using hown') (by decide)
  · exact ((BG.refl B w').grown hgrow hBw (fun k hk => (hown.lt k hk).1) hd).setCell (p := ⟨b, 1, none⟩) hB _
theorem freeze_drawn (w : World) (p : Addr) (n : Nat) : (w.freeze p n).drawn = w.drawn := by
  unfold World.freeze
  (repeat' split) <;> rfl
set_option maxHeartbeats 2000000 in
theorem bstring_c (B b : Nat) (p : Value) (l : List UInt8) (w : World) (h : BA B b p (Lib.byteCells l) w) (h0 : l ≠ []) :
    Calls Tryq.prog 111 #[.pointer (some ⟨b, 0, none⟩)] w fun e w' => e = .returned (.string ⟨l.toArray⟩) ∧ BG B w w' := by
  obtain ⟨hB, v, hbk, hown, hne⟩ := h
  have hl0 : l.length ≠ 0 := by simpa using h0
  rw [Lib.byteCells_length] at hown
  obtain ⟨g, cap, cur, rfl, hbg, hg, hnc, hcm, hcs, htake⟩ : ∃ g cap cur, v = .slice (some ⟨g, 0, none⟩) l.length cap ∧ B ≤ g ∧ w.heap[g]? = some (.cells cur 5 (0, 0)) ∧ l.length ≤ cap ∧ cap ≤ maxLen ∧ cur.size = cap * 1 ∧ cur.toList.take (l.length * 1) = Lib.byteCells l := by
    rcases hown.2 with ⟨_, hz⟩ | ⟨g, cap, cur, hv, r⟩
    · exact absurd hz hl0
    · exact ⟨g, cap, cur, hv, r⟩
  have c1 : w.drew.cell? ⟨b, 1, none⟩ = some (.slice (some ⟨g, 0, none⟩) l.length cap) := by
    have : w.drew.heap[b]? = some (.cells #[p, .slice (some ⟨g, 0, none⟩) l.length cap] 154 (0, 0)) := hbk
    rw [Lib.cell_of_heap this]; rfl
  have hSD : (Builtin.unsafeSliceData_ #[152] 178 #[.slice (some ⟨g, 0, none⟩) l.length cap]).run Tryq.prog w.drew = .ok (.pointer (some ⟨g, 0, none⟩)) w.drew :=
    Lib.run_unsafeSliceData_row _ _ _ _ _ _ (by omega)
  have hUS : (Builtin.unsafeString_ #[178, 3] 9 #[.pointer (some ⟨g, 0, none⟩), .int .i64 l.length]).run Tryq.prog w.drew = .ok (.string ⟨l.toArray⟩) (w.drew.freeze ⟨g, 0, none⟩ l.length) := by
    refine Lib.run_unsafeString_row w.drew 178 3 9 5 Tryq.underlying178 (by kernel_rfl) g cur.size (by have hg' : w.drew.heap[g]? = some (.cells cur 5 (0, 0)) := hg; simp [World.shape?, hg']) l h0 (by omega) (by unfold maxLen at hcm; omega) ?_
    intro j x hx
    have := hown.cells (g := g) rfl j (.int .u8 x.toNat) (by simp [Lib.byteCells, hx])
    exact this
  have mx := mixed
  clear hl0
  go_enter Tryq.func111, Tryq.ntmps111
  go_wp2
  go_region_o
  all_goals (go_wp2; go_ret; exact ⟨rfl, Lib.below_freeze (Below.drew (Below.refl B w)) (p := ⟨g, 0, none⟩) hbg _, by rw [freeze_drawn]; exact Nat.le_succ _⟩)
end Go.Proofs.YtegkbjpcgelomaaGreatDoor.Walks
end
