/- Walks of package sabbath: days, all Sabbaths of a cycle, the days on which no portion is read. -/
import Derived.Test.YtegkbjpcgelomaaGreatDoorZ18
import Derived.Test.YtegkbjpcgelomaaGreatDoorZ17
set_option linter.unusedVariables false
set_option linter.unusedSimpArgs false
section
namespace Go.Proofs.YtegkbjpcgelomaaGreatDoor.Walks
open Go Go.RowKit Go.Sort Go.Proofs.YtegkbjpcgelomaaGreatDoor.Base Go.Proofs.YtegkbjpcgelomaaGreatDoor.Plain Go.Proofs.YtegkbjpcgelomaaGreatDoor.Math

set_option maxHeartbeats 4000000 in
theorem sday_c (y n d : Int) (w : World) (G : GT w) (h0 : 1 ≤ y) (h1 : y ≤ 9999) (n0 : 1 ≤ n) (n1 : n ≤ 12) (d0 : 1 ≤ d) (d1 : d ≤ 29) :
    Calls Tryq.prog 131 #[.int .i64 y, .int .i64 n, .int .i64 d] w fun e w' => e = .returned (.int .i64 (dyn y n d)) ∧ Gr w w' := by
  obtain ⟨a, b, c⟩ := dJ_in (lp y) n0 n1
  have C1 : RowKit.Hid (∀ W, Gr w W → Calls Tryq.prog 24 #[.agg #[.int .i64 y, .int .i64 n, .bool false, .int .i64 d]] W fun e w' => e = .returned (.tuple #[.int .i64 (dyn y n d), .int .i64 0]) ∧ Gr W w') := Lib.hid fun W hW => by
    have := htoday_in y (dJ (lp y) n) d W (G.gr hW) (dyn_hv h0 h1 n0 n1 d0 d1)
    rwa [b, c] at this
  obtain ⟨R, hR⟩ : ∃ R, dyn y n d = R := ⟨_, rfl⟩
  rw [hR] at C1 ⊢
  clear hR a b c G
  go_enter Tryq.func131, Tryq.ntmps131
  go_wp2_with (first | (go_at_call 24; (with_reducible refine (C1.out _ ((by repeat (first | exact Gr.refl _ | refine Gr.setCell ?_ _ _ (by first | exact Nat.le_refl _ | (simp; omega) | (simp; done)) | refine Gr.grown ?_ _ _ | refine Gr.drewN ?_ _ | refine Gr.drew ?_ | refine Gr.alloc ?_ _ | refine Gr.grow ?_ _ | (refine Gr.trans ?_ (by assumption)))))).mono ?_); rintro e wA ⟨rfl, hgwA⟩))
  go_ret
  exact ⟨rfl, (by repeat (first | exact Gr.refl _ | refine Gr.setCell ?_ _ _ (by first | exact Nat.le_refl _ | (simp; omega) | (simp; done)) | refine Gr.grown ?_ _ _ | refine Gr.drewN ?_ _ | refine Gr.drew ?_ | refine Gr.alloc ?_ _ | refine Gr.grow ?_ _ | (refine Gr.trans ?_ (by assumption))))⟩
theorem dyn_rej (y p : Int) : dyn y 1 (23 - p) = rej y p := by
  unfold dyn rej dJ
  rw [if_neg (by omega)]
  rfl
set_option maxHeartbeats 4000000 in
theorem rejoice_c (y p : Int) (w : World) (G : GT w) (h0 : 1 ≤ y) (h1 : y ≤ 9999) (hp : p = 0 ∨ p = 1) :
    Calls Tryq.prog 113 #[.int .i64 y, .int .i64 p] w fun e w' => e = .returned (.int .i64 (rej y p)) ∧ Gr w w' := by
  have C1 := Lib.hid fun W (hW : Gr w W) => sday_c y 1 (23 - p) W (G.gr hW) h0 h1 (by omega) (by omega) (by omega) (by omega)
  rw [dyn_rej] at C1
  obtain ⟨R, hR⟩ : ∃ R, rej y p = R := ⟨_, rfl⟩
  rw [hR] at C1 ⊢
  have p0 : 0 ≤ p := by omega
  have p1 : p ≤ 1 := by omega
  clear hR G hp
  go_enter Tryq.func113, Tryq.ntmps113
  go_wp2_with (first | (go_at_call 131; (with_reducible refine (C1.out _ ((by repeat (first | exact Gr.refl _ | refine Gr.setCell ?_ _ _ (by first | exact Nat.le_refl _ | (simp; omega) | (simp; done)) | refine Gr.grown ?_ _ _ | refine Gr.drewN ?_ _ | refine Gr.drew ?_ | refine Gr.alloc ?_ _ | refine Gr.grow ?_ _ | (refine Gr.trans ?_ (by assumption)))))).mono ?_); rintro e wA ⟨rfl, hgwA⟩))
  go_ret
  exact ⟨rfl, (by repeat (first | exact Gr.refl _ | refine Gr.setCell ?_ _ _ (by first | exact Nat.le_refl _ | (simp; omega) | (simp; done)) | refine Gr.grown ?_ _ _ | refine Gr.drewN ?_ _ | refine Gr.drew ?_ | refine Gr.alloc ?_ _ | refine Gr.grow ?_ _ | (refine Gr.trans ?_ (by assumption))))⟩
set_option maxHeartbeats 4000000 in
theorem scheck_c (y p : Int) (w : World) (h0 : 1 ≤ y) (h1 : y ≤ 9998) (hp : p = 0 ∨ p = 1) :
    Calls Tryq.prog 132 #[.int .i64 y, .int .i64 p] w fun e w' => e = .returned (.int .i64 0) ∧ Gr w w' := by
  rcases hp with rfl | rfl
  all_goals (
    go_enter Tryq.func132, Tryq.ntmps132
    go_wp2
    go_ret
    exact ⟨rfl, (by repeat (first | exact Gr.refl _ | refine Gr.setCell ?_ _ _ (by first | exact Nat.le_refl _ | (simp; omega) | (simp; done)) | refine Gr.grown ?_ _ _ | refine Gr.drewN ?_ _ | refine Gr.drew ?_ | refine Gr.alloc ?_ _ | refine Gr.grow ?_ _ | (refine Gr.trans ?_ (by assumption))))⟩)
/-- .. and an error beside. -/
def IntsE2 (w : World) (L : List Int) (e : Ending) (w' : World) : Prop := ∃ v, e = .returned (.tuple #[v, .int .i64 0]) ∧ SlI w' v L ∧ Gr w w'
set_option maxHeartbeats 4000000 in
theorem all_in (y p : Int) (w : World) (G : GT w) (h0 : 1 ≤ y) (h1 : y ≤ 9998) (hp : p = 0 ∨ p = 1) :
    Calls Tryq.prog 114 #[.int .i64 y, .int .i64 p] w (IntsE2 w (allS y p)) := by
  have C1 := Lib.hid fun W (hW : Gr w W) => rejoice_c y p W (G.gr hW) h0 (by omega) hp
  have C2 := Lib.hid fun W (hW : Gr w W) => rejoice_c (y + 1) p W (G.gr hW) (by omega) (by omega) hp
  have C3 := Lib.hid fun W => scheck_c y p W h0 h1 hp
  have r1 := rej_range h0 (show y ≤ 9999 by omega) hp
  have r2 := rej_range (y := y + 1) (by omega) (by omega) hp
  have ha := allS_pos h0 h1 hp
  have C4 : RowKit.Hid (∀ W, Calls Tryq.prog 133 #[.int .i64 (rej y p + 1), .int .i64 (rej (y + 1) p)] W (IntsE W (allS y p))) := Lib.hid fun W => up_c _ _ W (by omega) (by omega) (by omega) (by have := ha.2; unfold allS at this; rw [sats_len] at this; omega)
  obtain ⟨L, hL⟩ : ∃ L, allS y p = L := ⟨_, rfl⟩
  obtain ⟨A, hA⟩ : ∃ A, rej y p = A := ⟨_, rfl⟩
  obtain ⟨B, hB⟩ : ∃ B, rej (y + 1) p = B := ⟨_, rfl⟩
  rw [hL] at C4 ⊢
  rw [hA] at C1 C4 r1
  rw [hB] at C2 C4 r2
  clear hL hA hB ha G hp
  go_enter Tryq.func114, Tryq.ntmps114
  go_wp2_with (first | (go_at_call 132; (with_reducible refine (C3.out _).mono ?_); rintro e wA ⟨rfl, hgwA⟩) | (go_at_call 113; (with_reducible refine (C1.out _ ((by repeat (first | exact Gr.refl _ | refine Gr.setCell ?_ _ _ (by first | exact Nat.le_refl _ | (simp; omega) | (simp; done)) | refine Gr.grown ?_ _ _ | refine Gr.drewN ?_ _ | refine Gr.drew ?_ | refine Gr.alloc ?_ _ | refine Gr.grow ?_ _ | (refine Gr.trans ?_ (by assumption)))))).mono ?_); rintro e wB ⟨rfl, hgwB⟩) | (go_at_call 113; (with_reducible refine (C2.out _ ((by repeat (first | exact Gr.refl _ | refine Gr.setCell ?_ _ _ (by first | exact Nat.le_refl _ | (simp; omega) | (simp; done)) | refine Gr.grown ?_ _ _ | refine Gr.drewN ?_ _ | refine Gr.drew ?_ | refine Gr.alloc ?_ _ | refine Gr.grow ?_ _ | (refine Gr.trans ?_ (by assumption)))))).mono ?_); rintro e wC ⟨rfl, hgwC⟩) | (go_at_call 133; refine (C4.out _).mono ?_; rintro e wD ⟨v, rfl, hS, hgwD⟩))
  go_ret2
  exact ⟨v, rfl, hS, (by repeat (first | exact Gr.refl _ | refine Gr.setCell ?_ _ _ (by first | exact Nat.le_refl _ | (simp; omega) | (simp; done)) | refine Gr.grown ?_ _ _ | refine Gr.drewN ?_ _ | refine Gr.drew ?_ | refine Gr.alloc ?_ _ | refine Gr.grow ?_ _ | (refine Gr.trans ?_ (by assumption))))⟩
end Go.Proofs.YtegkbjpcgelomaaGreatDoor.Walks
end
/- Walks of package sabbath: the days on which no portion is read. -/
section
namespace Go.Proofs.YtegkbjpcgelomaaGreatDoor.Walks
open Go Go.RowKit Go.Sort Go.Proofs.YtegkbjpcgelomaaGreatDoor.Base Go.Proofs.YtegkbjpcgelomaaGreatDoor.Plain Go.Proofs.YtegkbjpcgelomaaGreatDoor.Math

theorem feof_c (y p : Int) (w : World) (G : GT w) (h0 : 1 ≤ y) (h1 : y ≤ 9999) (hp : p = 0 ∨ p = 1) : Calls Tryq.prog 31 #[.int .i64 y, .int .i64 p] w (OfE w (evs y p)) := by
  have hS : ∀ (v : Value) (L : List (Int × Int)) (W : World), L.length ≤ 1000 → Gr w W → 0 < L.length → (∃ g cap, v = .slice (some ⟨g, 0, none⟩) L.length cap ∧ Evs W g L) → Calls Tryq.prog 67 #[v] W (SortE W L) := by
    rintro v L W hl hW hpos ⟨g, cap, rfl, E⟩
    exact sort_c g cap L W hpos hl E
  rcases hp with rfl | rfl
  · exact feof_in0 y w G h0 h1 hS
  · exact feof_in1 y w G h0 h1 hS
theorem Evs.kept {w w' : World} {row : Option Nat} {g : Nat} {L : List (Int × Int)} (h : Evs w g L) (k : w.grownBy w' row) (hne : some g ≠ row) : Evs w' g L := by
  have hb := k.block g h.lt hne
  have c : ∀ o, w'.cell? ⟨g, o, none⟩ = w.cell? ⟨g, o, none⟩ := fun o => World.cell?_of_block hb
  exact ⟨Nat.lt_of_lt_of_le h.lt k.size, fun i e he => by rw [c, c]; exact h.c i e he⟩
theorem _root_.Go.Proofs.YtegkbjpcgelomaaGreatDoor.Base.MapB.congr {w : World} {b N : Nat} {f g : Int → Bool} (h : MapB w b N f) (e : ∀ z, f z = g z) : MapB w b N g := by
  rw [← show f = g from funext e]
  exact h
theorem _root_.Go.Proofs.YtegkbjpcgelomaaGreatDoor.Base.MapB.ne {w : World} {b N g : Nat} {f : Int → Bool} (h : MapB w b N f) {o : Nat} {v : Value} (hc : w.cell? ⟨g, o, none⟩ = some v) : some g ≠ some b := by
  intro q
  injection q with q
  subst q
  obtain ⟨es, clock, hb, -⟩ := h.ex
  unfold World.cell? at hc
  simp [hb] at hc
/-- What the map tells behind k years. -/
def rsN (y p : Int) (k : Nat) (n : Int) : Bool := match k with
  | 0 => false
  | 1 => rstL (evs y p) n
  | _ => rst y p n
theorem rsN_step (y p : Int) {k : Nat} (hk : k < 2) (n : Int) : rsN y p (k + 1) n = (rsN y p k n || rstL (evs (y + (k : Int)) p) n) := by
  match k, hk with
  | 0, _ => simp [rsN]
  | 1, _ => simp [rsN, rst]
theorem rstL_step (M : List (Int × Int)) (i : Nat) (e : Int × Int) (h : M[i]? = some e) (n : Int) : rstL (M.take (i + 1)) n = (rstL (M.take i) n || (fRest e.1 && e.2 == n)) := by
  unfold rstL
  rw [List.take_add_one, h]
  simp [List.any_append]
theorem or_step (a b : Bool) (z D : Int) : (decide (z = D) || (a || b)) = (a || (b || (true && D == z))) := by
  by_cases q : z = D
  · subst q; simp
  · have q' : (D == z) = false := beq_eq_false_iff_ne.2 fun h => q h.symm
    simp [q, q']
def RestE (w : World) (y p : Int) (e : Ending) (w' : World) : Prop := ∃ b, e = .returned (.tuple #[.map (some b), .int .i64 0]) ∧ MapB w' b 100000 (rst y p) ∧ Gr w w'
theorem und_mib : Tryq.prog.underlying 166 = some (.map 3 4) := by kernel_rfl
theorem ev_days {y p : Int} (h0 : 1 ≤ y) (h1 : y ≤ 9999) : ∀ e ∈ evs y p, -1373427 ≤ e.2 ∧ e.2 ≤ 2278690 := by
  intro e he
  unfold evs at he
  rw [List.mem_flatMap] at he
  obtain ⟨i, hi, hm⟩ := he
  have hi : i < 19 := by simpa using hi
  have hf := fFT p hi
  have hd := fdy_range h0 h1 hi
  unfold evr at hm
  split at hm
  · rw [List.mem_map] at hm
    obtain ⟨d, hd', rfl⟩ := hm
    have hd' : d < (fT p i + 1 - fF p i).toNat := by simpa using hd'
    simp only
    omega
  · cases hm
set_option maxRecDepth 20000 in
set_option maxHeartbeats 8000000 in
theorem resting_c (y p : Int) (w : World) (G : GT w) (h0 : 1 ≤ y) (h1 : y ≤ 9998) (hp : p = 0 ∨ p = 1) : Calls Tryq.prog 134 #[.int .i64 y, .int .i64 p] w (RestE w y p) := by
  have C1 := Lib.hid fun W (hW : Gr w W) (k : Nat) (hk : k < 2) => feof_c (y + (k : Int)) p W (G.gr hW) (by omega) (by omega) hp
  have C2 := Lib.hid fun k W => rest_c k W
  have hEL : ∀ k : Nat, k < 2 → (evs (y + (k : Int)) p).length ≤ 152 := fun k hk => evp_len (y + (k : Int)) p 19 (by omega)
  have hED : ∀ k : Nat, k < 2 → ∀ e ∈ evs (y + (k : Int)) p, -1373427 ≤ e.2 ∧ e.2 ≤ 2278690 := fun k hk => ev_days (by omega) (by omega)
  have hEL := Lib.hid hEL
  have hED := Lib.hid hED
  clear hp G
  have hmm := @run_makeMap Tryq.prog
  go_enter Tryq.func134, Tryq.ntmps134
  go_wp2
  obtain ⟨W1, hW1⟩ : ∃ W1, W1 = (w.alloc (Obj.map #[] 0)).alloc (Obj.cells #[.int .i64 y, .int .i64 (y + 1)] 3) := ⟨_, rfl⟩
  rw [← hW1]
  have G1 : Gr w W1 := by rw [hW1]; exact ((Gr.refl _).alloc _).alloc _
  have M1 : MapB W1 w.heap.size 0 fun _ => false := by rw [hW1]; exact (MapB.made w).gr ((Gr.refl _).alloc _)
  have S1 : W1.heap[w.heap.size + 1]? = some (Obj.cells #[.int .i64 y, .int .i64 (y + 1)] 3 (0, 0)) := by
    rw [hW1]
    have := heap_alloc_new (w.alloc (Obj.map #[] 0)) (Obj.cells #[.int .i64 y, .int .i64 (y + 1)] 3)
    simpa using this
  have l1 : w.heap.size + 1 < W1.heap.size := by rw [hW1]; simp
  obtain ⟨bm, hbm⟩ : ∃ b, w.heap.size = b := ⟨_, rfl⟩
  have hbw : w.heap.size ≤ bm := by omega
  rw [hbm] at M1 S1 l1 ⊢
  clear hW1 hmm
  go_loopg [19] 2 (fun kx s19 wr => ∃ (k N : Nat), k ≤ 2 ∧ 2 - k ≤ kx ∧ s19 = .int .i64 (k : Int) ∧ N ≤ 200 * k ∧ MapB wr bm N (rsN y p k) ∧ wr.heap[bm + 1]? = some (Obj.cells #[.int .i64 y, .int .i64 (y + 1)] 3 (0, 0)) ∧ bm + 1 < wr.heap.size ∧ Gr w wr)
  case atStart => exact ⟨0, 0, by omega, by omega, rfl, by omega, M1, S1, l1, G1⟩
  case round =>
    obtain ⟨k, N, hk, hm, rfl, hN, hM, hS, hl, hg⟩ := hrel
    rename World => wo
    by_cases e : k < 2
    · have e' : (k : Int) < 2 := by omega
      have c0 : wo.cell? ⟨bm + 1, k, none⟩ = some (.int .i64 (y + (k : Int))) := by
        rw [Lib.cell_of_heap hS]
        match k, e with
        | 0, _ => simp
        | 1, _ => rfl
      have hz : k = 0 ∨ 0 < k := by omega
      go_wp2_with (first | (go_at_call 31; refine (C1.out _ ((by repeat (first | exact Gr.refl _ | refine Gr.setCell ?_ _ _ (by first | exact Nat.le_refl _ | (simp; omega) | (simp; done)) | refine Gr.grown ?_ _ _ | refine Gr.drewN ?_ _ | refine Gr.drew ?_ | refine Gr.alloc ?_ _ | refine Gr.grow ?_ _ | (refine Gr.trans ?_ (by assumption))))) k e).mono ?_; rintro e1 wA ⟨gE, capE, M, rfl, hPerm, hSort, hE, hgA⟩))
      have hML : M.length ≤ 152 := by rw [hPerm.length_eq]; exact hEL.out k e
      have hMD : ∀ x ∈ M, -1373427 ≤ x.2 ∧ x.2 ≤ 2278690 := fun x hx => hED.out k e x (hPerm.mem_iff.1 hx)
      have hMA := hM.gr hgA
      have hSA := (hgA.heap (by omega)).trans hS
      have hlA : bm + 1 < wA.heap.size := by have := hgA.size; omega
      have hGA := hg.trans hgA
      have hR := rstL_perm hPerm
      clear hM hS hl hg hgA c0
      go_loopg [34] M.length (fun kx s34 wr => ∃ (i N' : Nat), i ≤ M.length ∧ M.length - i ≤ kx ∧ s34 = .int .i64 (i : Int) ∧ N' ≤ N + i ∧ MapB wr bm N' (fun n => rsN y p k n || rstL (M.take i) n) ∧ Evs wr gE M ∧ wr.heap[bm + 1]? = some (Obj.cells #[.int .i64 y, .int .i64 (y + 1)] 3 (0, 0)) ∧ bm + 1 < wr.heap.size ∧ Gr w wr)
      case atStart => exact ⟨0, N, by omega, by omega, rfl, by omega, hMA.congr (fun z => by simp [rstL]), hE, hSA, hlA, hGA⟩
      case round =>
        obtain ⟨i, N', hi, hm', rfl, hN', hMr, hEr, hSr, hlr, hgr⟩ := hrel
        by_cases ei : i < M.length
        · have ei' : (i : Int) < (M.length : Int) := by omega
          obtain ⟨x, hx⟩ : ∃ x, M[i]? = some x := ⟨_, List.getElem?_eq_getElem ei⟩
          obtain ⟨k0, k1⟩ := hEr.c i x hx
          rw [Nat.mul_comm] at k0 k1
          have hxD := hMD x (List.mem_of_getElem? hx)
          have hst := rstL_step M i x hx
          have hne := hMr.ne k0
          obtain ⟨K, D⟩ := x
          simp only at k0 k1 hxD hst
          obtain ⟨d0, d1⟩ := hxD
          have hA1 := (Gr.refl wr).alloc (Obj.cells #[.int .i64 K, .int .i64 D] 67)
          have hMa := hMr.gr hA1
          have hEa := hEr.gr hA1
          have hSa := (hA1.heap (by omega)).trans hSr
          have hla : bm + 1 < (wr.alloc (Obj.cells #[.int .i64 K, .int .i64 D] 67)).heap.size := by simp; omega
          have hga := hgr.trans hA1
          have hnb : some (bm + 1) ≠ some bm := by simp
          have hNl : N' < maxLen := by simp only [maxLen]; omega
          have hwf : (Lit.int .i64 D).wf = true := wf_small (by omega) (by omega)
          by_cases hr : fRest K = true
          · rw [hr] at hst
            go_wp2_with (first | (go_at_call 158; refine (C2.out _ _).mono ?_; rintro e2 wB ⟨rfl, rfl⟩; rw [hr]) | (at_mapUpdate; refine wpList_mapUpdate_b _ rfl _ _ _ _ rfl und_mib bm N' _ rfl hMa hNl D rfl hwf rfl ?_; go_loud (intro wX hMX kX GX_; have hEX := hEa.kept kX hne; have hSX := (kX.block (bm + 1) hla hnb).trans hSa; have hlX : bm + 1 < wX.heap.size := Nat.lt_of_lt_of_le hla kX.size; have hgX := GX_ w hga hbw)))
            go_roundg (M.length - (i + 1))
            case measure => omega
            case rel => exact ⟨i + 1, N' + 1, by omega, Nat.le_refl _, by go_num, by omega, hMX.congr (fun z => by rw [hst]; exact or_step _ _ z D), hEX, hSX, hlX, hgX⟩
          · have hr : fRest K = false := by simpa using hr
            rw [hr] at hst
            go_wp2_with (first | (go_at_call 158; refine (C2.out _ _).mono ?_; rintro e2 wB ⟨rfl, rfl⟩; rw [hr]))
            go_roundg (M.length - (i + 1))
            case measure => omega
            case rel => exact ⟨i + 1, N', by omega, Nat.le_refl _, by go_num, by omega, hMa.congr (fun z => by rw [hst]; simp), hEa, hSa, hla, hga⟩
        · obtain rfl : i = M.length := by omega
          go_wp2
          go_roundg (2 - (k + 1))
          case measure => omega
          case rel => exact ⟨k + 1, N', by omega, Nat.le_refl _, by go_num, by omega, hMr.congr (fun z => by rw [rsN_step y p e, ← hR]; simp), hSr, hlr, hgr⟩
    · obtain rfl : k = 2 := by omega
      go_wp2
      go_ret2
      exact ⟨bm, rfl, hM.mono (by omega), hg⟩
end Go.Proofs.YtegkbjpcgelomaaGreatDoor.Walks
end
/- Walks of package sabbath: the free ones, parts of a cycle, a day's cycle. -/
section
namespace Go.Proofs.YtegkbjpcgelomaaGreatDoor.Walks
open Go Go.RowKit Go.Sort Go.Proofs.YtegkbjpcgelomaaGreatDoor.Base Go.Proofs.YtegkbjpcgelomaaGreatDoor.Plain Go.Proofs.YtegkbjpcgelomaaGreatDoor.Math

theorem sats_range {a b : Int} (h0 : -5000000 ≤ a) (h1 : b ≤ 5000000) : ∀ n ∈ sats a b, -5000000 ≤ n ∧ n ≤ 5000000 := by
  intro n hn
  unfold sats at hn
  rw [List.mem_map] at hn
  obtain ⟨k, hk, rfl⟩ := hn
  have hk : k < saK a b := by simpa using hk
  have := (saK_lt k).1 hk
  have : a ≤ saF a := by unfold saF; omega
  omega
theorem take_filter (L : List Int) (q : Int → Bool) (i : Nat) (n : Int) (h : L[i]? = some n) : (L.take (i + 1)).filter q = (L.take i).filter q ++ (if q n = true then [n] else []) := by
  rw [List.take_add_one, h, List.filter_append]
  congr 1
  by_cases c : q n = true
  · simp [c]
  · simp [c]
set_option maxRecDepth 20000 in
set_option maxHeartbeats 8000000 in
theorem free_c (y p : Int) (w : World) (G : GT w) (h0 : 1 ≤ y) (h1 : y ≤ 9998) (hp : p = 0 ∨ p = 1) : Calls Tryq.prog 115 #[.int .i64 y, .int .i64 p] w (IntsE2 w (freeS y p)) := by
  have C1 := Lib.hid fun W (hW : Gr w W) => all_in y p W (G.gr hW) h0 h1 hp
  have C2 := Lib.hid fun W (hW : Gr w W) => resting_c y p W (G.gr hW) h0 h1 hp
  have ha := allS_pos h0 h1 hp
  have hr : ∀ n ∈ allS y p, -5000000 ≤ n ∧ n ≤ 5000000 := by
    have r1 := rej_range h0 (show y ≤ 9999 by omega) hp
    have r2 := rej_range (y := y + 1) (by omega) (by omega) hp
    exact sats_range (by omega) (by omega)
  have hr := Lib.hid hr
  have hF : RowKit.Hid (freeS y p = (allS y p).filter fun n => !rst y p n) := Lib.hid rfl
  obtain ⟨L, hL⟩ : ∃ L, allS y p = L := ⟨_, rfl⟩
  rw [hL] at C1 ha hr hF
  obtain ⟨a0, a1⟩ := ha
  clear hL G hp
  go_enter Tryq.func115, Tryq.ntmps115
  go_wp2_with (first | (go_at_call 114; refine (C1.out _ ((by repeat (first | exact Gr.refl _ | refine Gr.setCell ?_ _ _ (by first | exact Nat.le_refl _ | (simp; omega) | (simp; done)) | refine Gr.grown ?_ _ _ | refine Gr.drewN ?_ _ | refine Gr.drew ?_ | refine Gr.alloc ?_ _ | refine Gr.grow ?_ _ | (refine Gr.trans ?_ (by assumption)))))).mono ?_; rintro e wA ⟨v, rfl, hS, hgA⟩; obtain ⟨gA, capA, rfl, hI⟩ : ∃ g cap, v = .slice (some ⟨g, 0, none⟩) L.length cap ∧ Ints wA g L := (by rcases hS with ⟨q, -⟩ | ⟨g, cap, q, -, r⟩; (subst q; simp at a0); exact ⟨g, cap, q, r⟩); clear hS) | (go_at_call 134; refine (C2.out _ ((by repeat (first | exact Gr.refl _ | refine Gr.setCell ?_ _ _ (by first | exact Nat.le_refl _ | (simp; omega) | (simp; done)) | refine Gr.grown ?_ _ _ | refine Gr.drewN ?_ _ | refine Gr.drew ?_ | refine Gr.alloc ?_ _ | refine Gr.grow ?_ _ | (refine Gr.trans ?_ (by assumption)))))).mono ?_; rintro e wB ⟨bm, rfl, hM, hgB⟩; have hIB := hI.gr hgB))
  have hGB := hgA.trans hgB
  clear hI hgA hgB
  go_loopg [9, 32] L.length (fun kx s9 s32 wr => ∃ (i : Nat), i ≤ L.length ∧ L.length - i ≤ kx ∧ s32 = .int .i64 (i : Int) ∧ wr.ownsRow wB.heap.size 3 1 s9 ((L.take i).filter fun n => !rst y p n).length (cei ((L.take i).filter fun n => !rst y p n)) ∧ Gr wB wr)
  case atStart => exact ⟨0, by omega, by omega, rfl, World.ownsRow_nil _ _ _ _, Gr.refl _⟩
  case round =>
    obtain ⟨i, hi, hm, rfl, ho, hg⟩ := hrel
    by_cases e : i < L.length
    · have e' : (i : Int) < (L.length : Int) := by omega
      obtain ⟨n, hn⟩ : ∃ n, L[i]? = some n := ⟨_, List.getElem?_eq_getElem e⟩
      have k0 := (hIB.gr hg).c i n hn
      obtain ⟨n0, n1⟩ := hr.out n (List.mem_of_getElem? hn)
      have hst := take_filter L (fun n => !rst y p n) i n hn
      have hMr := hM.gr hg
      have hwf : (Lit.int .i64 n).wf = true := wf_small (by omega) (by omega)
      have hfl : ((L.take i).filter fun n => !rst y p n).length ≤ 60 := Nat.le_trans (List.length_filter_le _ _) (by rw [List.length_take]; omega)
      have hs := hg.size
      by_cases hq : rst y p n = true
      · simp only [hq, Bool.not_true, Bool.false_eq_true, if_false, List.append_nil] at hst
        go_wp2_with (first | (refine wpList_lookup_b _ rfl _ _ _ rfl und_mib bm _ _ rfl hMr n rfl hwf ?_; rw [hq]))
        go_roundg (L.length - (i + 1))
        case measure => omega
        case rel => exact ⟨i + 1, by omega, Nat.le_refl _, by go_num, by rw [hst]; exact ho, hg⟩
      · have hq : rst y p n = false := by simpa using hq
        simp only [hq, Bool.not_false, if_true] at hst
        go_wp2_with (first | (refine wpList_lookup_b _ rfl _ _ _ rfl und_mib bm _ _ rfl hMr n rfl hwf ?_; rw [hq]) | (at_builtin; refine append_ints _ rfl _ _ rfl wB.heap.size _ _ _ rfl (ho.alloc _) _ 1 1 [.int .i64 n] rfl rfl (fun j u hj => by (match j, hj with | 0, hj => (simp at hj; subst hj; simp [go_sem]))) (by simp [Value.oneCell']) (by decide) (by omega) (by simp; omega) ?_; intro g1 c1 wX OX kX bX GX_; have GX : Gr wB wX := GX_ wB (hg.alloc _) (Nat.le_refl _)))
        go_roundg (L.length - (i + 1))
        case measure => omega
        case rel => exact ⟨i + 1, by omega, Nat.le_refl _, by go_num, by rw [hst, cei_snoc]; simpa using OX, GX⟩
    · obtain rfl : i = L.length := by omega
      have hv : SlI wr u9 (freeS y p) := by
        rw [List.take_of_length_le (Nat.le_refl _)] at ho
        rw [hF.out]
        exact sli_of ho rfl
      have HV' := Lib.hid hv
      clear hv ho
      go_wp2
      go_ret2
      exact ⟨_, rfl, HV'.out, hGB.trans hg⟩
end Go.Proofs.YtegkbjpcgelomaaGreatDoor.Walks
end
/- Walks of package sabbath: parts of a cycle, a day's cycle. -/
section
namespace Go.Proofs.YtegkbjpcgelomaaGreatDoor.Walks
open Go Go.RowKit Go.Sort Go.Proofs.YtegkbjpcgelomaaGreatDoor.Base Go.Proofs.YtegkbjpcgelomaaGreatDoor.Plain Go.Proofs.YtegkbjpcgelomaaGreatDoor.Math

/-- The part, counted so far. -/
def prtN (A B C D n : Int) (k : Nat) : Int := match k with
  | 0 => 1
  | 1 => 1 + (if A ≤ n then 1 else 0)
  | 2 => 1 + (if A ≤ n then 1 else 0) + (if B ≤ n then 1 else 0)
  | 3 => 1 + (if A ≤ n then 1 else 0) + (if B ≤ n then 1 else 0) + (if C ≤ n then 1 else 0)
  | _ => 1 + (if A ≤ n then 1 else 0) + (if B ≤ n then 1 else 0) + (if C ≤ n then 1 else 0) + (if D ≤ n then 1 else 0)
def prtB (A B C D : Int) (k : Nat) : Int := match k with | 0 => A | 1 => B | 2 => C | _ => D
theorem prtN_step (A B C D n : Int) {k : Nat} (hk : k < 4) : prtN A B C D n (k + 1) = prtN A B C D n k + (if prtB A B C D k ≤ n then 1 else 0) := by
  match k, hk with
  | 0, _ => rfl
  | 1, _ => rfl
  | 2, _ => rfl
  | 3, _ => rfl
theorem prtN_range (A B C D n : Int) (k : Nat) : 1 ≤ prtN A B C D n k ∧ prtN A B C D n k ≤ 5 := by
  unfold prtN
  split <;> (repeat' split) <;> omega
set_option maxRecDepth 20000 in
set_option maxHeartbeats 8000000 in
theorem part_c (y n : Int) (w : World) (G : GT w) (h0 : 1 ≤ y) (h1 : y ≤ 9998) :
    Calls Tryq.prog 116 #[.int .i64 y, .int .i64 n] w fun e w' => e = .returned (.tuple #[.int .i64 (prt y n), .int .i64 0]) ∧ Gr w w' := by
  have C1 := Lib.hid fun W (hW : Gr w W) => sday_c y 7 15 W (G.gr hW) h0 (by omega) (by omega) (by omega) (by omega) (by omega)
  have C2 := Lib.hid fun W (hW : Gr w W) => sday_c y 9 6 W (G.gr hW) h0 (by omega) (by omega) (by omega) (by omega) (by omega)
  have C3 := Lib.hid fun W (hW : Gr w W) => sday_c y 11 10 W (G.gr hW) h0 (by omega) (by omega) (by omega) (by omega) (by omega)
  have C4 := Lib.hid fun W (hW : Gr w W) => sday_c (y + 1) 1 1 W (G.gr hW) (by omega) (by omega) (by omega) (by omega) (by omega) (by omega)
  have hP : prt y n = prtN (dyn y 7 15) (dyn y 9 6) (dyn y 11 10) (dyn (y + 1) 1 1) n 4 := rfl
  rw [hP]
  clear hP
  obtain ⟨A, hA⟩ : ∃ A, dyn y 7 15 = A := ⟨_, rfl⟩
  obtain ⟨B, hB⟩ : ∃ B, dyn y 9 6 = B := ⟨_, rfl⟩
  obtain ⟨C, hC⟩ : ∃ C, dyn y 11 10 = C := ⟨_, rfl⟩
  obtain ⟨D, hD⟩ : ∃ D, dyn (y + 1) 1 1 = D := ⟨_, rfl⟩
  rw [hA] at C1 ⊢; rw [hB] at C2 ⊢; rw [hC] at C3 ⊢; rw [hD] at C4 ⊢
  clear hA hB hC hD G
  go_enter Tryq.func116, Tryq.ntmps116
  go_wp2_with (first | (go_at_call 131; (first | (with_reducible refine (C1.out _ ((by repeat (first | exact Gr.refl _ | refine Gr.setCell ?_ _ _ (by first | exact Nat.le_refl _ | (simp; omega) | (simp; done)) | refine Gr.grown ?_ _ _ | refine Gr.drewN ?_ _ | refine Gr.drew ?_ | refine Gr.alloc ?_ _ | refine Gr.grow ?_ _ | (refine Gr.trans ?_ (by assumption)))))).mono ?_) | (with_reducible refine (C2.out _ ((by repeat (first | exact Gr.refl _ | refine Gr.setCell ?_ _ _ (by first | exact Nat.le_refl _ | (simp; omega) | (simp; done)) | refine Gr.grown ?_ _ _ | refine Gr.drewN ?_ _ | refine Gr.drew ?_ | refine Gr.alloc ?_ _ | refine Gr.grow ?_ _ | (refine Gr.trans ?_ (by assumption)))))).mono ?_) | (with_reducible refine (C3.out _ ((by repeat (first | exact Gr.refl _ | refine Gr.setCell ?_ _ _ (by first | exact Nat.le_refl _ | (simp; omega) | (simp; done)) | refine Gr.grown ?_ _ _ | refine Gr.drewN ?_ _ | refine Gr.drew ?_ | refine Gr.alloc ?_ _ | refine Gr.grow ?_ _ | (refine Gr.trans ?_ (by assumption)))))).mono ?_) | (with_reducible refine (C4.out _ ((by repeat (first | exact Gr.refl _ | refine Gr.setCell ?_ _ _ (by first | exact Nat.le_refl _ | (simp; omega) | (simp; done)) | refine Gr.grown ?_ _ _ | refine Gr.drewN ?_ _ | refine Gr.drew ?_ | refine Gr.alloc ?_ _ | refine Gr.grow ?_ _ | (refine Gr.trans ?_ (by assumption)))))).mono ?_)); rintro e wB ⟨rfl, hgwB⟩))
  have GW : Gr w (wB.alloc (Obj.cells #[.int .i64 A, .int .i64 B, .int .i64 C, .int .i64 D] 3)) := (by repeat (first | exact Gr.refl _ | refine Gr.setCell ?_ _ _ (by first | exact Nat.le_refl _ | (simp; omega) | (simp; done)) | refine Gr.grown ?_ _ _ | refine Gr.drewN ?_ _ | refine Gr.drew ?_ | refine Gr.alloc ?_ _ | refine Gr.grow ?_ _ | (refine Gr.trans ?_ (by assumption))))
  go_loopg [6, 26] 4 (fun kx s6 s26 wr => ∃ (k : Nat), k ≤ 4 ∧ 4 - k ≤ kx ∧ s6 = .int .i64 (prtN A B C D n k) ∧ s26 = .int .i64 (k : Int) ∧ wr = wB.alloc (Obj.cells #[.int .i64 A, .int .i64 B, .int .i64 C, .int .i64 D] 3))
  case atStart => exact ⟨0, by omega, by omega, rfl, rfl, rfl⟩
  case round =>
    obtain ⟨k, hk, hm, rfl, rfl, rfl⟩ := hrel
    have hR := prtN_range A B C D n k
    by_cases e : k < 4
    · have e' : (k : Int) < 4 := by omega
      have c0 : (wB.alloc (Obj.cells #[.int .i64 A, .int .i64 B, .int .i64 C, .int .i64 D] 3)).cell? ⟨wB.heap.size, k, none⟩ = some (.int .i64 (prtB A B C D k)) := by
        match k, e with
        | 0, _ => simp [go_sem, prtB]
        | 1, _ => simp [go_sem, prtB]
        | 2, _ => simp [go_sem, prtB]
        | 3, _ => simp [go_sem, prtB]
      have hst := prtN_step A B C D n e
      obtain ⟨Q, hQ⟩ : ∃ Q, prtB A B C D k = Q := ⟨_, rfl⟩
      obtain ⟨T, hT⟩ : ∃ T, prtN A B C D n k = T := ⟨_, rfl⟩
      rw [hQ] at c0 hst
      rw [hT] at hst hR ⊢
      clear hQ hT
      by_cases c : Q ≤ n
      · rw [if_pos c] at hst
        go_wp2
        go_roundg (4 - (k + 1))
        case measure => omega
        case rel => exact ⟨k + 1, by omega, Nat.le_refl _, by rw [hst], by go_num, rfl⟩
      · rw [if_neg c, Int.add_zero] at hst
        go_wp2
        go_roundg (4 - (k + 1))
        case measure => omega
        case rel => exact ⟨k + 1, by omega, Nat.le_refl _, by rw [hst], by go_num, rfl⟩
    · obtain rfl : k = 4 := by omega
      go_wp2
      go_ret2
      exact ⟨rfl, GW⟩
/-- A day's cycle: its number, an error. -/
def cycY (y p n : Int) : Int := if n ≤ rej y p then y - 1 else y
def cycN (y p n : Int) : Int := if cycY y p n < 1 ∨ 9998 < cycY y p n then 0 else cycY y p n
def cycE (y p n : Int) : Int := if cycY y p n < 1 ∨ 9998 < cycY y p n then 2 else 0
set_option maxHeartbeats 4000000 in
theorem scycle_in (y p n d : Int) (j : Nat) (w : World) (G : GT w) (hv : HV y j d) (hn : hd y j d = n) (hp : p = 0 ∨ p = 1) :
    Calls Tryq.prog 79 #[.int .i64 n, .int .i64 p] w fun e w' => e = .returned (.tuple #[.int .i64 (cycN y p n), .int .i64 (cycE y p n)]) ∧ Gr w w' := by
  have h0 := hv.y0
  have h1 := hv.y1
  have C1 := Lib.hid fun W (hW : Gr w W) => hfrom_in y j d n W (G.gr hW) hv hn
  have C2 := Lib.hid fun W (hW : Gr w W) => rejoice_c y p W (G.gr hW) h0 h1 hp
  obtain ⟨N, hN⟩ : ∃ N, cN (lp y) j = N := ⟨_, rfl⟩
  obtain ⟨C, hC⟩ : ∃ C, cL (lp y) j = C := ⟨_, rfl⟩
  rw [hN, hC] at C1
  have hY : ∀ Y, cycY y p n = Y → (Y < 1 ∨ 9998 < Y → cycN y p n = 0 ∧ cycE y p n = 2) ∧ (¬ (Y < 1 ∨ 9998 < Y) → cycN y p n = Y ∧ cycE y p n = 0) := by
    rintro Y rfl
    unfold cycN cycE
    exact ⟨fun h => ⟨if_pos h, if_pos h⟩, fun h => ⟨if_neg h, if_neg h⟩⟩
  have hp0 : p ≠ 0 → p = 1 := fun h => hp.resolve_left h
  by_cases hr : n ≤ rej y p
  · have hy := hY (y - 1) (if_pos hr)
    obtain ⟨R, hR⟩ : ∃ R, rej y p = R := ⟨_, rfl⟩
    rw [hR] at C2 hr
    clear hY hN hC hR hv hn G
    by_cases hb : y - 1 < 1
    · obtain ⟨q1, q2⟩ := hy.1 (.inl hb)
      rw [q1, q2]
      clear hy q1 q2
      rcases hp with rfl | rfl
      all_goals (
        go_enter Tryq.func79, Tryq.ntmps79
        go_wp2_with (first | ((go_at_call 22; (with_reducible refine (C1.out _ ((by repeat (first | exact Gr.refl _ | refine Gr.setCell ?_ _ _ (by first | exact Nat.le_refl _ | (simp; omega) | (simp; done)) | refine Gr.grown ?_ _ _ | refine Gr.drewN ?_ _ | refine Gr.drew ?_ | refine Gr.alloc ?_ _ | refine Gr.grow ?_ _ | (refine Gr.trans ?_ (by assumption)))))).mono ?_); rintro e wA ⟨rfl, hgwA⟩; obtain ⟨hclwA, hfzwA, hszwA⟩ := gcell hgwA; (try simp [Nat.add_one_le_iff] at hszwA))) | (go_at_call 113; (with_reducible refine (C2.out _ ((by repeat (first | exact Gr.refl _ | refine Gr.setCell ?_ _ _ (by first | exact Nat.le_refl _ | (simp; omega) | (simp; done)) | refine Gr.grown ?_ _ _ | refine Gr.drewN ?_ _ | refine Gr.drew ?_ | refine Gr.alloc ?_ _ | refine Gr.grow ?_ _ | (refine Gr.trans ?_ (by assumption)))))).mono ?_); rintro e wB ⟨rfl, hgwB⟩; obtain ⟨hclwB, hfzwB, hszwB⟩ := gcell hgwB; (try simp [Nat.add_one_le_iff] at hszwB)))
        go_ret2
        exact ⟨rfl, (by repeat (first | exact Gr.refl _ | refine Gr.setCell ?_ _ _ (by first | exact Nat.le_refl _ | (simp; omega) | (simp; done)) | refine Gr.grown ?_ _ _ | refine Gr.drewN ?_ _ | refine Gr.drew ?_ | refine Gr.alloc ?_ _ | refine Gr.grow ?_ _ | (refine Gr.trans ?_ (by assumption))))⟩)
    · obtain ⟨q1, q2⟩ := hy.2 (by omega)
      rw [q1, q2]
      clear hy q1 q2
      rcases hp with rfl | rfl
      all_goals (
        go_enter Tryq.func79, Tryq.ntmps79
        go_wp2_with (first | ((go_at_call 22; (with_reducible refine (C1.out _ ((by repeat (first | exact Gr.refl _ | refine Gr.setCell ?_ _ _ (by first | exact Nat.le_refl _ | (simp; omega) | (simp; done)) | refine Gr.grown ?_ _ _ | refine Gr.drewN ?_ _ | refine Gr.drew ?_ | refine Gr.alloc ?_ _ | refine Gr.grow ?_ _ | (refine Gr.trans ?_ (by assumption)))))).mono ?_); rintro e wA ⟨rfl, hgwA⟩; obtain ⟨hclwA, hfzwA, hszwA⟩ := gcell hgwA; (try simp [Nat.add_one_le_iff] at hszwA))) | (go_at_call 113; (with_reducible refine (C2.out _ ((by repeat (first | exact Gr.refl _ | refine Gr.setCell ?_ _ _ (by first | exact Nat.le_refl _ | (simp; omega) | (simp; done)) | refine Gr.grown ?_ _ _ | refine Gr.drewN ?_ _ | refine Gr.drew ?_ | refine Gr.alloc ?_ _ | refine Gr.grow ?_ _ | (refine Gr.trans ?_ (by assumption)))))).mono ?_); rintro e wB ⟨rfl, hgwB⟩; obtain ⟨hclwB, hfzwB, hszwB⟩ := gcell hgwB; (try simp [Nat.add_one_le_iff] at hszwB)))
        go_ret2
        exact ⟨rfl, (by repeat (first | exact Gr.refl _ | refine Gr.setCell ?_ _ _ (by first | exact Nat.le_refl _ | (simp; omega) | (simp; done)) | refine Gr.grown ?_ _ _ | refine Gr.drewN ?_ _ | refine Gr.drew ?_ | refine Gr.alloc ?_ _ | refine Gr.grow ?_ _ | (refine Gr.trans ?_ (by assumption))))⟩)
  · have hy := hY y (if_neg hr)
    obtain ⟨R, hR⟩ : ∃ R, rej y p = R := ⟨_, rfl⟩
    rw [hR] at C2 hr
    clear hY hN hC hR hv hn G
    by_cases hb : 9998 < y
    · obtain ⟨q1, q2⟩ := hy.1 (.inr hb)
      rw [q1, q2]
      clear hy q1 q2
      rcases hp with rfl | rfl
      all_goals (
        go_enter Tryq.func79, Tryq.ntmps79
        go_wp2_with (first | ((go_at_call 22; (with_reducible refine (C1.out _ ((by repeat (first | exact Gr.refl _ | refine Gr.setCell ?_ _ _ (by first | exact Nat.le_refl _ | (simp; omega) | (simp; done)) | refine Gr.grown ?_ _ _ | refine Gr.drewN ?_ _ | refine Gr.drew ?_ | refine Gr.alloc ?_ _ | refine Gr.grow ?_ _ | (refine Gr.trans ?_ (by assumption)))))).mono ?_); rintro e wA ⟨rfl, hgwA⟩; obtain ⟨hclwA, hfzwA, hszwA⟩ := gcell hgwA; (try simp [Nat.add_one_le_iff] at hszwA))) | (go_at_call 113; (with_reducible refine (C2.out _ ((by repeat (first | exact Gr.refl _ | refine Gr.setCell ?_ _ _ (by first | exact Nat.le_refl _ | (simp; omega) | (simp; done)) | refine Gr.grown ?_ _ _ | refine Gr.drewN ?_ _ | refine Gr.drew ?_ | refine Gr.alloc ?_ _ | refine Gr.grow ?_ _ | (refine Gr.trans ?_ (by assumption)))))).mono ?_); rintro e wB ⟨rfl, hgwB⟩; obtain ⟨hclwB, hfzwB, hszwB⟩ := gcell hgwB; (try simp [Nat.add_one_le_iff] at hszwB)))
        go_ret2
        exact ⟨rfl, (by repeat (first | exact Gr.refl _ | refine Gr.setCell ?_ _ _ (by first | exact Nat.le_refl _ | (simp; omega) | (simp; done)) | refine Gr.grown ?_ _ _ | refine Gr.drewN ?_ _ | refine Gr.drew ?_ | refine Gr.alloc ?_ _ | refine Gr.grow ?_ _ | (refine Gr.trans ?_ (by assumption))))⟩)
    · obtain ⟨q1, q2⟩ := hy.2 (by omega)
      rw [q1, q2]
      clear hy q1 q2
      rcases hp with rfl | rfl
      all_goals (
        go_enter Tryq.func79, Tryq.ntmps79
        go_wp2_with (first | ((go_at_call 22; (with_reducible refine (C1.out _ ((by repeat (first | exact Gr.refl _ | refine Gr.setCell ?_ _ _ (by first | exact Nat.le_refl _ | (simp; omega) | (simp; done)) | refine Gr.grown ?_ _ _ | refine Gr.drewN ?_ _ | refine Gr.drew ?_ | refine Gr.alloc ?_ _ | refine Gr.grow ?_ _ | (refine Gr.trans ?_ (by assumption)))))).mono ?_); rintro e wA ⟨rfl, hgwA⟩; obtain ⟨hclwA, hfzwA, hszwA⟩ := gcell hgwA; (try simp [Nat.add_one_le_iff] at hszwA))) | (go_at_call 113; (with_reducible refine (C2.out _ ((by repeat (first | exact Gr.refl _ | refine Gr.setCell ?_ _ _ (by first | exact Nat.le_refl _ | (simp; omega) | (simp; done)) | refine Gr.grown ?_ _ _ | refine Gr.drewN ?_ _ | refine Gr.drew ?_ | refine Gr.alloc ?_ _ | refine Gr.grow ?_ _ | (refine Gr.trans ?_ (by assumption)))))).mono ?_); rintro e wB ⟨rfl, hgwB⟩; obtain ⟨hclwB, hfzwB, hszwB⟩ := gcell hgwB; (try simp [Nat.add_one_le_iff] at hszwB)))
        go_ret2
        exact ⟨rfl, (by repeat (first | exact Gr.refl _ | refine Gr.setCell ?_ _ _ (by first | exact Nat.le_refl _ | (simp; omega) | (simp; done)) | refine Gr.grown ?_ _ _ | refine Gr.drewN ?_ _ | refine Gr.drew ?_ | refine Gr.alloc ?_ _ | refine Gr.grow ?_ _ | (refine Gr.trans ?_ (by assumption))))⟩)
end Go.Proofs.YtegkbjpcgelomaaGreatDoor.Walks
end
/- The readings of a cycle in plain numbers. No program in sight. -/
section
namespace Go.Proofs.YtegkbjpcgelomaaGreatDoor.Math
open Go Go.RowKit Go.Proofs.YtegkbjpcgelomaaGreatDoor.Plain Go.Proofs.YtegkbjpcgelomaaGreatDoor.Walks

/-- As many of these numbers as are wanted. -/
def joinF (f : Int → Bool) (few : Int) : List Int → Int → Bool
  | [] => f
  | n :: L => if 0 < few then joinF (fun z => decide (z = n) || f z) (few - 1) L else joinF f few L
/-- What is read together in a cycle. -/
def planF (l : Bool) (p1 p2 p3 p5 : Int) : Int → Bool :=
  let f1 := if l = true then fun _ => false else joinF (joinF (fun _ => false) (25 - p1) [22]) (9 - p2) [27, 29, 32]
  let f2 := joinF f1 (44 - (if l = true then p1 + p2 else 34) - p3) [42, 39]
  if p5 = 1 then joinF f2 1 [51] else f2
/-- How many of the free ones lie in a part. -/
def cntP (y : Int) (F : List Int) (k : Int) : Int := ((F.filter fun n => prt y n == k).length : Int)
theorem cntP_nil (y k : Int) : cntP y [] k = 0 := rfl
theorem cntP_snoc (y : Int) (F : List Int) (n k : Int) : cntP y (F ++ [n]) k = cntP y F k + (if prt y n = k then 1 else 0) := by
  unfold cntP
  rw [List.filter_append, List.length_append]
  by_cases h : prt y n = k
  · simp [h]
  · have h' : (prt y n == k) = false := beq_eq_false_iff_ne.2 h
    simp [h, h']
theorem cntP_range (y : Int) (F : List Int) (k : Int) : 0 ≤ cntP y F k ∧ cntP y F k ≤ F.length := by
  unfold cntP
  have := List.length_filter_le (fun n => prt y n == k) F
  omega
def planY (y p : Int) : Int → Bool := planF (lp y) (cntP y (freeS y p) 1) (cntP y (freeS y p) 2) (cntP y (freeS y p) 3) (cntP y (freeS y p) 5)
/-- The next portion, behind some Sabbaths. -/
def nxt (P : Int → Bool) (F : List Int) (L : List Int) : Int := L.foldl (fun a n => if n ∈ F then a + (if P a = true then 2 else 1) else a) 1
theorem nxt_snoc (P : Int → Bool) (F L : List Int) (n : Int) : nxt P F (L ++ [n]) = if n ∈ F then nxt P F L + (if P (nxt P F L) = true then 2 else 1) else nxt P F L := by
  unfold nxt
  rw [List.foldl_append]
  rfl
theorem nxt_range (P : Int → Bool) (F L : List Int) : 1 ≤ nxt P F L ∧ nxt P F L ≤ 1 + 2 * (L.length : Int) := by
  unfold nxt
  suffices h : ∀ (L : List Int) (a : Int), a ≤ L.foldl (fun a n => if n ∈ F then a + (if P a = true then 2 else 1) else a) a ∧ L.foldl (fun a n => if n ∈ F then a + (if P a = true then 2 else 1) else a) a ≤ a + 2 * (L.length : Int) from h L 1
  intro L
  induction L with
  | nil => intro a; simp
  | cons n L ih =>
    intro a
    simp only [List.foldl_cons, List.length_cons]
    have := ih (if n ∈ F then a + (if P a = true then 2 else 1) else a)
    by_cases h : n ∈ F
    · rw [if_pos h] at this ⊢
      by_cases q : P a = true
      · rw [if_pos q] at this ⊢; omega
      · rw [if_neg q] at this ⊢; omega
    · rw [if_neg h] at this ⊢
      omega
/-- The reading of the i-th Sabbath: the first portion, how many, the day. -/
def rdE (P : Int → Bool) (F L : List Int) (i : Nat) : Nat → Int
  | 0 => if L.getD i 0 ∈ F then nxt P F (L.take i) else 0
  | 1 => if L.getD i 0 ∈ F then (if P (nxt P F (L.take i)) = true then 2 else 1) else 0
  | _ => L.getD i 0
end Go.Proofs.YtegkbjpcgelomaaGreatDoor.Math
end
/- Walks of package torah: the plan of a cycle; the reader; is a number in a list. -/
section
namespace Go.Proofs.YtegkbjpcgelomaaGreatDoor.Walks
open Go Go.RowKit Go.Sort Go.Proofs.YtegkbjpcgelomaaGreatDoor.Base Go.Proofs.YtegkbjpcgelomaaGreatDoor.Plain Go.Proofs.YtegkbjpcgelomaaGreatDoor.Math

theorem und_plan : Tryq.prog.underlying 167 = some (.map 3 4) := by kernel_rfl
theorem Ints.kept {w w' : World} {row : Option Nat} {g : Nat} {L : List Int} (h : Ints w g L) (k : w.grownBy w' row) (hne : some g ≠ row) : Ints w' g L := by
  have hb := k.block g h.lt hne
  exact ⟨Nat.lt_of_lt_of_le h.lt k.size, fun i e he => by rw [World.cell?_of_block hb]; exact h.c i e he⟩
/-- What comes of join: the map alone has changed. -/
def JoinE (w : World) (b N : Nat) (f : Int → Bool) (e : Ending) (w' : World) : Prop :=
  e = .returned (.tuple #[]) ∧ MapB w' b N f ∧ w.grownBy w' (some b) ∧ ∀ W, Gr W w → W.heap.size ≤ b → Gr W w'
theorem _root_.Go.World.grownBy.trans' {a b c : World} {row : Option Nat} (h : a.grownBy b row) (k : b.grownBy c row) : a.grownBy c row :=
  ⟨k.os.trans h.os, k.tape.trans h.tape, k.output.trans h.output, Nat.le_trans h.size k.size, fun i hi hne => (k.block i (Nat.lt_of_lt_of_le hi h.size) hne).trans (h.block i hi hne)⟩
set_option maxHeartbeats 4000000 in
theorem join_p (b N g cap : Nat) (few : Int) (f : Int → Bool) (L : List Int) (w : World) (h0 : -1000000 ≤ few) (h1 : few ≤ 1000000) (hN : N + L.length ≤ 1000) (hL : ∀ n ∈ L, 0 ≤ n ∧ n ≤ 1000) (hM : MapB w b N f) (hI : Ints w g L) (hne : some g ≠ some b) :
    Calls Tryq.prog 136 #[.map (some b), .int .i64 few, .slice (some ⟨g, 0, none⟩) L.length cap] w (JoinE w b (N + L.length) (joinF f few L)) := by
  have hL := Lib.hid hL
  go_enter Tryq.func136, Tryq.ntmps136
  go_wp2
  go_loopg [1, 10] L.length (fun kx s1 s10 wr => ∃ (i N' : Nat) (few' : Int) (f' : Int → Bool), i ≤ L.length ∧ L.length - i ≤ kx ∧ s10 = .int .i64 (i : Int) ∧ s1 = .int .i64 few' ∧ -1000000 ≤ few' ∧ few' ≤ 1000000 ∧ N' ≤ N + i ∧ joinF f few L = joinF f' few' (L.drop i) ∧ MapB wr b N' f' ∧ w.grownBy wr (some b) ∧ ∀ W, Gr W w → W.heap.size ≤ b → Gr W wr)
  case atStart => exact ⟨0, N, few, f, by omega, by omega, rfl, rfl, h0, h1, by omega, rfl, hM, .refl _ _, fun _ h _ => h⟩
  case round =>
    obtain ⟨i, N', few', f', hi, hm, rfl, rfl, hf0, hf1, hN', hJ, hMr, hk, hG⟩ := hrel
    by_cases e : i < L.length
    · have e' : (i : Int) < (L.length : Int) := by omega
      obtain ⟨n, hn⟩ : ∃ n, L[i]? = some n := ⟨_, List.getElem?_eq_getElem e⟩
      have k0 := (hI.kept hk hne).c i n hn
      have hd : L.drop i = n :: L.drop (i + 1) := by
        rw [List.drop_eq_getElem_cons e]
        congr 1
        exact (List.getElem?_eq_some_iff.1 hn).2
      rw [hd] at hJ
      obtain ⟨n0, n1⟩ := hL.out n (List.mem_of_getElem? hn)
      have hwf : (Lit.int .i64 n).wf = true := wf_small (by omega) (by omega)
      have hNl : N' < maxLen := by simp only [maxLen]; omega
      by_cases c : 0 < few'
      · rw [joinF, if_pos c] at hJ
        go_wp2_with (first | (at_mapUpdate; refine wpList_mapUpdate_b _ rfl _ _ _ _ rfl und_plan b N' _ rfl hMr hNl n rfl hwf rfl ?_; intro wX hMX kX GX_; have hkX := hk.trans' kX; have hGX : ∀ W, Gr W w → W.heap.size ≤ b → Gr W wX := fun W h1 h2 => GX_ W (hG W h1 h2) h2))
        go_roundg (L.length - (i + 1))
        case measure => omega
        case rel => exact ⟨i + 1, N' + 1, few' - 1, _, by omega, Nat.le_refl _, by go_num, by go_num, by omega, by omega, by omega, hJ, hMX, hkX, hGX⟩
      · rw [joinF, if_neg c] at hJ
        go_wp2
        go_roundg (L.length - (i + 1))
        case measure => omega
        case rel => exact ⟨i + 1, N', few', _, by omega, Nat.le_refl _, by go_num, rfl, by omega, by omega, by omega, hJ, hMr, hk, hG⟩
    · obtain rfl : i = L.length := by omega
      rw [List.drop_of_length_le (Nat.le_refl _)] at hJ
      go_wp2
      go_end0
      exact ⟨rfl, by rw [hJ]; exact hMr.mono (by omega), hk, hG⟩

/-- What comes of the plan. -/
def PlanE (w : World) (f : Int → Bool) (e : Ending) (w' : World) : Prop := ∃ b, e = .returned (.map (some b)) ∧ MapB w' b 1000 f ∧ Gr w w'
/-- Where the plan stands: the box of the parts, the map behind it. -/
structure PSt (w : World) (p0 p1 p2 p3 p4 p5 : Int) (cur : World) (N : Nat) (f : Int → Bool) : Prop where
  hb : cur.heap[w.heap.size]? = some (Obj.cells #[.int .i64 p0, .int .i64 p1, .int .i64 p2, .int .i64 p3, .int .i64 p4, .int .i64 p5] 163 (0, 0))
  m : MapB cur (w.heap.size + 1) N f
  g : Gr w cur
theorem PSt.cell {w cur : World} {p0 p1 p2 p3 p4 p5 : Int} {N : Nat} {f : Int → Bool} (h : PSt w p0 p1 p2 p3 p4 p5 cur N f) :
    cur.cell? ⟨w.heap.size, 1, none⟩ = some (.int .i64 p1) ∧ cur.cell? ⟨w.heap.size, 2, none⟩ = some (.int .i64 p2) ∧ cur.cell? ⟨w.heap.size, 3, none⟩ = some (.int .i64 p3) ∧ cur.cell? ⟨w.heap.size, 5, none⟩ = some (.int .i64 p5) :=
  ⟨by rw [Lib.cell_of_heap h.hb]; rfl, by rw [Lib.cell_of_heap h.hb]; rfl, by rw [Lib.cell_of_heap h.hb]; rfl, by rw [Lib.cell_of_heap h.hb]; rfl⟩
theorem PSt.join {w cur : World} {p0 p1 p2 p3 p4 p5 : Int} {N : Nat} {f : Int → Bool} (h : PSt w p0 p1 p2 p3 p4 p5 cur N f) (L : List Int) (A : Array Value) (hA : A = (cei L).toArray) (n : Nat) (hn : n = L.length) (gs : Nat) (hgs : gs = cur.heap.size) (few : Int) (h0 : -1000000 ≤ few) (h1 : few ≤ 1000000) (hN : N + L.length ≤ 1000) (hL : ∀ n ∈ L, 0 ≤ n ∧ n ≤ 1000) :
    Calls Tryq.prog 136 #[.map (some (w.heap.size + 1)), .int .i64 few, .slice (some ⟨gs, 0, none⟩) n n] (cur.alloc (.cells A 3)) fun e w' => e = .returned (.tuple #[]) ∧ PSt w p0 p1 p2 p3 p4 p5 w' (N + L.length) (joinF f few L) := by
  subst hA hn hgs
  have hl := h.m.lt
  have hI : Ints (cur.alloc (.cells (cei L).toArray 3)) cur.heap.size L := by
    refine ⟨by simp, fun i e he => ?_⟩
    rw [Lib.cell_of_heap (heap_alloc_new cur _)]
    simp [cei, he]
  have g1 := (Gr.refl cur).alloc (.cells (cei L).toArray 3)
  refine (join_p (w.heap.size + 1) N cur.heap.size L.length few f L _ h0 h1 hN hL (h.m.gr g1) hI (by intro q; injection q with q; omega)).mono ?_
  rintro e w' ⟨rfl, hM, hk, hG⟩
  refine ⟨rfl, ?_, hM, hG w (h.g.trans g1) (by omega)⟩
  have hlt : w.heap.size < cur.heap.size := by omega
  rw [hk.block w.heap.size (by simp; omega) (by simp), Lib.alloc_old cur _ _ hlt]
  exact h.hb
set_option maxRecDepth 20000 in
set_option maxHeartbeats 8000000 in
theorem tof_c (l : Bool) (p0 p1 p2 p3 p4 p5 : Int) (w : World) (h1 : 0 ≤ p1 ∧ p1 ≤ 1000) (h2 : 0 ≤ p2 ∧ p2 ≤ 1000) (h3 : 0 ≤ p3 ∧ p3 ≤ 1000) (h5 : 0 ≤ p5 ∧ p5 ≤ 1000) :
    Calls Tryq.prog 118 #[.bool l, .agg #[.int .i64 p0, .int .i64 p1, .int .i64 p2, .int .i64 p3, .int .i64 p4, .int .i64 p5]] w (PlanE w (planF l p1 p2 p3 p5)) := by
  have hmm := @run_makeMap Tryq.prog
  obtain ⟨a10, a11⟩ := h1
  obtain ⟨a20, a21⟩ := h2
  obtain ⟨a30, a31⟩ := h3
  obtain ⟨a50, a51⟩ := h5
  have hS : PSt w p0 p1 p2 p3 p4 p5 ((w.alloc (Obj.cells #[.int .i64 p0, .int .i64 p1, .int .i64 p2, .int .i64 p3, .int .i64 p4, .int .i64 p5] 163)).alloc (Obj.map #[] 0)) 0 fun _ => false := by
    refine ⟨?_, ?_, ((Gr.refl w).alloc _).alloc _⟩
    · rw [Lib.alloc_old _ _ _ (by simp)]
      exact heap_alloc_new w _
    · have := MapB.made (w.alloc (Obj.cells #[.int .i64 p0, .int .i64 p1, .int .i64 p2, .int .i64 p3, .int .i64 p4, .int .i64 p5] 163))
      simpa using this
  cases l
  · by_cases c5 : p5 = 1
    · subst c5
      go_enter Tryq.func118, Tryq.ntmps118
      go_wp2_with (first | (go_at_call 136; fail))
      go_at_call 136
      refine (hS.join [22] _ rfl 1 rfl _ (by simp) _ (by omega) (by omega) (by decide) (by decide)).mono ?_
      rintro e wX ⟨rfl, hS2⟩
      clear hS; have hS := hS2; clear hS2; obtain ⟨c1, c2, c3, c5⟩ := hS.cell
      go_wp2_with (first | (go_at_call 136; fail))
      go_at_call 136
      refine (hS.join [27, 29, 32] _ rfl 3 rfl _ (by simp) _ (by omega) (by omega) (by decide) (by decide)).mono ?_
      rintro e wX ⟨rfl, hS2⟩
      clear hS; have hS := hS2; clear hS2; obtain ⟨c1, c2, c3, c5⟩ := hS.cell
      go_wp2_with (first | (go_at_call 136; fail))
      go_at_call 136
      refine (hS.join [42, 39] _ rfl 2 rfl _ (by simp) _ (by omega) (by omega) (by decide) (by decide)).mono ?_
      rintro e wX ⟨rfl, hS2⟩
      clear hS; have hS := hS2; clear hS2; obtain ⟨c1, c2, c3, c5⟩ := hS.cell
      go_wp2_with (first | (go_at_call 136; fail))
      go_at_call 136
      refine (hS.join [51] _ rfl 1 rfl _ (by simp) _ (by omega) (by omega) (by decide) (by decide)).mono ?_
      rintro e wX ⟨rfl, hS2⟩
      clear hS; have hS := hS2; clear hS2; obtain ⟨c1, c2, c3, c5⟩ := hS.cell
      go_wp2
      go_ret
      exact ⟨_, rfl, MapB.congr (MapB.mono hS.m (M := 1000) (by decide)) (fun z => by simp [planF]), hS.g⟩
    · have b5 : (p5 == 1) = false := beq_eq_false_iff_ne.2 c5
      have q5 := c5
      go_enter Tryq.func118, Tryq.ntmps118
      go_wp2_with (first | (go_at_call 136; fail))
      go_at_call 136
      refine (hS.join [22] _ rfl 1 rfl _ (by simp) _ (by omega) (by omega) (by decide) (by decide)).mono ?_
      rintro e wX ⟨rfl, hS2⟩
      clear hS; have hS := hS2; clear hS2; obtain ⟨c1, c2, c3, c5⟩ := hS.cell
      go_wp2_with (first | (go_at_call 136; fail))
      go_at_call 136
      refine (hS.join [27, 29, 32] _ rfl 3 rfl _ (by simp) _ (by omega) (by omega) (by decide) (by decide)).mono ?_
      rintro e wX ⟨rfl, hS2⟩
      clear hS; have hS := hS2; clear hS2; obtain ⟨c1, c2, c3, c5⟩ := hS.cell
      go_wp2_with (first | (go_at_call 136; fail))
      go_at_call 136
      refine (hS.join [42, 39] _ rfl 2 rfl _ (by simp) _ (by omega) (by omega) (by decide) (by decide)).mono ?_
      rintro e wX ⟨rfl, hS2⟩
      clear hS; have hS := hS2; clear hS2; obtain ⟨c1, c2, c3, c5⟩ := hS.cell
      go_wp2
      go_ret
      exact ⟨_, rfl, MapB.congr (MapB.mono hS.m (M := 1000) (by decide)) (fun z => by simp [planF, q5]), hS.g⟩
  · by_cases c5 : p5 = 1
    · subst c5
      go_enter Tryq.func118, Tryq.ntmps118
      go_wp2_with (first | (go_at_call 136; fail))
      go_at_call 136
      refine (hS.join [42, 39] _ rfl 2 rfl _ (by simp) _ (by omega) (by omega) (by decide) (by decide)).mono ?_
      rintro e wX ⟨rfl, hS2⟩
      clear hS; have hS := hS2; clear hS2; obtain ⟨c1, c2, c3, c5⟩ := hS.cell
      go_wp2_with (first | (go_at_call 136; fail))
      go_at_call 136
      refine (hS.join [51] _ rfl 1 rfl _ (by simp) _ (by omega) (by omega) (by decide) (by decide)).mono ?_
      rintro e wX ⟨rfl, hS2⟩
      clear hS; have hS := hS2; clear hS2; obtain ⟨c1, c2, c3, c5⟩ := hS.cell
      go_wp2
      go_ret
      exact ⟨_, rfl, MapB.congr (MapB.mono hS.m (M := 1000) (by decide)) (fun z => by simp [planF]), hS.g⟩
    · have b5 : (p5 == 1) = false := beq_eq_false_iff_ne.2 c5
      have q5 := c5
      go_enter Tryq.func118, Tryq.ntmps118
      go_wp2_with (first | (go_at_call 136; fail))
      go_at_call 136
      refine (hS.join [42, 39] _ rfl 2 rfl _ (by simp) _ (by omega) (by omega) (by decide) (by decide)).mono ?_
      rintro e wX ⟨rfl, hS2⟩
      clear hS; have hS := hS2; clear hS2; obtain ⟨c1, c2, c3, c5⟩ := hS.cell
      go_wp2
      go_ret
      exact ⟨_, rfl, MapB.congr (MapB.mono hS.m (M := 1000) (by decide)) (fun z => by simp [planF, q5]), hS.g⟩
end Go.Proofs.YtegkbjpcgelomaaGreatDoor.Walks
end
/- Walks of package torah: the reader; is a number in a list. -/
section
namespace Go.Proofs.YtegkbjpcgelomaaGreatDoor.Walks
open Go Go.RowKit Go.Sort Go.Proofs.YtegkbjpcgelomaaGreatDoor.Base Go.Proofs.YtegkbjpcgelomaaGreatDoor.Plain Go.Proofs.YtegkbjpcgelomaaGreatDoor.Math

set_option maxHeartbeats 4000000 in
theorem reader_c (b : Nat) (w : World) : Calls Tryq.prog 117 #[.map (some b)] w fun e w' => e = .returned (.func (.func 135) #[] #[.pointer (some ⟨w.heap.size + 1, 0, none⟩), .pointer (some ⟨w.heap.size, 0, none⟩)]) ∧ w' = (w.alloc (.cells #[.map (some b)] 167)).alloc (.cells #[.int .i64 1] 3) := by
  go_enter Tryq.func117, Tryq.ntmps117
  go_wp2
  go_ret
  exact ⟨rfl, by simp [go_sem]⟩
/-- What the reader's closure gives. -/
def Rd1 (w : World) (q : Nat) (a m : Int) (e : Ending) (w' : World) : Prop := e = .returned (.tuple #[.int .i64 a, .int .i64 m]) ∧ w' = w.setCell ⟨q, 0, none⟩ (.int .i64 (a + m))
set_option maxHeartbeats 4000000 in
theorem reader1_c (q r b N : Nat) (P : Int → Bool) (a : Int) (w : World) (h0 : 0 ≤ a) (h1 : a ≤ 100000) (hq : w.cell? ⟨q, 0, none⟩ = some (.int .i64 a)) (hf : w.frozen? ⟨q, 0, none⟩ = false) (hr : w.cell? ⟨r, 0, none⟩ = some (.map (some b))) (hM : MapB w b N P) :
    Calls Tryq.prog 135 (#[] ++ #[.pointer (some ⟨q, 0, none⟩), .pointer (some ⟨r, 0, none⟩)]) w (Rd1 w q a (if P a = true then 2 else 1)) := by
  have hwf : (Lit.int .i64 a).wf = true := wf_small (by omega) (by omega)
  by_cases c : P a = true
  · rw [if_pos c]
    go_enter Tryq.func135, Tryq.ntmps135
    go_wp2_with (first | (refine wpList_lookup_b _ rfl _ _ _ rfl und_plan b _ _ rfl hM a rfl hwf ?_; rw [c]))
    go_ret2
    exact ⟨rfl, rfl⟩
  · rw [if_neg c]
    have c : P a = false := by simpa using c
    go_enter Tryq.func135, Tryq.ntmps135
    go_wp2_with (first | (refine wpList_lookup_b _ rfl _ _ _ rfl und_plan b _ _ rfl hM a rfl hwf ?_; rw [c]))
    go_ret2
    exact ⟨rfl, rfl⟩
def IdxE (w : World) (L : List Int) (x : Int) (e : Ending) (w' : World) : Prop := ∃ r : Int, e = .returned (.int .i64 r) ∧ -1 ≤ r ∧ r ≤ 1000000 ∧ decide (0 ≤ r) = decide (x ∈ L) ∧ w' = w
set_option maxHeartbeats 4000000 in
theorem index_c (v : Value) (L : List Int) (x : Int) (w : World) (hl : L.length ≤ 100000) (hS : SlI w v L) : Calls Tryq.prog 137 #[v, .int .i64 x] w (IdxE w L x) := by
  rcases hS with ⟨rfl, ao, cap, rfl⟩ | ⟨g, cap, rfl, hp, hI⟩
  · go_enter Tryq.func137, Tryq.ntmps137
    go_wp2
    refine wp_loop_rounds 1 ?_
    repeat any_goals (rw [rounds_succ]; go_wp2)
    go_ret
    exact ⟨-1, rfl, by omega, by omega, by simp, rfl⟩
  · go_enter Tryq.func137, Tryq.ntmps137
    go_wp2
    go_loopg [8] L.length (fun kx s8 wr => ∃ i : Nat, i ≤ L.length ∧ L.length - i ≤ kx ∧ s8 = .int .i64 (i : Int) ∧ x ∉ L.take i ∧ wr = w)
    case atStart => exact ⟨0, by omega, by omega, rfl, by simp, rfl⟩
    case round =>
      obtain ⟨i, hi, hm, rfl, hx, hwr⟩ := hrel
      subst hwr
      by_cases e : i < L.length
      · have e' : (i : Int) < (L.length : Int) := by omega
        obtain ⟨n, hn⟩ : ∃ n, L[i]? = some n := ⟨_, List.getElem?_eq_getElem e⟩
        have k0 := hI.c i n hn
        by_cases c : x = n
        · have hmem : x ∈ L := by rw [c]; exact List.mem_of_getElem? hn
          subst c
          go_wp2
          go_ret
          exact ⟨i, rfl, by omega, by omega, by simp [hmem], rfl⟩
        · have b : (x == n) = false := beq_eq_false_iff_ne.2 c
          go_wp2
          go_roundg (L.length - (i + 1))
          case measure => omega
          case rel =>
            refine ⟨i + 1, by omega, Nat.le_refl _, by go_num, ?_, rfl⟩
            rw [List.take_add_one, hn]
            simp [hx, c]
      · obtain rfl : i = L.length := by omega
        rw [List.take_of_length_le (Nat.le_refl _)] at hx
        go_wp2
        go_ret
        exact ⟨-1, rfl, by omega, by omega, by simp [hx], rfl⟩
set_option maxHeartbeats 4000000 in
theorem contains_c (v : Value) (L : List Int) (x : Int) (w : World) (hl : L.length ≤ 100000) (hS : SlI w v L) : Calls Tryq.prog 119 #[v, .int .i64 x] w fun e w' => e = .returned (.bool (decide (x ∈ L))) ∧ w' = w := by
  have C1 := Lib.hid (index_c v L x w hl hS)
  go_enter Tryq.func119, Tryq.ntmps119
  go_wp2_with (first | (go_at_call 137; refine (C1.out).mono ?_; rintro e w1 ⟨r, rfl, r0, r1, hr, rfl⟩))
  go_ret
  exact ⟨by rw [← hr]; rfl, rfl⟩
end Go.Proofs.YtegkbjpcgelomaaGreatDoor.Walks
end
