/- feast.Of: the events, row by row, ahead of the sort. -/
import Derived.Test.YtegkbjpcgelomaaGreatDoorZ17
import Derived.Test.YtegkbjpcgelomaaGreatDoorZ14
import Derived.StillTail
import Derived.Test.YtegkbjpcgelomaaGreatDoorZ13
import Derived.Lib.Slices
import Derived.Test.YtegkbjpcgelomaaGreatDoorZ15
import Derived.Test.YtegkbjpcgelomaaGreatDoorZ8
import Derived.Lib.Builder
import Derived.Lib.AppendStr
import Derived.Lib.UnsafeStr
import Derived.Lib.MakeNoZero
import Derived.Lib.Strings
import Derived.Lib.Walk
import Derived.Laws.Pointers
import Derived.Laws.Externs
import Derived.Laws.IdiomCopy
import Derived.Maps.Own
import Derived.Maps.Keyed
import Derived.Maps.Views
set_option linter.unusedVariables false
set_option linter.unusedSimpArgs false
section
namespace Go.Proofs.YtegkbjpcgelomaaGreatDoor.Walks
open Go Go.RowKit Go.Sort Go.Proofs.YtegkbjpcgelomaaGreatDoor.Base Go.Proofs.YtegkbjpcgelomaaGreatDoor.Plain Go.Proofs.YtegkbjpcgelomaaGreatDoor.Math

/-- A slice that holds events. -/
structure Evs (w : World) (g : Nat) (L : List (Int × Int)) : Prop where
  lt : g < w.heap.size
  c : ∀ i e, L[i]? = some e → w.cell? ⟨g, 2 * i, none⟩ = some (.int .i64 e.1) ∧ w.cell? ⟨g, 2 * i + 1, none⟩ = some (.int .i64 e.2)
theorem Evs.gr {w w' : World} {g : Nat} {L : List (Int × Int)} (h : Evs w g L) (hg : Gr w w') : Evs w' g L :=
  ⟨hg.lt h.lt, fun i e he => ⟨hg.keep h.lt (h.c i e he).1, hg.keep h.lt (h.c i e he).2⟩⟩
/-- What is asked of Sort. -/
def SortE (w : World) (L : List (Int × Int)) (e : Ending) (w' : World) : Prop :=
  ∃ g cap M, e = .returned (.slice (some ⟨g, 0, none⟩) M.length cap) ∧ M.Perm L ∧ M.Pairwise (fun x y => evc y x ≥ 0) ∧ Evs w' g M ∧ Gr w w'
/-- .. and of Of. -/
def OfE (w : World) (L : List (Int × Int)) (e : Ending) (w' : World) : Prop :=
  ∃ g cap M, e = .returned (.tuple #[.slice (some ⟨g, 0, none⟩) M.length cap, .int .i64 0]) ∧ M.Perm L ∧ M.Pairwise (fun x y => evc y x ≥ 0) ∧ Evs w' g M ∧ Gr w w'
/-- A row's cells. -/
theorem frow_cells {w : World} {g : Nat} (R : Row w 7 19 g frv) {i : Nat} (hi : i < 19) :
    w.cell? ⟨g, i * 7, none⟩ = some (.int .i64 (fK i)) ∧ w.cell? ⟨g, i * 7 + 1, none⟩ = some (.int .i64 (fN i)) ∧ w.cell? ⟨g, i * 7 + 2, none⟩ = some (.bool (fL i)) ∧
    w.cell? ⟨g, i * 7 + 3, none⟩ = some (.int .i64 (fA i)) ∧ w.cell? ⟨g, i * 7 + 4, none⟩ = some (.int .i64 (fB i)) ∧ w.cell? ⟨g, i * 7 + 5, none⟩ = some (.int .i64 (fC i)) ∧ w.cell? ⟨g, i * 7 + 6, none⟩ = some (.int .i64 (fD i)) := by
  have key : ∀ o, o < 7 → (i * 7 + o) % 7 = o ∧ (i * 7 + o) / 7 = i := fun o ho => ⟨by omega, by omega⟩
  have c := fun o (ho : o < 7) => R.c (i * 7 + o) (by omega)
  refine ⟨?_, ?_, ?_, ?_, ?_, ?_, ?_⟩
  · have := c 0 (by decide); unfold frv at this; rw [(key 0 (by decide)).1, (key 0 (by decide)).2] at this; exact this
  · have := c 1 (by decide); unfold frv at this; rw [(key 1 (by decide)).1, (key 1 (by decide)).2] at this; exact this
  · have := c 2 (by decide); unfold frv at this; rw [(key 2 (by decide)).1, (key 2 (by decide)).2] at this; exact this
  · have := c 3 (by decide); unfold frv at this; rw [(key 3 (by decide)).1, (key 3 (by decide)).2] at this; exact this
  · have := c 4 (by decide); unfold frv at this; rw [(key 4 (by decide)).1, (key 4 (by decide)).2] at this; exact this
  · have := c 5 (by decide); unfold frv at this; rw [(key 5 (by decide)).1, (key 5 (by decide)).2] at this; exact this
  · have := c 6 (by decide); unfold frv at this; rw [(key 6 (by decide)).1, (key 6 (by decide)).2] at this; exact this
/-- The first m events of a row. -/
def evm (y p : Int) (i m : Nat) : List (Int × Int) := (List.range m).map fun (d : Nat) => (fK i, fdy y i + (fF p i + (d : Int)) - 1)
theorem evm_len (y p : Int) (i m : Nat) : (evm y p i m).length = m := by simp [evm]
theorem evm_snoc (y p : Int) (i m : Nat) : evm y p i (m + 1) = evm y p i m ++ [(fK i, fdy y i + (fF p i + (m : Int)) - 1)] := by simp [evm, List.range_succ]
/-- The events of the first i rows. -/
def evp (y p : Int) (i : Nat) : List (Int × Int) := (List.range i).flatMap (evr y p)
theorem evp_snoc (y p : Int) (i : Nat) : evp y p (i + 1) = evp y p i ++ evr y p i := by simp [evp, List.range_succ]
theorem cel_snoc (L : List (Int × Int)) (e : Int × Int) : cel (L ++ [e]) = cel L ++ [.int .i64 e.1, .int .i64 e.2] := cel_append L [e]

theorem own_ne {w : World} {base e size n : Nat} {v : Value} {xs : List Value} (h : w.ownsRow base e size v n xs) {b : Nat} {cs : Array Value} {e' : TypeId} {f : Nat × Nat} (hb : w.heap[b]? = some (.cells cs e' f)) (hne : e' ≠ e) : some b ≠ v.ownBlock := by
  rcases h.2 with ⟨rfl, -⟩ | ⟨g, cap, cur, rfl, -, hh, -⟩
  · simp [Value.ownBlock]
  · intro q
    have : b = g := by simpa [Value.ownBlock] using q
    subst this
    rw [hb] at hh
    injection hh with q
    injection q with _ q2 _
    exact hne q2
theorem evs_of {w : World} {base e n cap g : Nat} {L : List (Int × Int)} (h : w.ownsRow base e 2 (.slice (some ⟨g, 0, none⟩) n cap) n (cel L)) (hn : 0 < n) (hl : L.length = n) : Evs w g L := by
  have R := row_of (f := fun j => (cel L).getD j undef) h hn (fun j hj => by
    have : j < (cel L).length := by rw [cel_len, hl]; exact hj
    simp [List.getD, List.getElem?_eq_getElem this])
  refine ⟨R.lt, fun i e he => ?_⟩
  have hi : i < n := by rw [← hl]; exact (List.getElem?_eq_some_iff.1 he).1
  obtain ⟨a, b⟩ := cel_at L i e he
  have r1 := R.c (2 * i) (by omega)
  have r2 := R.c (2 * i + 1) (by omega)
  simp only [List.getD, a, b, Option.getD_some] at r1 r2
  exact ⟨r1, r2⟩
theorem evr_yes {y p : Int} {i : Nat} (h : fH (lp y) i = true) : evr y p i = evm y p i (fT p i + 1 - fF p i).toNat := if_pos h
theorem evr_no {y p : Int} {i : Nat} (h : ¬ fH (lp y) i = true) : evr y p i = [] := if_neg h
theorem evs_pos (y p : Int) (hp : p = 0 ∨ p = 1) : 0 < (evp y p 19).length := by
  have h : evp y p 19 = evr y p 0 ++ (List.range' 1 18).flatMap (evr y p) := rfl
  have h0 : fH (lp y) 0 = true := by cases lp y <;> rfl
  rw [h, evr_yes h0, List.length_append]
  have : 0 < (evm y p 0 (fT p 0 + 1 - fF p 0).toNat).length := by
    rcases hp with rfl | rfl <;> (simp [evm]; decide)
  omega
theorem fdy_range {y : Int} {i : Nat} (h0 : 1 ≤ y) (h1 : y ≤ 9999) (hi : i < 19) : -1373427 ≤ fdy y i ∧ fdy y i ≤ 2278650 := by
  unfold fdy
  split
  · rename_i hh
    obtain ⟨a, -⟩ := fJ_ok (lp y) i hi hh
    have hm := mlen_range (kk y) (lp y) (fJ (lp y) i)
    exact hd_range ⟨h0, h1, a, by omega, by omega⟩
  · omega

set_option maxRecDepth 20000 in
set_option maxHeartbeats 8000000 in
theorem feof_in0 (y : Int) (w : World) (G : GT w) (h0 : 1 ≤ y) (h1 : y ≤ 9999)
    (hS : ∀ (v : Value) (L : List (Int × Int)) (W : World), L.length ≤ 1000 → Gr w W → 0 < L.length → (∃ g cap, v = .slice (some ⟨g, 0, none⟩) L.length cap ∧ Evs W g L) → Calls Tryq.prog 67 #[v] W (SortE W L)) :
    Calls Tryq.prog 31 #[.int .i64 y, .int .i64 0] w (OfE w (evs y 0)) := by
  have C1 := Lib.hid fun W => rows_c W
  have C2 := Lib.hid fun W (hW : Gr w W) i (hi : i < 19) => htoday_row y i W (G.gr hW) h0 h1 hi
  have C3 := Lib.hid hS
  clear hS G
  go_enter Tryq.func31, Tryq.ntmps31
  go_wp2_with (first | (go_at_call 68; (with_reducible refine (C1.out _).mono ?_); rintro e wA ⟨gR, rfl, hR, hgA⟩))
  go_loopg [6, 30] 19 (fun kx s6 s30 wr => ∃ (i : Nat), i ≤ 19 ∧ 19 - i ≤ kx ∧ s30 = .int .i64 (i : Int) ∧ wr.ownsRow wA.heap.size 67 2 s6 (evp y 0 i).length (cel (evp y 0 i)) ∧ Gr wA wr)
  case atStart => exact ⟨0, by omega, by omega, rfl, World.ownsRow_nil _ _ _ _, Gr.refl _⟩
  case round =>
    obtain ⟨i, hi, hm, rfl, ho, hg⟩ := hrel
    rename World => wo
    by_cases e : i < 19
    · have e' : (i : Int) < 19 := by omega
      obtain ⟨k0, k1, k2, k3, k4, k5, k6⟩ := frow_cells (hR.gr hg) e
      obtain ⟨f0, f1, f2, f3⟩ := fFT 0 e
      have fl : (evp y 0 i).length ≤ 8 * i := evp_len y 0 i (by omega)
      obtain ⟨K, hK⟩ : ∃ K, fK i = K := ⟨_, rfl⟩
      obtain ⟨A, hA⟩ : ∃ A, fA i = A := ⟨_, rfl⟩
      obtain ⟨B, hB⟩ : ∃ B, fB i = B := ⟨_, rfl⟩
      obtain ⟨C, hC⟩ : ∃ C, fC i = C := ⟨_, rfl⟩
      obtain ⟨D, hD⟩ : ∃ D, fD i = D := ⟨_, rfl⟩
      rw [hK] at k0; rw [hA] at k3; rw [hB] at k4; rw [hC] at k5; rw [hD] at k6
      rw [show fF 0 i = A from by show fA i = A; exact hA] at f0 f1 f2
      rw [show fT 0 i = B from by show fB i = B; exact hB] at f1 f2 f3
      go_wp2
      obtain ⟨W1, hW1⟩ : ∃ W1, W1 = wo.alloc (Obj.cells #[.int .i64 K, .int .i64 (fN i), .bool (fL i), .int .i64 A, .int .i64 B, .int .i64 C, .int .i64 D] 115) := ⟨_, rfl⟩
      rw [← hW1]
      have l1 : wo.heap.size < W1.heap.size := by rw [hW1]; simp
      have b0 : W1.cell? ⟨wo.heap.size, 0, none⟩ = some (.int .i64 K) := by rw [hW1]; simp [go_sem]
      have b1 : W1.cell? ⟨wo.heap.size, 1, none⟩ = some (.int .i64 (fN i)) := by rw [hW1]; simp [go_sem]
      have b2 : W1.cell? ⟨wo.heap.size, 2, none⟩ = some (.bool (fL i)) := by rw [hW1]; simp [go_sem]
      have b3 : W1.cell? ⟨wo.heap.size, 3, none⟩ = some (.int .i64 A) := by rw [hW1]; simp [go_sem]
      have b4 : W1.cell? ⟨wo.heap.size, 4, none⟩ = some (.int .i64 B) := by rw [hW1]; simp [go_sem]
      have b5 : W1.cell? ⟨wo.heap.size, 5, none⟩ = some (.int .i64 C) := by rw [hW1]; simp [go_sem]
      have b6 : W1.cell? ⟨wo.heap.size, 6, none⟩ = some (.int .i64 D) := by rw [hW1]; simp [go_sem]
      have G1 : Gr wo W1 := by rw [hW1]; exact (Gr.refl _).alloc _
      have GA1 : Gr wA W1 := hg.trans G1
      have o1 := own_gr ho G1
      have hx1 : W1.heap[wo.heap.size]? = some (Obj.cells #[.int .i64 K, .int .i64 (fN i), .bool (fL i), .int .i64 A, .int .i64 B, .int .i64 C, .int .i64 D] 115 (0, 0)) := by rw [hW1]; exact heap_alloc_new _ _
      clear hW1 k0 k1 k2 k3 k4 k5 k6 ho hg
      go_quiet (fail)
      go_wp2_with (first | (go_at_call 24; (refine (C2.out _ ((by repeat (first | exact Gr.refl _ | refine Gr.setCell ?_ _ _ (by first | exact Nat.le_refl _ | (simp; omega) | (simp; done)) | refine Gr.grown ?_ _ _ | refine Gr.drewN ?_ _ | refine Gr.drew ?_ | refine Gr.alloc ?_ _ | refine Gr.grow ?_ _ | (refine Gr.trans ?_ (by assumption))))) i e).mono ?_); rintro e1 wD ⟨rfl, hgD⟩))
      have GW : Gr W1 wD := (by repeat (first | exact Gr.refl _ | refine Gr.setCell ?_ _ _ (by first | exact Nat.le_refl _ | (simp; omega) | (simp; done)) | refine Gr.grown ?_ _ _ | refine Gr.drewN ?_ _ | refine Gr.drew ?_ | refine Gr.alloc ?_ _ | refine Gr.grow ?_ _ | (refine Gr.trans ?_ (by assumption))))
      have GAD : Gr wA wD := GA1.trans GW
      have oD := own_gr o1 GW
      have hbx := (GW.heap l1).trans hx1
      have hsD : wA.heap.size ≤ wD.heap.size := GAD.size
      have lD : wo.heap.size < wD.heap.size := by have := GW.size; omega
      clear hgD GW o1 hx1 GA1 G1 b0 b1 b2 b3 b4 b5 b6
      obtain ⟨F, hF⟩ : ∃ F, fdy y i = F := ⟨_, rfl⟩
      have rF := fdy_range (i := i) h0 h1 e
      rw [hF] at rF ⊢
      obtain ⟨r0, r1⟩ := rF
      by_cases hE : fH (lp y) i = true
      · rw [show fer y i = 0 from if_pos hE]
        go_loopg [6, 13] (B + 1 - A).toNat (fun kx s6 s13 wm => ∃ (m : Nat), (m : Int) ≤ B + 1 - A ∧ (B + 1 - A).toNat - m ≤ kx ∧ s13 = .int .i64 (A + (m : Int)) ∧ wm.ownsRow wA.heap.size 67 2 s6 (evp y 0 i ++ evm y 0 i m).length (cel (evp y 0 i ++ evm y 0 i m)) ∧ Gr wA wm ∧ wm.heap[wo.heap.size]? = some (Obj.cells #[.int .i64 K, .int .i64 (fN i), .bool (fL i), .int .i64 A, .int .i64 B, .int .i64 C, .int .i64 D] 115 (0, 0)) ∧ wo.heap.size < wm.heap.size)
        case atStart => exact ⟨0, by omega, by omega, by simp, by simpa [evm] using oD, GAD, hbx, lD⟩
        case round =>
          obtain ⟨m, hm1, hm2, rfl, om, gm, hbm, lm⟩ := hrel
          by_cases e2 : A + (m : Int) ≤ B
          · have c0 : wr.cell? ⟨wo.heap.size, 0, none⟩ = some (.int .i64 K) := by rw [Lib.cell_of_heap hbm]; rfl
            have hne := own_ne om hbm (by decide)
            have hml : (evp y 0 i ++ evm y 0 i m).length ≤ 1000 := by rw [List.length_append, evm_len]; omega
            have hsm := gm.size
            go_wp2_with (first | (at_builtin; refine append_evs _ rfl _ _ rfl wA.heap.size _ _ _ rfl (om.alloc _) _ 1 [.int .i64 K, .int .i64 (F + (A + (m : Int)) - 1)] rfl rfl (news2 rfl _ _ _) (by simp [Value.oneCell']) (by omega) (by simp; omega) ?_; intro g1 c1 wX OX kX bX GX_; have GX : Gr wA wX := GX_ wA (gm.alloc _) (Nat.le_refl _)))
            go_roundg ((B + 1 - A).toNat - (m + 1))
            case measure => omega
            case rel =>
              have ev : evp y 0 i ++ evm y 0 i (m + 1) = evp y 0 i ++ evm y 0 i m ++ [(K, F + (A + (m : Int)) - 1)] := by
                rw [evm_snoc, ← List.append_assoc, hK, hF, show fF 0 i = A from by show fA i = A; exact hA]
              refine ⟨m + 1, by omega, Nat.le_refl _, by go_num, ?_, GX, ?_, ?_⟩
              · rw [ev, cel_snoc]
                simp only [List.length_append, List.length_cons, List.length_nil, Nat.zero_add] at OX ⊢
                exact OX
              · rw [kX.block wo.heap.size (by simp; omega) hne, Lib.alloc_old _ _ _ lm]
                exact hbm
              · have := kX.size
                simp at this
                omega
          · go_wp2
            have hm3 : m = (fT 0 i + 1 - fF 0 i).toNat := by
              have a1 : fF 0 i = A := by show fA i = A; exact hA
              have a2 : fT 0 i = B := by show fB i = B; exact hB
              rw [a1, a2]
              omega
            go_roundg (19 - (i + 1))
            case measure => omega
            case rel =>
              refine ⟨i + 1, by omega, Nat.le_refl _, by go_num, ?_, gm⟩
              rw [evp_snoc, evr_yes hE, ← hm3]
              exact om
      · rw [show fer y i = 3 from if_neg hE]
        go_loopg [6, 13] 1 (fun kx s6 s13 wm => s13 = .int .i64 A ∧ wm.ownsRow wA.heap.size 67 2 s6 (evp y 0 i).length (cel (evp y 0 i)) ∧ Gr wA wm)
        case atStart => exact ⟨rfl, oD, GAD⟩
        case round =>
          obtain ⟨rfl, om, gm⟩ := hrel
          go_wp2
          go_roundg (19 - (i + 1))
          case measure => omega
          case rel =>
            refine ⟨i + 1, by omega, Nat.le_refl _, by go_num, ?_, gm⟩
            rw [evp_snoc, evr_no hE, List.append_nil]
            exact om
    · obtain rfl : i = 19 := by omega
      have hp := evs_pos y 0 (by decide)
      have hlen := evp_len y 0 19 (by omega)
      obtain ⟨g, cap, rfl⟩ : ∃ g cap, u6 = .slice (some ⟨g, 0, none⟩) (evp y 0 19).length cap := by
        rcases ho.2 with ⟨-, z⟩ | ⟨g, cap, -, rfl, -⟩
        · omega
        · exact ⟨g, cap, rfl⟩
      have HO := Lib.hid (evs_of ho hp rfl)
      clear ho
      go_wp2_with (first | (go_at_call 67; refine (C3.out _ (evp y 0 19) _ (by unfold evp at *; omega) ((by repeat (first | exact Gr.refl _ | refine Gr.setCell ?_ _ _ (by first | exact Nat.le_refl _ | (simp; omega) | (simp; done)) | refine Gr.grown ?_ _ _ | refine Gr.drewN ?_ _ | refine Gr.drew ?_ | refine Gr.alloc ?_ _ | refine Gr.grow ?_ _ | (refine Gr.trans ?_ (by assumption))))) hp ⟨g, cap, rfl, HO.out⟩).mono ?_; rintro e2 wE ⟨g2, cap2, M, rfl, hPerm, hSort, hEv, hgE⟩))
      go_ret2
      exact ⟨g2, cap2, M, rfl, hPerm, hSort, hEv, (by repeat (first | exact Gr.refl _ | refine Gr.setCell ?_ _ _ (by first | exact Nat.le_refl _ | (simp; omega) | (simp; done)) | refine Gr.grown ?_ _ _ | refine Gr.drewN ?_ _ | refine Gr.drew ?_ | refine Gr.alloc ?_ _ | refine Gr.grow ?_ _ | (refine Gr.trans ?_ (by assumption))))⟩
set_option maxRecDepth 20000 in
set_option maxHeartbeats 8000000 in
theorem feof_in1 (y : Int) (w : World) (G : GT w) (h0 : 1 ≤ y) (h1 : y ≤ 9999)
    (hS : ∀ (v : Value) (L : List (Int × Int)) (W : World), L.length ≤ 1000 → Gr w W → 0 < L.length → (∃ g cap, v = .slice (some ⟨g, 0, none⟩) L.length cap ∧ Evs W g L) → Calls Tryq.prog 67 #[v] W (SortE W L)) :
    Calls Tryq.prog 31 #[.int .i64 y, .int .i64 1] w (OfE w (evs y 1)) := by
  have C1 := Lib.hid fun W => rows_c W
  have C2 := Lib.hid fun W (hW : Gr w W) i (hi : i < 19) => htoday_row y i W (G.gr hW) h0 h1 hi
  have C3 := Lib.hid hS
  clear hS G
  go_enter Tryq.func31, Tryq.ntmps31
  go_wp2_with (first | (go_at_call 68; (with_reducible refine (C1.out _).mono ?_); rintro e wA ⟨gR, rfl, hR, hgA⟩))
  go_loopg [6, 30] 19 (fun kx s6 s30 wr => ∃ (i : Nat), i ≤ 19 ∧ 19 - i ≤ kx ∧ s30 = .int .i64 (i : Int) ∧ wr.ownsRow wA.heap.size 67 2 s6 (evp y 1 i).length (cel (evp y 1 i)) ∧ Gr wA wr)
  case atStart => exact ⟨0, by omega, by omega, rfl, World.ownsRow_nil _ _ _ _, Gr.refl _⟩
  case round =>
    obtain ⟨i, hi, hm, rfl, ho, hg⟩ := hrel
    rename World => wo
    by_cases e : i < 19
    · have e' : (i : Int) < 19 := by omega
      obtain ⟨k0, k1, k2, k3, k4, k5, k6⟩ := frow_cells (hR.gr hg) e
      obtain ⟨f0, f1, f2, f3⟩ := fFT 1 e
      have fl : (evp y 1 i).length ≤ 8 * i := evp_len y 1 i (by omega)
      obtain ⟨K, hK⟩ : ∃ K, fK i = K := ⟨_, rfl⟩
      obtain ⟨A, hA⟩ : ∃ A, fA i = A := ⟨_, rfl⟩
      obtain ⟨B, hB⟩ : ∃ B, fB i = B := ⟨_, rfl⟩
      obtain ⟨C, hC⟩ : ∃ C, fC i = C := ⟨_, rfl⟩
      obtain ⟨D, hD⟩ : ∃ D, fD i = D := ⟨_, rfl⟩
      rw [hK] at k0; rw [hA] at k3; rw [hB] at k4; rw [hC] at k5; rw [hD] at k6
      rw [show fF 1 i = C from by show fC i = C; exact hC] at f0 f1 f2
      rw [show fT 1 i = D from by show fD i = D; exact hD] at f1 f2 f3
      go_wp2
      obtain ⟨W1, hW1⟩ : ∃ W1, W1 = wo.alloc (Obj.cells #[.int .i64 K, .int .i64 (fN i), .bool (fL i), .int .i64 A, .int .i64 B, .int .i64 C, .int .i64 D] 115) := ⟨_, rfl⟩
      rw [← hW1]
      have l1 : wo.heap.size < W1.heap.size := by rw [hW1]; simp
      have b0 : W1.cell? ⟨wo.heap.size, 0, none⟩ = some (.int .i64 K) := by rw [hW1]; simp [go_sem]
      have b1 : W1.cell? ⟨wo.heap.size, 1, none⟩ = some (.int .i64 (fN i)) := by rw [hW1]; simp [go_sem]
      have b2 : W1.cell? ⟨wo.heap.size, 2, none⟩ = some (.bool (fL i)) := by rw [hW1]; simp [go_sem]
      have b3 : W1.cell? ⟨wo.heap.size, 3, none⟩ = some (.int .i64 A) := by rw [hW1]; simp [go_sem]
      have b4 : W1.cell? ⟨wo.heap.size, 4, none⟩ = some (.int .i64 B) := by rw [hW1]; simp [go_sem]
      have b5 : W1.cell? ⟨wo.heap.size, 5, none⟩ = some (.int .i64 C) := by rw [hW1]; simp [go_sem]
      have b6 : W1.cell? ⟨wo.heap.size, 6, none⟩ = some (.int .i64 D) := by rw [hW1]; simp [go_sem]
      have G1 : Gr wo W1 := by rw [hW1]; exact (Gr.refl _).alloc _
      have GA1 : Gr wA W1 := hg.trans G1
      have o1 := own_gr ho G1
      have hx1 : W1.heap[wo.heap.size]? = some (Obj.cells #[.int .i64 K, .int .i64 (fN i), .bool (fL i), .int .i64 A, .int .i64 B, .int .i64 C, .int .i64 D] 115 (0, 0)) := by rw [hW1]; exact heap_alloc_new _ _
      clear hW1 k0 k1 k2 k3 k4 k5 k6 ho hg
      go_quiet (fail)
      go_wp2
      go_quiet (fail)
      go_wp2_with (first | (go_at_call 24; (refine (C2.out _ ((by repeat (first | exact Gr.refl _ | refine Gr.setCell ?_ _ _ (by first | exact Nat.le_refl _ | (simp; omega) | (simp; done)) | refine Gr.grown ?_ _ _ | refine Gr.drewN ?_ _ | refine Gr.drew ?_ | refine Gr.alloc ?_ _ | refine Gr.grow ?_ _ | (refine Gr.trans ?_ (by assumption))))) i e).mono ?_); rintro e1 wD ⟨rfl, hgD⟩))
      have GW : Gr W1 wD := (by repeat (first | exact Gr.refl _ | refine Gr.setCell ?_ _ _ (by first | exact Nat.le_refl _ | (simp; omega) | (simp; done)) | refine Gr.grown ?_ _ _ | refine Gr.drewN ?_ _ | refine Gr.drew ?_ | refine Gr.alloc ?_ _ | refine Gr.grow ?_ _ | (refine Gr.trans ?_ (by assumption))))
      have GAD : Gr wA wD := GA1.trans GW
      have oD := own_gr o1 GW
      have hbx := (GW.heap l1).trans hx1
      have hsD : wA.heap.size ≤ wD.heap.size := GAD.size
      have lD : wo.heap.size < wD.heap.size := by have := GW.size; omega
      clear hgD GW o1 hx1 GA1 G1 b0 b1 b2 b3 b4 b5 b6
      obtain ⟨F, hF⟩ : ∃ F, fdy y i = F := ⟨_, rfl⟩
      have rF := fdy_range (i := i) h0 h1 e
      rw [hF] at rF ⊢
      obtain ⟨r0, r1⟩ := rF
      by_cases hE : fH (lp y) i = true
      · rw [show fer y i = 0 from if_pos hE]
        go_loopg [6, 13] (D + 1 - C).toNat (fun kx s6 s13 wm => ∃ (m : Nat), (m : Int) ≤ D + 1 - C ∧ (D + 1 - C).toNat - m ≤ kx ∧ s13 = .int .i64 (C + (m : Int)) ∧ wm.ownsRow wA.heap.size 67 2 s6 (evp y 1 i ++ evm y 1 i m).length (cel (evp y 1 i ++ evm y 1 i m)) ∧ Gr wA wm ∧ wm.heap[wo.heap.size]? = some (Obj.cells #[.int .i64 K, .int .i64 (fN i), .bool (fL i), .int .i64 A, .int .i64 B, .int .i64 C, .int .i64 D] 115 (0, 0)) ∧ wo.heap.size < wm.heap.size)
        case atStart => exact ⟨0, by omega, by omega, by simp, by simpa [evm] using oD, GAD, hbx, lD⟩
        case round =>
          obtain ⟨m, hm1, hm2, rfl, om, gm, hbm, lm⟩ := hrel
          by_cases e2 : C + (m : Int) ≤ D
          · have c0 : wr.cell? ⟨wo.heap.size, 0, none⟩ = some (.int .i64 K) := by rw [Lib.cell_of_heap hbm]; rfl
            have hne := own_ne om hbm (by decide)
            have hml : (evp y 1 i ++ evm y 1 i m).length ≤ 1000 := by rw [List.length_append, evm_len]; omega
            have hsm := gm.size
            go_wp2_with (first | (at_builtin; refine append_evs _ rfl _ _ rfl wA.heap.size _ _ _ rfl (om.alloc _) _ 1 [.int .i64 K, .int .i64 (F + (C + (m : Int)) - 1)] rfl rfl (news2 rfl _ _ _) (by simp [Value.oneCell']) (by omega) (by simp; omega) ?_; intro g1 c1 wX OX kX bX GX_; have GX : Gr wA wX := GX_ wA (gm.alloc _) (Nat.le_refl _)))
            go_roundg ((D + 1 - C).toNat - (m + 1))
            case measure => omega
            case rel =>
              have ev : evp y 1 i ++ evm y 1 i (m + 1) = evp y 1 i ++ evm y 1 i m ++ [(K, F + (C + (m : Int)) - 1)] := by
                rw [evm_snoc, ← List.append_assoc, hK, hF, show fF 1 i = C from by show fC i = C; exact hC]
              refine ⟨m + 1, by omega, Nat.le_refl _, by go_num, ?_, GX, ?_, ?_⟩
              · rw [ev, cel_snoc]
                simp only [List.length_append, List.length_cons, List.length_nil, Nat.zero_add] at OX ⊢
                exact OX
              · rw [kX.block wo.heap.size (by simp; omega) hne, Lib.alloc_old _ _ _ lm]
                exact hbm
              · have := kX.size
                simp at this
                omega
          · go_wp2
            have hm3 : m = (fT 1 i + 1 - fF 1 i).toNat := by
              have a1 : fF 1 i = C := by show fC i = C; exact hC
              have a2 : fT 1 i = D := by show fD i = D; exact hD
              rw [a1, a2]
              omega
            go_roundg (19 - (i + 1))
            case measure => omega
            case rel =>
              refine ⟨i + 1, by omega, Nat.le_refl _, by go_num, ?_, gm⟩
              rw [evp_snoc, evr_yes hE, ← hm3]
              exact om
      · rw [show fer y i = 3 from if_neg hE]
        go_loopg [6, 13] 1 (fun kx s6 s13 wm => s13 = .int .i64 C ∧ wm.ownsRow wA.heap.size 67 2 s6 (evp y 1 i).length (cel (evp y 1 i)) ∧ Gr wA wm)
        case atStart => exact ⟨rfl, oD, GAD⟩
        case round =>
          obtain ⟨rfl, om, gm⟩ := hrel
          go_wp2
          go_roundg (19 - (i + 1))
          case measure => omega
          case rel =>
            refine ⟨i + 1, by omega, Nat.le_refl _, by go_num, ?_, gm⟩
            rw [evp_snoc, evr_no hE, List.append_nil]
            exact om
    · obtain rfl : i = 19 := by omega
      have hp := evs_pos y 1 (by decide)
      have hlen := evp_len y 1 19 (by omega)
      obtain ⟨g, cap, rfl⟩ : ∃ g cap, u6 = .slice (some ⟨g, 0, none⟩) (evp y 1 19).length cap := by
        rcases ho.2 with ⟨-, z⟩ | ⟨g, cap, -, rfl, -⟩
        · omega
        · exact ⟨g, cap, rfl⟩
      have HO := Lib.hid (evs_of ho hp rfl)
      clear ho
      go_wp2_with (first | (go_at_call 67; refine (C3.out _ (evp y 1 19) _ (by unfold evp at *; omega) ((by repeat (first | exact Gr.refl _ | refine Gr.setCell ?_ _ _ (by first | exact Nat.le_refl _ | (simp; omega) | (simp; done)) | refine Gr.grown ?_ _ _ | refine Gr.drewN ?_ _ | refine Gr.drew ?_ | refine Gr.alloc ?_ _ | refine Gr.grow ?_ _ | (refine Gr.trans ?_ (by assumption))))) hp ⟨g, cap, rfl, HO.out⟩).mono ?_; rintro e2 wE ⟨g2, cap2, M, rfl, hPerm, hSort, hEv, hgE⟩))
      go_ret2
      exact ⟨g2, cap2, M, rfl, hPerm, hSort, hEv, (by repeat (first | exact Gr.refl _ | refine Gr.setCell ?_ _ _ (by first | exact Nat.le_refl _ | (simp; omega) | (simp; done)) | refine Gr.grown ?_ _ _ | refine Gr.drewN ?_ _ | refine Gr.drew ?_ | refine Gr.alloc ?_ _ | refine Gr.grow ?_ _ | (refine Gr.trans ?_ (by assumption))))⟩
end Go.Proofs.YtegkbjpcgelomaaGreatDoor.Walks
end
/- A region that draws its order: its first n operations only read, its callees may draw and lay blocks; the rest come behind all of these, one by one: the reading ones walked once, in the order of the text, then the rest, in every world that may have come. -/
section
namespace Go.Proofs.YtegkbjpcgelomaaGreatDoor.Base
open Go Go.RowKit Go.Sort
section
variable {P : Program} {ops : Array Oper} {md : Region.Mode} {C : World → Prop}

/-- Whatever order is picked, as long as the first n have not all come: what comes is one of these; then L. -/
def headQ (P : Program) (md : Region.Mode) (ops : Array Oper) (C : World → Prop) (n : Nat) (L : Array Bool → Act → Prop) : Nat → Array Bool → Act → Prop
  | 0, ls, a => L ls a
  | f + 1, ls, a => Region.ready md ops ls ≠ [] ∧ ∀ i ∈ Region.ready md ops ls, i < n ∧ qOp P ops C i (headQ P md ops C n L f (ls.setIfInBounds i true)) a

theorem any_of_headQ {n g : Nat} {L : Array Bool → Act → Prop} {Q' : Exit → Act → World → Prop} (hL : ∀ ls a w, C w → L ls a → wpAny P md ops Q' g ls a w) :
    ∀ (f : Nat) (ls : Array Bool) (a : Act) (w : World), C w → headQ P md ops C n L f ls a → wpAny P md ops Q' (f + g) ls a w := by
  intro f
  induction f with
  | zero => intro ls a w hw h; rw [Nat.zero_add]; exact hL _ _ _ hw h
  | succ f ih =>
    intro ls a w hw h
    rw [show f + 1 + g = (f + g) + 1 by omega]
    exact ⟨fun h0 => absurd h0 h.1, fun i hi => wpOp_of_qOp hw (fun a' w' hw' h' => ih _ a' w' hw' h') (h.2 i hi).2⟩

theorem headQ_first {n i : Nat} {oi : Oper} {v : Value} {L : Array Bool → Act → Prop} (hi : ops[i]? = some oi) (hsel : ∀ (j : Nat) (o : Oper) cs b, ops[j]? = some o → o.op ≠ .select cs b)
    (hs : Region.sinkB md ops n = true) (hc : Region.chainB md ops n = true) (hn : n < ops.size) (hin : i < n) (hdone : ∀ ls a, L ls a → ∀ j ∈ Region.ready md ops ls, n ≤ j) :
    ∀ (f : Nat) (ls : Array Bool) (a : Act), HeadInv md ops n ls →
      (∀ j oj, ops[j]? = some oj → j ≠ i → ls.getD j true = false → (∀ e ∈ oj.after, Region.binds md e = true → e.on ≠ i) → oi.apart ops oj = true) →
      i ∈ Region.ready md ops ls → YieldsIn P ops C oi v a → headQ P md ops C n L f (ls.setIfInBounds i true) (a.put oi.dst v) → headQ P md ops C n L (f + 1) ls a := by
  intro f
  induction f with
  | zero =>
    intro ls a inv _ hr hy H
    have un := (mem_ready.1 hr).1
    have low : ∀ j, j ∈ Region.ready md ops ls → j < n := fun j hj => by
      rcases Nat.lt_or_ge j n with h | h
      · exact h
      · exact absurd hj (tail_waits hs hc hn inv _ i rfl hin un j h)
    refine ⟨fun h => (by rw [h] at hr; cases hr), fun j hj => ⟨low j hj, ?_⟩⟩
    by_cases e : j = i
    · subst e; exact hy.qOp hi H
    · exact absurd (hdone _ _ H j (ready_mono hj e)) (by have := low j hj; omega)
  | succ f ih =>
    intro ls a inv free hr hy H
    have un := (mem_ready.1 hr).1
    have low : ∀ j, j ∈ Region.ready md ops ls → j < n := fun j hj => by
      rcases Nat.lt_or_ge j n with h | h
      · exact h
      · exact absurd hj (tail_waits hs hc hn inv _ i rfl hin un j h)
    refine ⟨fun h => (by rw [h] at hr; cases hr), fun j hj => ⟨low j hj, ?_⟩⟩
    by_cases e : j = i
    · subst e; exact hy.qOp hi H
    · have H1 := (H.2 j (ready_mono hj e)).2
      obtain ⟨jun, oj, hoj, hall⟩ := mem_ready.1 hj
      have nobind : ∀ x ∈ oj.after, Region.binds md x = true → x.on ≠ i := fun x hx hb heq => by
        have q := hall x hx hb
        rw [heq, getD_both un] at q
        cases q
      have H2 := qOp_put hoj (free j oj hoj e jun nobind) (fun cs b => hsel i oi cs b hi) (fun cs b => hsel j oj cs b hoj) hy H1
      refine qOp_mono (fun a' H3 => ih (ls.setIfInBounds j true) a' (inv.set hj (low j hj)) (fun k ok hk hki hun hno => free k ok hk hki ?_ hno) (ready_mono hr (Ne.symm e)) H3.1 ?_) H2
      · by_cases z : j = k
        · subst z; exact jun
        · rw [getD_set_ne true z] at hun; exact hun
      · rw [Array.setIfInBounds_comm _ _ e]; exact H3.2

theorem headQ_lex {n g : Nat} {Lq : Act → Prop} (hsel : Region.noSelect ops = true) (hs : Region.sinkB md ops n = true) (hc : Region.chainB md ops n = true) (hn : n < ops.size) :
    ∀ (l : List Oper) (k : Nat) (ls : Array Bool) (a : Act), (∀ j, j < l.length → l[j]? = ops[k + j]?) → k + l.length = n → HeadInv md ops n ls →
    Region.lexHead md ops g l.length k ls = true → wpQuiet P ops C Lq l a → headQ P md ops C n (fun ls' a' => Region.seqB md ops g n ls' = true ∧ Lq a') l.length ls a := by
  intro l
  induction l with
  | nil =>
    intro k ls a _ hk _ hB h
    have e : k = n := by simpa using hk
    subst e
    exact ⟨by simpa [Region.lexHead] using hB, h⟩
  | cons o l ih =>
    intro k ls a hl hk inv hB h
    have h0 : ops[k]? = some o := by simpa using (hl 0 (by simp)).symm
    simp only [List.length_cons, Region.lexHead, Bool.and_eq_true] at hB
    obtain ⟨⟨hr, hf⟩, hB'⟩ := hB
    have hkn : k < n := by simp only [List.length_cons] at hk; omega
    have hr' : k ∈ Region.ready md ops ls := by simpa using hr
    have hst : qOp P ops C k (wpQuiet P ops C Lq l) a := by unfold qOp; simp only [h0]; exact h
    obtain ⟨v, hy, hK⟩ := yieldsIn_of_qOp h0 hst
    exact headQ_first h0 (Region.noSelect_spec hsel) hs hc hn hkn (fun ls' a' hL => seqB_ready hL.1) l.length ls a inv (Region.free_spec h0 hf) hr' hy
      (ih (k + 1) _ _ (fun j hj => by have := hl (j + 1) (by simp; omega); simpa [Nat.add_assoc, Nat.add_comm 1 j] using this) (by simp only [List.length_cons] at hk; omega) (inv.set hr' hkn) hB' hK)

/-- In the class of grown worlds. -/
theorem wp_region_grown_tail {id : Nat} {Q : Exit → Act → World → Prop} {a : Act} {w : World} {l : List Oper} (n : Nat) (hm : P.follows .mixedOrders = true) (hB : Region.lexTailB .any l.toArray n = true)
    (h : wpQuiet P l.toArray (fun w' => ∃ p : GrownBy, w' = grow (w.drewN p.n) p.os) (fun a' => ∀ w', (∃ p : GrownBy, w' = grow (w.drewN p.n) p.os) → wpList P l.toArray Q (l.drop n) a' w') (l.take n) a) : (Code.region id l.toArray true).wp P Q a w := by
  simp only [Region.lexTailB, Bool.and_eq_true, decide_eq_true_eq] at hB
  obtain ⟨⟨⟨⟨hsel, hn⟩, hs⟩, hc⟩, hlex⟩ := hB
  have hn' : n < l.length := by simpa using hn
  have htl : (l.take n).length = n := by simp; omega
  have hdl : (l.drop n).length = l.toArray.size - n := by simp
  have inv0 : HeadInv .any l.toArray n (Array.replicate l.toArray.size false) :=
    ⟨by simp, fun j oj _ hl => (by rw [getD_replicate_false] at hl; cases hl), fun t _ ht => getD_in (by simpa using ht) (getD_replicate_false _ _)⟩
  have H := headQ_lex (md := .any) (g := l.toArray.size - n) hsel hs hc hn (l.take n) 0 _ a (fun j hj => by
    have hj' : j < n := by rw [htl] at hj; exact hj
    simp [hj']) (by simpa using htl) inv0 (by rw [htl]; exact hlex) h
  refine wp_region_any hm ?_
  have := any_of_headQ (Q' := Q) (g := l.toArray.size - n) (fun ls a' w' hw' hL => by
    have := wpAny_of_seq (md := .any) (Q' := Q) (l.drop n) n ls a' w' (fun j => by simp [List.getElem?_drop]) (by rw [hdl]; exact hL.1) (hL.2 w' hw')
    rwa [hdl] at this) _ _ _ _ (show (fun w' => ∃ p : GrownBy, w' = grow (w.drewN p.n) p.os) { w with drawn := w.drawn + 1 } from ⟨⟨1, #[]⟩, by rw [grow_empty]; rfl⟩) H
  rw [htl, show n + (l.toArray.size - n) = l.toArray.size by omega] at this
  exact this
end
end Go.Proofs.YtegkbjpcgelomaaGreatDoor.Base
end
/- feast.Sort. -/
section
namespace Go.Proofs.YtegkbjpcgelomaaGreatDoor.Walks
open Go Go.RowKit Go.Sort Go.Proofs.YtegkbjpcgelomaaGreatDoor.Base Go.Proofs.YtegkbjpcgelomaaGreatDoor.Plain Go.Proofs.YtegkbjpcgelomaaGreatDoor.Math

theorem evc_or (x y : Int × Int) : (if cmpI x.2 y.2 = 0 then cmpI x.1 y.1 else cmpI x.2 y.2) = evc x y := by
  unfold cmpI evc
  repeat' split
  all_goals (first | rfl | omega)
theorem compare_g (x y : Int) (w : World) : Calls Tryq.prog 102 #[.int .i64 x, .int .i64 y] w fun e w' => e = .returned (.int .i64 (cmpI x y)) ∧ Gr w w' :=
  (compare_c x y w).mono fun _ _ ⟨h, k⟩ => ⟨h, by rw [k]; exact .refl _⟩
set_option maxHeartbeats 4000000 in
theorem sort1_c (x y : Int × Int) (w : World) : Calls Tryq.prog 100 #[.agg #[.int .i64 x.1, .int .i64 x.2], .agg #[.int .i64 y.1, .int .i64 y.2]] w fun e w' => e = .returned (.int .i64 (evc x y)) ∧ Gr w w' := by
  rw [← evc_or]
  obtain ⟨x1, x2⟩ := x
  obtain ⟨y1, y2⟩ := y
  simp only
  have C1 := Lib.hid fun a b W => compare_g a b W
  go_enter Tryq.func100, Tryq.ntmps100
  go_wp2
  obtain ⟨W1, hW1⟩ : ∃ W1, W1 = (w.alloc (Obj.cells #[.int .i64 x1, .int .i64 x2] 67)).alloc (Obj.cells #[.int .i64 y1, .int .i64 y2] 67) := ⟨_, rfl⟩
  rw [← hW1]
  have l0 : w.heap.size < W1.heap.size := by rw [hW1]; simp; omega
  have l1 : w.heap.size + 1 < W1.heap.size := by rw [hW1]; simp
  have a0 := gcell_in l0 (show W1.cell? ⟨w.heap.size, 0, none⟩ = some (.int .i64 x1) by rw [hW1]; simp [go_sem])
  have a1 := gcell_in l0 (show W1.cell? ⟨w.heap.size, 1, none⟩ = some (.int .i64 x2) by rw [hW1]; simp [go_sem])
  have a2 := gcell_in l1 (show W1.cell? ⟨w.heap.size + 1, 0, none⟩ = some (.int .i64 y1) by rw [hW1]; simp [go_sem])
  have a3 := gcell_in l1 (show W1.cell? ⟨w.heap.size + 1, 1, none⟩ = some (.int .i64 y2) by rw [hW1]; simp [go_sem])
  have G1 : Gr w W1 := by rw [hW1]; exact ((Gr.refl _).alloc _).alloc _
  clear hW1 l0 l1
  (refine wp_region_grown_tail 10 mixed (by kernel_rfl) ?_; simp only [List.take_succ_cons, List.take_zero, List.drop_succ_cons, List.drop_zero]; (repeat (first | go_big_quiet_step ((go_at_call 102; with_reducible exact gr_of (C1.out _ _ _))) | quiet_step ((go_at_call 102; with_reducible exact gr_of (C1.out _ _ _))))); refine wpQuiet_nil ?_; intro _ hw'; obtain ⟨⟨nq, osq⟩, hw''⟩ := hw'; subst hw'')
  obtain ⟨W2, hW2⟩ : ∃ W2, W2 = grow (W1.drewN nq) osq := ⟨_, rfl⟩
  have G2 : Gr w W2 := by rw [hW2]; exact G1.grown _ _
  rw [← hW2]
  clear hW2 a0 a1 a2 a3
  go_wp2_with (first | (go_at_call 101; refine (or_c (cmpI x2 y2) (cmpI x1 y1) W2.heap.size _ (by simp [go_sem]) (by simp [go_sem])).mono ?_; rintro e w3 ⟨rfl, rfl⟩))
  all_goals (go_ret; exact ⟨rfl, (by repeat (first | exact Gr.refl _ | refine Gr.setCell ?_ _ _ (by first | exact Nat.le_refl _ | (simp; omega) | (simp; done)) | refine Gr.grown ?_ _ _ | refine Gr.drewN ?_ _ | refine Gr.drew ?_ | refine Gr.alloc ?_ _ | refine Gr.grow ?_ _ | (refine Gr.trans ?_ (by assumption))))⟩)
def evE (x : Int × Int) : List Value := [.int .i64 x.1, .int .i64 x.2]
theorem evc_lt (x y : Int × Int) : ltOf evc x y = decide (x.2 < y.2 ∨ x.2 = y.2 ∧ x.1 < y.1) := by
  unfold ltOf evc
  by_cases h1 : x.2 < y.2
  · simp [h1]
  · by_cases h2 : y.2 < x.2
    · simp [h1, h2]; omega
    · by_cases h3 : x.1 < y.1
      · simp [h1, h2, h3]; omega
      · by_cases h4 : y.1 < x.1 <;> simp [h1, h2, h3, h4]
theorem evc_swo : SWO (ltOf evc) where
  irrefl x := by rw [evc_lt]; simp
  trans x y z h1 h2 := by rw [evc_lt] at *; simp only [decide_eq_true_eq] at *; omega
  ntrans x y z h1 h2 := by rw [evc_lt] at *; simp only [decide_eq_false_iff_not] at *; omega
theorem evc_tot (x y : Int × Int) (h1 : ltOf evc x y = false) (h2 : ltOf evc y x = false) : x = y := by
  rw [evc_lt] at *
  simp only [decide_eq_false_iff_not] at *
  exact Prod.ext (by omega) (by omega)
theorem evc_le (x y : Int × Int) : (!ltOf evc y x) = decide (evc y x ≥ 0) := by
  rw [evc_lt]
  unfold evc
  by_cases h1 : y.2 < x.2
  · simp [h1]
  · by_cases h2 : x.2 < y.2
    · simp [h1, h2]; omega
    · by_cases h3 : y.1 < x.1
      · have : y.2 = x.2 := by omega
        simp [h1, h2, h3, this]
      · by_cases h4 : x.1 < y.1 <;> simp [h1, h2, h3, h4]
theorem Gr.modify {a b : World} (h : Gr a b) (blk : Nat) (f : Obj → Obj) (hb : a.heap.size ≤ blk) : Gr a { b with heap := b.heap.modify blk f } := by
  obtain ⟨⟨q, os, rfl⟩⟩ := h
  refine ⟨⟨q, os.modify (blk - a.heap.size) f, ?_⟩⟩
  unfold Go.Sort.grow
  simp only
  congr 1
  exact modify_append_right _ _ _ _ hb
theorem Gr.sortK {a w : World} (h : Gr a w) {α : Type} [Inhabited α] (enc : α → List Value) (k blk off n : Nat) (d : Array α) (os : Array Obj) (hb : a.heap.size ≤ blk) : Gr a (sortWorldK enc k w blk off n d os) := by
  unfold sortWorldK
  refine Gr.grow ?_ _
  exact Gr.modify (h.drewN n) blk _ hb
theorem evs_cell {w : World} {g : Nat} {L : List (Int × Int)} (E : Evs w g L) (j : Nat) (u : Value) (h : (cel L)[j]? = some u) : w.cell? ((⟨g, 0, none⟩ : Addr).add j) = some u := by
  have hj : j < L.length * 2 := by rw [← cel_len]; exact (List.getElem?_eq_some_iff.1 h).1
  have hi : j / 2 < L.length := by omega
  have he := List.getElem?_eq_getElem hi
  obtain ⟨a, b⟩ := cel_at L (j / 2) _ he
  obtain ⟨c, d⟩ := E.c (j / 2) _ he
  have key : w.cell? ⟨g, j, none⟩ = some u := by
    rcases Nat.mod_two_eq_zero_or_one j with q | q
    · rw [show 2 * (j / 2) = j by omega] at a c
      rw [a] at h; cases h; exact c
    · rw [show 2 * (j / 2) + 1 = j by omega] at b d
      rw [b] at h; cases h; exact d
  by_cases z : j = 0
  · subst z; simpa [Addr.add] using key
  · simpa [Addr.add, z] using key
theorem cel_one (L : List (Int × Int)) : ∀ u ∈ cel L, u.oneCell' = true := by
  intro u hu
  simp only [cel, List.mem_flatMap, List.mem_cons, List.not_mem_nil, or_false] at hu
  obtain ⟨e, -, rfl | rfl⟩ := hu <;> rfl
def CloneE (w : World) (L : List (Int × Int)) (e : Ending) (w' : World) : Prop :=
  ∃ g cap, e = .returned (.slice (some ⟨g, 0, none⟩) L.length cap) ∧ w'.ownsRow w.heap.size 67 2 (.slice (some ⟨g, 0, none⟩) L.length cap) L.length (cel L) ∧ Gr w w'
set_option maxRecDepth 100000 in
set_option maxHeartbeats 4000000 in
theorem clone_c (g cap : Nat) (L : List (Int × Int)) (w : World) (hL : 0 < L.length) (hL2 : L.length ≤ 1000) (E : Evs w g L) :
    Calls Tryq.prog 98 #[.slice (some ⟨g, 0, none⟩) L.length cap] w (CloneE w L) := by
  obtain ⟨i, h2, h3, h4, h5⟩ := info_parts ninfo_ev
  have E2 : Evs (w.alloc (.cells #[] 67)) g L := E.gr ((Gr.refl w).alloc _)
  have hN := Lib.hid (evs_cell E2)
  have hw : (w.alloc (.cells #[] 67)).ownsRow w.heap.size 67 2 (.slice (some ⟨w.heap.size, 0, none⟩) 0 0) 0 [] := own_new (w := w) (cs := #[]) (Nat.le_refl _) rfl rfl (by decide)
  clear E E2
  have q22 : ∀ (w : World) (a : Option Addr) (n c n' c' : Nat), (binOp .eql 62 (.slice a n c) (.slice none n' c')).run Tryq.prog w = .ok (.bool a.isNone) w := fun w a n c n' c' => Lib.run_eql_slice_nil w _ _ a n c n' c' nund_evs
  go_enter Tryq.func98, Tryq.ntmps98
  go_wp2_with (first | (at_builtin; refine wpList_append_gr _ rfl _ _ 62 rfl w.heap.size 67 i (.agg #[.int .i64 0, .int .i64 0]) 2 16 nund_evs h2 h3 h4 h5 rfl (by decide) _ 0 [] rfl hw ⟨g, 0, none⟩ L.length cap (cel L) rfl (cel_len L) hN.out (cel_one L) hL (by simp only [maxLen]; omega) (by omega) (by simp) ?_; intro g1 c1 wX OX kX bX GX_; have GX : Gr w wX := GX_ w ((by repeat (first | exact Gr.refl _ | refine Gr.setCell ?_ _ _ (by first | exact Nat.le_refl _ | (simp; omega) | (simp; done)) | refine Gr.grown ?_ _ _ | refine Gr.drewN ?_ _ | refine Gr.drew ?_ | refine Gr.alloc ?_ _ | refine Gr.grow ?_ _ | (refine Gr.trans ?_ (by assumption))))) (Nat.le_refl _)))
  go_ret
  exact ⟨g1, c1, by simp, by simpa using OX, GX⟩
theorem holds_of {w : World} {base g n cap : Nat} {L : List (Int × Int)} (h : w.ownsRow base 67 2 (.slice (some ⟨g, 0, none⟩) n cap) n (cel L)) (hl : L.length = n) : HoldsK evE 2 w g 0 L.toArray := by
  rcases h.2 with ⟨q, -⟩ | ⟨g', cap', cur, q, -, hh, -⟩
  · cases q
  · injection q with q1 q2 q3
    injection q1 with q4
    injection q4 with q5
    subst q5
    intro j hj
    rw [size_flatK] at hj
    have hj' : j < L.length * 2 := by simpa using hj
    have hi : j / 2 < L.length := by omega
    have he := List.getElem?_eq_getElem hi
    obtain ⟨a, b⟩ := cel_at L (j / 2) _ he
    refine ⟨?_, Lib.frozen_of_heap hh _⟩
    rw [get_flatK _ _ _ _ hj]
    have e0 : (L.toArray)[j / 2]! = L[j / 2] := by simp [getElem!_pos, hi]
    rw [e0]
    have k := fun u (hu : (cel L)[j]? = some u) => h.cells (g := g) rfl j u hu
    have key : ∀ u, (cel L)[j]? = some u → w.cell? ⟨g, 0 + j, none⟩ = some u := by
      intro u hu
      have := k u hu
      by_cases z : j = 0
      · subst z; simpa [Addr.add] using this
      · simpa [Addr.add, z] using this
    rcases Nat.mod_two_eq_zero_or_one j with q | q
    · rw [show 2 * (j / 2) = j by omega] at a
      rw [key _ a, q]; rfl
    · rw [show 2 * (j / 2) + 1 = j by omega] at b
      rw [key _ b, q]; rfl
theorem evs_holds {w : World} {g : Nat} {M : List (Int × Int)} (h : HoldsK evE 2 w g 0 M.toArray) (hg : g < w.heap.size) : Evs w g M := by
  refine ⟨hg, fun i e he => ?_⟩
  have hi := (List.getElem?_eq_some_iff.1 he).1
  have h0 := (h (2 * i) (by rw [size_flatK]; simp; omega)).1
  have h1 := (h (2 * i + 1) (by rw [size_flatK]; simp; omega)).1
  rw [get_flatK _ _ _ _ (by simp; omega)] at h0 h1
  have e0 : (M.toArray)[i]! = e := by
    rw [getElem!_pos _ _ (by simpa using hi)]
    simpa using (List.getElem?_eq_some_iff.1 he).2
  rw [show 2 * i / 2 = i by omega, show 2 * i % 2 = 0 by omega, e0, Nat.zero_add] at h0
  rw [show (2 * i + 1) / 2 = i by omega, show (2 * i + 1) % 2 = 1 by omega, e0, Nat.zero_add] at h1
  exact ⟨h0, h1⟩
theorem evc_sorted (L : List (Int × Int)) : (L.mergeSort fun x y => !(ltOf evc) y x).Pairwise (fun x y => evc y x ≥ 0) := by
  have h := List.pairwise_mergeSort (le := fun x y => !(ltOf evc) y x) (fun a b c => by
    simp only [evc_lt, Bool.not_eq_true', decide_eq_false_iff_not]
    omega) (fun a b => by
    simp only [evc_lt, Bool.or_eq_true, Bool.not_eq_true', decide_eq_false_iff_not]
    omega) L
  refine h.imp fun {a b} hab => ?_
  rw [evc_le] at hab
  simpa using hab
theorem ev_agg (w : World) : (isAgg 67).run Tryq.prog w = .ok true w := by first | (rw [Tryq.agg_run]; kernel_rfl) | simp
theorem ev_size (w : World) : (Go.sizeOf 67).run Tryq.prog w = .ok 2 w := by first | (rw [Tryq.size_run]; kernel_rfl) | simp
set_option maxHeartbeats 4000000 in
theorem sort_c (g cap : Nat) (L : List (Int × Int)) (w : World) (hL : 0 < L.length) (hL2 : L.length ≤ 1000) (E : Evs w g L) :
    Calls Tryq.prog 67 #[.slice (some ⟨g, 0, none⟩) L.length cap] w (SortE w L) := by
  have C1 := Lib.hid (clone_c g cap L w hL hL2 E)
  have C2 : RowKit.Hid (∀ (g2 cap2 : Nat) (W : World), W.ownsRow w.heap.size 67 2 (.slice (some ⟨g2, 0, none⟩) L.length cap2) L.length (cel L) → Calls Tryq.prog 99 #[.slice (some ⟨g2, 0, none⟩) L.length cap2, .func (.func 100) #[] #[]] W fun e w' => e = .returned (.tuple #[]) ∧ ∃ n os, w' = sortWorldK evE 2 W g2 0 n (L.mergeSort fun x y => !(ltOf evc) y x).toArray os) := Lib.hid fun g2 cap2 W hW => by
    have hg2 : g2 < W.heap.size := by
      have := evs_of hW hL rfl
      exact this.lt
    have hS := AnyQ.slices_SortFunc_total Tryq.lays99 2 ev_agg ev_size evE (fun _ => rfl) (fun x v hv => by simp [evE] at hv; rcases hv with rfl | rfl <;> rfl) evc evc_swo 100 #[] g2 0 cap2 L.toArray W (fun _ _ => Tryq.call100 _ _)
      (fun m os dk _ x y => (sort1_c x y _).mono fun e w' ⟨h, k⟩ => ⟨h, k.out⟩) (holds_of hW rfl) hg2 (by simp; omega) evc_tot
    change Calls Tryq.prog 99 _ _ _ at hS
    simpa using hS
  clear E
  go_enter Tryq.func67, Tryq.ntmps67
  go_wp2_with (first | (go_at_call 98; refine (C1.out).mono ?_; rintro e w1 ⟨g2, cap2, rfl, HO, hg⟩) | (go_at_call 99; refine (C2.out _ _ _ HO).mono ?_; rintro e w2 ⟨rfl, n, os, rfl⟩))
  go_ret
  have hE := evs_of HO hL rfl
  have hb : w.heap.size ≤ g2 := by
    rcases HO.2 with ⟨q, -⟩ | ⟨g', cap', cur, q, hb, -⟩
    · cases q
    · injection q with q1 q2 q3
      injection q1 with q4
      injection q4 with q5
      rw [q5]; exact hb
  have hm : (L.mergeSort fun x y => !(ltOf evc) y x).length = L.length := List.length_mergeSort _
  refine ⟨g2, cap2, L.mergeSort fun x y => !(ltOf evc) y x, by rw [hm]; rfl, List.mergeSort_perm _ _, evc_sorted L, ?_, Gr.sortK hg _ _ _ _ _ _ _ hb⟩
  refine evs_holds (holdsK_sortWorldK_c evE 2 w1 g2 0 L.toArray _ n os (holds_of HO rfl) hE.lt (by simp [hm])) ?_
  have := (Gr.sortK (Gr.refl w1) evE 2 w1.heap.size 0 n (L.mergeSort fun x y => !(ltOf evc) y x).toArray os (Nat.le_refl _)).size
  have h2 := hE.lt
  simp [sortWorldK, putRowK, putRow, mapBlock, Sort.ahead, Go.Sort.grow] at *
  omega
end Go.Proofs.YtegkbjpcgelomaaGreatDoor.Walks
end
/- strings.Builder, used by a call that has made it: what strings.Join asks of it. -/
section
set_option maxRecDepth 100000
namespace Go.Proofs.YtegkbjpcgelomaaGreatDoor.Walks
open Go Go.RowKit Go.Sort Go.Proofs.YtegkbjpcgelomaaGreatDoor.Base

/-- Nothing below B has changed, and the tape is read on. -/
structure BG (B : Nat) (w w' : World) : Prop where
  b : Below B w w'
  d : w.drawn ≤ w'.drawn
theorem BG.refl (B : Nat) (w : World) : BG B w w := ⟨.refl B w, Nat.le_refl _⟩
theorem BG.trans {B : Nat} {a b c : World} (h : BG B a b) (k : BG B b c) : BG B a c := ⟨h.b.trans k.b, Nat.le_trans h.d k.d⟩
theorem BG.drew {B : Nat} {a b : World} (h : BG B a b) : BG B a b.drew := ⟨h.b.drew, Nat.le_succ_of_le h.d⟩
theorem BG.setCell {B : Nat} {a b : World} (h : BG B a b) {p : Addr} (hp : B ≤ p.block) (v : Value) : BG B a (b.setCell p v) := ⟨h.b.setCell hp v, h.d⟩
theorem BG.alloc {B : Nat} {a b : World} (h : BG B a b) (hb : B ≤ b.heap.size) (o : Obj) : BG B a (b.alloc o) := ⟨h.b.alloc hb o, h.d⟩
theorem BG.gr {w w' : World} (h : BG w.heap.size w w') : Gr w w' := by
  refine ⟨⟨w'.drawn - w.drawn, w'.heap.extract w.heap.size w'.heap.size, ?_⟩⟩
  obtain ⟨⟨h1, h2, h3, h4, h5⟩, hd⟩ := h
  have e : w'.heap = w.heap ++ w'.heap.extract w.heap.size w'.heap.size := by
    apply Array.ext_getElem?
    intro i
    by_cases hi : i < w.heap.size
    · rw [Array.getElem?_append_left hi, h5 i hi]
    · rw [Array.getElem?_append_right (by omega)]
      by_cases hj : i < w'.heap.size
      · rw [Array.getElem?_extract, if_pos (by omega)]
        congr 1
        omega
      · rw [Array.getElem?_eq_none (by omega), Array.getElem?_eq_none (by simp; omega)]
  cases w'
  cases w
  simp only [Go.Sort.grow, World.drewN] at *
  subst h1 h2 h3
  congr 1
  omega
section
variable {P : Program} (w : World)
theorem run_append_str (base : Nat) (t u ty e : TypeId) (i : TypeInfo) (ht : P.underlying t = some (.slice e)) (hu : P.underlying u = some .string) (hi : P.info? e = some i) (hz : i.zero = some (.int .u8 0))
    (hsize : i.size = 1) (hby : i.bytes = 1)
    (v : Value) (n : Nat) (xs : List Value) (hown : w.ownsRow base e 1 v n xs) (s : ByteArray) (hs : 0 < s.size)
    (h63 : n + s.size ≤ maxLen) (hbytes : n + s.size ≤ 140737488355328) (hbase : base ≤ w.heap.size) :
    ∃ v' w', (Builtin.append_ #[t, u] ty #[v, .string s]).run P w = .ok v' w' ∧ w'.ownsRow base e 1 v' (n + s.size) (xs ++ Lib.strCells s) ∧ w.grownBy w' v.ownBlock ∧ w.drawn ≤ w'.drawn := by
  obtain ⟨v', w', hr, ho, hg, -⟩ := Lib.run_append_own_string (P := P) w base t u ty e i ht hu hi hz hsize hby v n xs hown s h63 hbytes hbase
  refine ⟨v', w', hr, ho, hg, ?_⟩
  have hxl : xs.length = n := by simpa using hown.1
  rcases hown.2 with ⟨rfl, rfl⟩ | ⟨g, cap, cur, rfl, hbg, hg, hnc, hcm, hcs, htake⟩
  · have hr2 := run_append_nil_string (P := P) w t u ty e i (.int .u8 0) ht hu hi hz s (by omega) (by simp only [maxLen] at h63; omega) (by rw [hby]; omega)
    rw [hr] at hr2
    injection hr2 with _ e2
    rw [e2]
    exact Nat.le_succ _
  · by_cases hroom : n + s.size ≤ cap
    · have hr2 := Lib.run_append_room_string (P := P) w t u ty e i ht hu hi hsize g n cap cur hg s hroom (by omega)
      rw [hr] at hr2
      injection hr2 with _ e2
      rw [e2]
      exact Nat.le_refl _
    · have holds : ∀ j u, xs[j]? = some u → w.cell? ((⟨g, 0, none⟩ : Addr).add j) = some u := hown.cells (g := g) rfl
      have hr2 := Lib.run_append_grow_string (P := P) w t u ty e i (.int .u8 0) ht hu hi hz ⟨g, 0, none⟩ n cap xs (by rw [hsize]; simpa using hxl) holds s (by omega) (by simp only [maxLen] at h63; omega) (by rw [hby]; exact growslice_fits (by omega) (by omega))
      rw [hr] at hr2
      injection hr2 with _ e2
      rw [e2]
      exact Nat.le_succ _
theorem wpList_append_str {ops : Array Oper} {rest : List Oper} {o : Oper} {a : Act} {Q : Exit → Act → World → Prop} (hgd : o.guard = none) (sl x : Operand) (t u : TypeId)
    (ho : o.op = .call { callee := .builtin .append, args := #[sl, x], argTypes := #[t, u] })
    (base : Nat) (e : TypeId) (i : TypeInfo) (ht : P.underlying t = some (.slice e)) (hu : P.underlying u = some .string) (hi : P.info? e = some i) (hz : i.zero = some (.int .u8 0))
    (hsize : i.size = 1) (hby : i.bytes = 1)
    (v : Value) (n : Nat) (xs : List Value) (hs : a.eval sl = v) (hown : w.ownsRow base e 1 v n xs) (s : ByteArray) (hx : a.eval x = .string s) (hs0 : 0 < s.size)
    (h63 : n + s.size ≤ maxLen) (hbytes : n + s.size ≤ 140737488355328) (hbase : base ≤ w.heap.size)
    (h : ∀ v' w', w'.ownsRow base e 1 v' (n + s.size) (xs ++ Lib.strCells s) → w.grownBy w' v.ownBlock → w.drawn ≤ w'.drawn → wpList P ops Q rest (a.put o.dst v') w') : wpList P ops Q (o :: rest) a w := by
  refine wpList_plain hgd fun K hK => ?_
  obtain ⟨v', w', hr, h2, h3, h4⟩ := run_append_str (P := P) w base t u o.type e i ht hu hi hz hsize hby v n xs hown s hs0 h63 hbytes hbase
  unfold Oper.wp execOp
  simp only [ho, resolve, invoke, builtin, Sem.run_bind, Sem.run_pure, Result.andThen_ok, List.map_toArray, List.map_cons, List.map_nil, hs, hx, hr]
  exact hK _ _ (h v' w' h2 h3 h4)
end
abbrev BA (B b : Nat) (p : Value) (bs : List Value) (w : World) : Prop := Lib.BuilderAt 154 5 B b p bs w
theorem upon_nil {P : Program} {o : Oper} {a : Act} {K : Act → World → Prop} {Q : Exit → Act → World → Prop} {w : World} {x : Operand} (ho : o.op = .nilCheck x) (hx : a.eval x = undef) (hd : o.dst = none) (h : K a w) : Oper.wp P o a w K Q := by
  unfold Oper.wp execOp
  simp only [ho, hx]
  show Oper.upon P o a K Q (.ok (.value undef) w)
  rw [Oper.upon_value, hd]
  exact h
theorem lies_b : liesAt Tryq.prog Tryq.prog.depth 154 (2 / Tryq.prog.cellsOf 154) 0 154 1 = true := by kernel_rfl
theorem info_b : ∃ j, Tryq.prog.info? 154 = some j ∧ j.size = 2 := by
  obtain ⟨j, hj, hjs⟩ := Option.map_eq_some_iff.1 (show (Tryq.prog.info? 154).map (·.size) = some 2 by kernel_rfl)
  exact ⟨j, hj, hjs⟩
theorem info_u8 : ∃ j, Tryq.prog.info? 5 = some j ∧ j.zero = some (.int .u8 0) ∧ j.size = 1 ∧ j.bytes = 1 := by
  obtain ⟨j, hj, hjs⟩ := Option.map_eq_some_iff.1 (show (Tryq.prog.info? 5).map (fun i => (i.zero, i.size, i.bytes)) = some (some (.int .u8 0), 1, 1) by kernel_rfl)
  simp only [Prod.mk.injEq] at hjs
  exact ⟨j, hj, hjs.1, hjs.2.1, hjs.2.2⟩
/-- The check at a fresh builder. -/
theorem cc_fresh (b : Nat) (w : World) (h0 : w.cell? ⟨b, 0, none⟩ = some (.pointer none)) (hsh : w.shape? b = some (154, 2)) (hfz : w.frozen? ⟨b, 0, none⟩ = false) :
    Calls Tryq.prog 126 #[.pointer (some ⟨b, 0, none⟩)] w fun e w' => e = .returned (.tuple #[]) ∧ w' = w.setCell ⟨b, 0, none⟩ (.pointer (some ⟨b, 0, none⟩)) := by
  obtain ⟨j, hj, -⟩ := info_b
  go_enter Tryq.func126, Tryq.ntmps126
  go_wp2_with (first | (refine wpList_plain rfl fun K hK => ?_; refine upon_nil rfl rfl rfl ?_; refine hK _ _ ?_))
  rw [Lib.run_from_unsafe w ⟨b, 0, none⟩ Tryq.underlying200 Tryq.underlying151 hj hsh lies_b]
  simp only [Result.andThen]
  rw [Oper.upon_value]
  go_wp2
  go_end0
  exact ⟨rfl, rfl⟩
theorem cc_used (b : Nat) (w : World) (h0 : w.cell? ⟨b, 0, none⟩ = some (.pointer (some ⟨b, 0, none⟩))) :
    Calls Tryq.prog 126 #[.pointer (some ⟨b, 0, none⟩)] w fun e w' => e = .returned (.tuple #[]) ∧ w' = w := by
  obtain ⟨j, hj, -⟩ := info_b
  go_enter Tryq.func126, Tryq.ntmps126
  go_wp2_with (first | (refine wpList_plain rfl fun K hK => ?_; refine upon_nil rfl rfl rfl ?_; refine hK _ _ ?_))
  rw [Lib.run_neq_ptr_same w _ Tryq.underlying151 hj]
  go_wp2
  go_end0
  exact ⟨rfl, rfl⟩
theorem makeNo (n : Nat) (w : World) (hn : n ≤ 281474976710656) : ∃ cs : Array Value, (callFunc 150 #[.int .i64 n]).run Tryq.prog w = .ok (.value (.slice (some ⟨w.heap.size, 0, none⟩) n cs.size)) (w.drew.drew.alloc (.cells cs 5)) ∧ n ≤ cs.size ∧ (n ≤ maxLen → cs.size ≤ maxLen) := by
  obtain ⟨cs, hrun, hle, hmax⟩ := Lib.run_makeNoZero (P := Tryq.prog) w #[3] 152 5 Tryq.underlying152 n hn
  refine ⟨cs, ?_, hle, hmax⟩
  rw [run_callFunc_extern Tryq.func150 (by kernel_rfl) (by kernel_rfl) (by kernel_rfl) (e := Extern.BytealgMakeNoZero.makeNoZero #[3] #[152]) (by kernel_rfl), hrun]
  rfl
theorem alloc_set (w : World) (o : Obj) (p : Addr) (v : Value) (h : p.block < w.heap.size) : (w.setCell p v).alloc o = (w.alloc o).setCell p v := by
  unfold World.setCell World.alloc
  simp only
  congr 1
  apply Array.ext_getElem?
  intro i
  simp only [Array.getElem?_push, Array.getElem?_modify, Array.size_modify]
  by_cases hi : i = w.heap.size
  · subst hi
    have : ¬ p.block = w.heap.size := by omega
    simp [this]
  · simp [hi]
end Go.Proofs.YtegkbjpcgelomaaGreatDoor.Walks
end
/- Walks of package sabbath: the Saturdays, days of SimchatTorah, all Sabbaths of a cycle. -/
section
namespace Go.Proofs.YtegkbjpcgelomaaGreatDoor.Walks
open Go Go.RowKit Go.Sort Go.Proofs.YtegkbjpcgelomaaGreatDoor.Base Go.Proofs.YtegkbjpcgelomaaGreatDoor.Plain Go.Proofs.YtegkbjpcgelomaaGreatDoor.Math

/-- A slice that holds numbers. -/
structure Ints (w : World) (g : Nat) (L : List Int) : Prop where
  lt : g < w.heap.size
  c : ∀ i e, L[i]? = some e → w.cell? ⟨g, i, none⟩ = some (.int .i64 e)
theorem Ints.gr {w w' : World} {g : Nat} {L : List Int} (h : Ints w g L) (hg : Gr w w') : Ints w' g L := ⟨hg.lt h.lt, fun i e he => hg.keep h.lt (h.c i e he)⟩
/-- Such a slice, which may be nil. -/
def SlI (w : World) (v : Value) (L : List Int) : Prop := (L = [] ∧ ∃ ao cap, v = .slice ao 0 cap) ∨ ∃ g cap, v = .slice (some ⟨g, 0, none⟩) L.length cap ∧ 0 < L.length ∧ Ints w g L
theorem SlI.gr {w w' : World} {v : Value} {L : List Int} (h : SlI w v L) (hg : Gr w w') : SlI w' v L := by
  rcases h with h | ⟨g, cap, a, b, c⟩
  · exact .inl h
  · exact .inr ⟨g, cap, a, b, c.gr hg⟩
def cei (L : List Int) : List Value := L.map (Value.int .i64)
theorem ints_of {w : World} {base e n cap g : Nat} {L : List Int} (h : w.ownsRow base e 1 (.slice (some ⟨g, 0, none⟩) n cap) n (cei L)) (hn : 0 < n) (hl : L.length = n) : Ints w g L := by
  have R := row_of (f := fun j => (cei L).getD j undef) h hn (fun j hj => by
    have : j < (cei L).length := by simp [cei, hl]; omega
    simp [List.getD, List.getElem?_eq_getElem this])
  refine ⟨R.lt, fun i e he => ?_⟩
  have hi : i < n := by rw [← hl]; exact (List.getElem?_eq_some_iff.1 he).1
  have r1 := R.c i (by omega)
  simpa [List.getD, cei, he] using r1
theorem sli_of {w : World} {base e n : Nat} {v : Value} {L : List Int} (h : w.ownsRow base e 1 v n (cei L)) (hl : L.length = n) : SlI w v L := by
  rcases h.2 with ⟨rfl, z⟩ | ⟨g, cap, cur, rfl, r⟩
  · exact .inl ⟨List.eq_nil_of_length_eq_zero (by omega), none, 0, rfl⟩
  · by_cases hn : 0 < n
    · exact .inr ⟨g, cap, by rw [hl], by omega, ints_of h hn hl⟩
    · obtain rfl : n = 0 := by omega
      exact .inl ⟨List.eq_nil_of_length_eq_zero hl, some ⟨g, 0, none⟩, cap, rfl⟩
theorem cei_snoc (L : List Int) (e : Int) : cei (L ++ [e]) = cei L ++ [.int .i64 e] := by simp [cei]
/-- The first k Saturdays. -/
def satn (a : Int) (k : Nat) : List Int := (List.range k).map fun (k : Nat) => saF a + 7 * (k : Int)
theorem satn_snoc (a : Int) (k : Nat) : satn a (k + 1) = satn a k ++ [saF a + 7 * (k : Int)] := by simp [satn, List.range_succ]
theorem satn_len (a : Int) (k : Nat) : (satn a k).length = k := by simp [satn]
theorem Gr.iter {a b : World} (h : Gr a b) (s : ByteArray) (n : Nat) : Gr a (b.iter s n) := h.alloc _
/-- What comes: a list of numbers. -/
def IntsE (w : World) (L : List Int) (e : Ending) (w' : World) : Prop := ∃ v, e = .returned v ∧ SlI w' v L ∧ Gr w w'
set_option maxRecDepth 100000 in
set_option maxHeartbeats 8000000 in
theorem up_c (a b : Int) (w : World) (h0 : -5000000 ≤ a) (h1 : a ≤ 5000000) (h2 : b ≤ 5000000) (h3 : saK a b ≤ 1000) : Calls Tryq.prog 133 #[.int .i64 a, .int .i64 b] w (IntsE w (sats a b)) := by
  go_enter Tryq.func133, Tryq.ntmps133
  go_wp2_with (first | (refine wpList_plain rfl fun K hK => ?_; refine upon_nil rfl rfl rfl ?_; refine hK _ _ ?_))
  obtain ⟨W, hW⟩ : ∃ W, W = ((((((w.iter ByteArray.empty 0).iter ByteArray.empty 0).iter ByteArray.empty 0).iter ByteArray.empty 0).iter ByteArray.empty 0).iter ByteArray.empty 0) := ⟨_, rfl⟩
  have GW : Gr w W := by rw [hW]; exact Gr.iter (Gr.iter (Gr.iter (Gr.iter (Gr.iter (Gr.iter (Gr.refl w) _ _) _ _) _ _) _ _) _ _) _ _
  rw [← hW]
  clear hW
  have hS : a + -((a + 70000001) % 7) % 7 = saF a := by unfold saF; omega
  have rS : a ≤ saF a ∧ saF a ≤ a + 6 := by unfold saF; omega
  have hK := saK_lt (a := a) (b := b)
  rw [hS]
  clear hS
  obtain ⟨t13, h13⟩ : ∃ t, (7 - (a + 70000001) % 7) % 7 = t := ⟨_, rfl⟩
  rw [h13]
  clear h13
  go_loopg [8, 9] (saK a b) (fun kx s8 s9 wr => ∃ (k : Nat), k ≤ saK a b ∧ saK a b - k ≤ kx ∧ s9 = .int .i64 (saF a + 7 * (k : Int)) ∧ wr.ownsRow W.heap.size 3 1 s8 k (cei (satn a k)) ∧ Gr W wr)
  case atStart => exact ⟨0, by omega, by omega, by simp, World.ownsRow_nil _ _ _ _, Gr.refl _⟩
  case round =>
    obtain ⟨k, hk, hm, rfl, ho, hg⟩ := hrel
    by_cases e : saF a + 7 * (k : Int) ≤ b
    · have e2 : k < saK a b := (hK k).2 e
      have hs := hg.size
      go_wp2_with (first | (at_builtin; refine append_ints _ rfl _ _ rfl W.heap.size _ _ _ rfl (ho.alloc _) _ 1 1 [.int .i64 (saF a + 7 * (k : Int))] rfl rfl (fun j u hj => by (match j, hj with | 0, hj => (simp at hj; subst hj; simp [go_sem]))) (by simp [Value.oneCell']) (by decide) (by omega) (by simp; omega) ?_; intro g1 c1 wX OX kX bX GX_; have GX : Gr W wX := GX_ W (hg.alloc _) (Nat.le_refl _)))
      go_roundg (saK a b - (k + 1))
      case measure => omega
      case rel => exact ⟨k + 1, by omega, Nat.le_refl _, by go_num, by rw [satn_snoc, cei_snoc]; exact OX, GX⟩
    · have e2 : k = saK a b := by
        rcases Nat.lt_or_ge k (saK a b) with q | q
        · exact absurd ((hK k).1 q) e
        · omega
      have hv : SlI wr u8 (sats a b) := by
        have : sats a b = satn a k := by rw [e2]; rfl
        rw [this]
        exact sli_of ho (satn_len a k)
      have HV' := Lib.hid hv
      clear hv ho
      go_wp2
      go_ret
      exact ⟨_, rfl, HV'.out, GW.trans hg⟩
end Go.Proofs.YtegkbjpcgelomaaGreatDoor.Walks
end
/- A map from numbers to Booleans that the call has made: what it tells, as a function; a store; a look. -/
section
namespace Go.Proofs.YtegkbjpcgelomaaGreatDoor.Base
open Go Go.RowKit Go.Sort Go.Maps Go.WideElems Go.ChangeMaps Go.MapKept

theorem setIf_append (a b : Array Obj) (k : Nat) (o : Obj) (h : a.size ≤ k) : (a ++ b).setIfInBounds k o = a ++ b.setIfInBounds (k - a.size) o := by
  apply Array.ext_getElem?
  intro i
  simp only [Array.getElem?_setIfInBounds, Array.getElem?_append, Array.size_append]
  by_cases h1 : k = i
  · subst h1
    have h2 : ¬ k < a.size := by omega
    simp only [h2, if_true, if_false]
    by_cases h3 : k < a.size + b.size
    · have h4 : k - a.size < b.size := by omega
      simp [h3, h4]
    · have h4 : ¬ k - a.size < b.size := by omega
      simp [h3, h4]
  · by_cases h2 : i < a.size
    · simp [h1, h2]
    · have h3 : ¬ k - a.size = i - a.size := by omega
      simp [h1, h2, h3]
theorem Gr.setBlock {a b : World} (h : Gr a b) (k : Nat) (o : Obj) (hk : a.heap.size ≤ k) : Gr a (ChangeMaps.setBlock b k o) := by
  obtain ⟨⟨q, os, rfl⟩⟩ := h
  refine ⟨⟨q, os.setIfInBounds (k - a.heap.size) o, ?_⟩⟩
  unfold ChangeMaps.setBlock Go.Sort.grow
  simp only
  congr 1
  exact setIf_append _ _ _ _ hk
theorem pel_bool {v : Value} {z : DataW Unit × List MemPlace} (h : plainElem Tryq.prog 4 v = some z) : ∃ x, v = .bool x ∧ z = (.lit (.bool x), []) := by
  unfold plainElem at h
  rw [show Tryq.prog.underlying 4 = some .bool by kernel_rfl] at h
  cases v <;> simp at h
  subst h
  exact ⟨_, rfl, rfl⟩
/-- Block b holds at most N entries, and tells f. -/
structure MapB (w : World) (b N : Nat) (f : Int → Bool) : Prop where
  ex : ∃ (es : Array MapEntry) (clock : Nat), w.heap[b]? = some (.map es clock) ∧ Fit (H := Unit) Tryq.prog 3 (plainElem Tryq.prog 4) es clock ∧ es.size ≤ N ∧
    ∀ x : Int, (DataW.map ((es.toList.map (rg (H := Unit) Tryq.prog 3 (plainElem Tryq.prog 4))).foldr DataW.insert [])).atKey (.int .i64 x) (.lit (.bool false)) = .lit (.bool (f x))
theorem MapB.lt {w : World} {b N : Nat} {f : Int → Bool} (h : MapB w b N f) : b < w.heap.size := by
  obtain ⟨es, clock, hb, -⟩ := h.ex
  exact (Array.getElem?_eq_some_iff.1 hb).1
theorem MapB.gr {w w' : World} {b N : Nat} {f : Int → Bool} (h : MapB w b N f) (g : Gr w w') : MapB w' b N f := by
  have hl := h.lt
  obtain ⟨es, clock, hb, r⟩ := h.ex
  exact ⟨es, clock, (g.heap hl).trans hb, r⟩
theorem MapB.kept {w w' : World} {row : Option Nat} {b N : Nat} {f : Int → Bool} (h : MapB w b N f) (g : w.grownBy w' row) (hne : some b ≠ row) : MapB w' b N f := by
  have hl := h.lt
  obtain ⟨es, clock, hb, r⟩ := h.ex
  exact ⟨es, clock, (g.block b hl hne).trans hb, r⟩
theorem MapB.mono {w : World} {b N M : Nat} {f : Int → Bool} (h : MapB w b N f) (hm : N ≤ M) : MapB w b M f := by
  obtain ⟨es, clock, hb, F, hs, r⟩ := h.ex
  exact ⟨es, clock, hb, F, Nat.le_trans hs hm, r⟩
theorem MapB.made (w : World) : MapB (w.alloc (.map #[] 0)) w.heap.size 0 fun _ => false :=
  ⟨#[], 0, (MapKept.heap_alloc w _).1, ⟨by simp, stamped_empty 0, by simp⟩, Nat.le_refl _, fun x => by rfl⟩
theorem und_int : Tryq.prog.underlying 3 = some (.int .i64) := by kernel_rfl
theorem und_bool : Tryq.prog.underlying 4 = some .bool := by kernel_rfl
theorem zero_bool (w : World) : (zeroValue 4).run Tryq.prog w = .ok (.bool false) w := by simp
theorem MapB.look {w : World} {b N : Nat} {f : Int → Bool} (h : MapB w b N f) {t : TypeId} (ht : Tryq.prog.underlying t = some (.map 3 4)) (x : Int) (hx : (Lit.int .i64 x).wf = true) :
    (Instr.lookup t (.map (some b)) (.int .i64 x) false).run Tryq.prog w = .ok (.bool (f x)) w := by
  obtain ⟨es, clock, hb, F, hs, r⟩ := h.ex
  have K := int_keyed (P := Tryq.prog) und_int
  have hkey := keyOf_int_mk (P := Tryq.prog) und_int hx
  rcases Maps.fit_look false K ht (zero_bool w) hb F hkey with ⟨hrun, _, hat⟩ | ⟨e0, y, _, _, hrun, hRv, hat, _⟩
  · have := r x
    rw [hat] at this
    simp only [DataW.lit.injEq, Lit.bool.injEq] at this
    have q := this
    exact hrun.trans (congrArg (fun z => Result.ok (Value.bool z) w) q)
  · have := r x
    rw [hat] at this
    obtain ⟨z, hv, hy⟩ := pel_bool hRv
    rw [hy] at this
    simp only [DataW.lit.injEq, Lit.bool.injEq] at this
    have q := this
    rw [hv] at hrun
    exact hrun.trans (congrArg (fun z => Result.ok (Value.bool z) w) q)
theorem MapB.upd {w : World} {b N : Nat} {f : Int → Bool} (h : MapB w b N f) {t : TypeId} (ht : Tryq.prog.underlying t = some (.map 3 4)) (x : Int) (hx : (Lit.int .i64 x).wf = true) (hN : N < maxLen) :
    ∃ w', (Instr.mapUpdate t (.map (some b)) (.int .i64 x) (.bool true)).run Tryq.prog w = .ok () w' ∧ MapB w' b (N + 1) (fun z => decide (z = x) || f z) ∧ w.grownBy w' (some b) ∧ ∀ W, Gr W w → W.heap.size ≤ b → Gr W w' := by
  obtain ⟨es, clock, hb, F, hs, r⟩ := h.ex
  have K := int_keyed (P := Tryq.prog) und_int
  have hkey := keyOf_int_mk (P := Tryq.prog) und_int hx
  obtain ⟨es', clock', hrun, F', hput, _⟩ := Maps.fit_store (R' := plainElem Tryq.prog 4) K ht hb F (Nat.lt_of_le_of_lt hs hN) (fun _ _ _ _ hz => hz) hkey (plainElem_bool und_bool true)
  refine ⟨_, hrun, ⟨es', clock', heap_setBlock_same hb _, F', ?_, fun z => ?_⟩, ⟨rfl, rfl, rfl, by simp [ChangeMaps.setBlock], fun i _ hi => heap_setBlock_other hb _ (fun e => hi (by rw [e]))⟩, fun W hW hk => hW.setBlock _ _ hk⟩
  · have e1 : es'.size = ((es'.toList.map (rg (H := Unit) Tryq.prog 3 (plainElem Tryq.prog 4))).foldr DataW.insert []).length := by rw [length_sorted]; simp
    rw [e1, hput]
    unfold putKey
    rw [length_insert]
    have e2 := List.length_filter_le (notKey (.int .i64 x)) ((es.toList.map (rg (H := Unit) Tryq.prog 3 (plainElem Tryq.prog 4))).foldr DataW.insert [])
    rw [length_sorted] at e2
    simp at e2
    omega
  · rw [hput, ← DataW.put_eq]
    by_cases hz : z = x
    · subst hz
      rw [atKey_put_same ⟨_, rfl⟩ (by trivial)]
      simp
    · rw [atKey_put_other (fun q => hz (by injection q)), r z]
      simp [hz]
theorem wf_small {x : Int} (h0 : -1000000000000 ≤ x) (h1 : x ≤ 1000000000000) : (Lit.int .i64 x).wf = true := by
  have a : IntKind.i64.min = -9223372036854775808 := rfl
  have b : IntKind.i64.max = 9223372036854775807 := rfl
  simp only [Lit.wf, a, b, Bool.and_eq_true, decide_eq_true_eq]
  omega
theorem wpList_mapUpdate_b (w : World) {ops : Array Oper} {rest : List Oper} {o : Oper} {a : Act} {Q : Exit → Act → World → Prop} (hg : o.guard = none) (m x v : Operand) (t : TypeId) (hop : o.op = Op.mapUpdate t m x v)
    (ht : Tryq.prog.underlying t = some (.map 3 4)) (b N : Nat) (f : Int → Bool) (hm : a.eval m = .map (some b)) (hown : MapB w b N f) (hN : N < maxLen) (k : Int) (hx : a.eval x = .int .i64 k) (hw : (Lit.int .i64 k).wf = true) (hv : a.eval v = .bool true)
    (hK : ∀ w', MapB w' b (N + 1) (fun z => decide (z = k) || f z) → w.grownBy w' (some b) → (∀ W, Gr W w → W.heap.size ≤ b → Gr W w') → wpList Tryq.prog ops Q rest (a.put o.dst undef) w') :
    wpList Tryq.prog ops Q (o :: rest) a w := by
  refine wpList_plain hg fun K' hK' => ?_
  obtain ⟨w', hrun, r1, r2, r3⟩ := hown.upd ht k hw hN
  unfold Oper.wp
  simp [execOp, hop, hm, hx, hv, hrun, Result.andThen]
  exact hK' _ _ (hK w' r1 r2 r3)
theorem wpList_lookup_b (w : World) {ops : Array Oper} {rest : List Oper} {o : Oper} {a : Act} {Q : Exit → Act → World → Prop} (hg : o.guard = none) (m x : Operand) (t : TypeId) (hop : o.op = Op.lookup t m x false)
    (ht : Tryq.prog.underlying t = some (.map 3 4)) (b N : Nat) (f : Int → Bool) (hm : a.eval m = .map (some b)) (hown : MapB w b N f) (k : Int) (hx : a.eval x = .int .i64 k) (hw : (Lit.int .i64 k).wf = true)
    (hK : wpList Tryq.prog ops Q rest (a.put o.dst (.bool (f k))) w) : wpList Tryq.prog ops Q (o :: rest) a w := by
  refine wpList_plain hg fun K' hK' => ?_
  have hrun := hown.look ht k hw
  unfold Oper.wp
  simp [execOp, hop, hm, hx, hrun, Result.andThen]
  exact hK' _ _ hK
end Go.Proofs.YtegkbjpcgelomaaGreatDoor.Base
end
