/- feast.Of: what it hands back is a row of its own. -/
import Derived.Test.YtegkbjpcgelomaaGreatDoorVWholeOmer1
import Derived.Test.YtegkbjpcgelomaaGreatDoorZ18
import Derived.Test.YtegkbjpcgelomaaGreatDoorZ21
import Derived.Test.YtegkbjpcgelomaaGreatDoorZ15
import Derived.Test.YtegkbjpcgelomaaGreatDoorZ14
import Derived.Test.YtegkbjpcgelomaaGreatDoorZ19
import Derived.Test.YtegkbjpcgelomaaGreatDoorZ17
set_option linter.unusedVariables false
set_option linter.unusedSimpArgs false
section
namespace Go.Proofs.YtegkbjpcgelomaaGreatDoor.Walks
open Go Go.RowKit Go.Sort Go.Proofs.YtegkbjpcgelomaaGreatDoor.Base Go.Proofs.YtegkbjpcgelomaaGreatDoor.Plain Go.Proofs.YtegkbjpcgelomaaGreatDoor.Math

theorem own_mono {w : World} {base base2 : Nat} {e size n : Nat} {v : Value} {xs : List Value} (h : w.ownsRow base2 e size v n xs) (hb : base ≤ base2) : w.ownsRow base e size v n xs := by
  refine ⟨h.1, ?_⟩
  rcases h.2 with q | ⟨g', cap, cur, q, hb', r⟩
  · exact .inl q
  · exact .inr ⟨g', cap, cur, q, Nat.le_trans hb hb', r⟩
/-- What is asked of a function that hands back events: a row of its own. -/
def OfO (w : World) (L : List (Int × Int)) (e : Ending) (w' : World) : Prop :=
  ∃ g cap M, e = .returned (.tuple #[.slice (some ⟨g, 0, none⟩) M.length cap, .int .i64 0]) ∧ M.Perm L ∧ w'.ownsRow w.heap.size 67 2 (.slice (some ⟨g, 0, none⟩) M.length cap) M.length (cel M) ∧ Gr w w'
set_option maxRecDepth 20000 in
set_option maxHeartbeats 8000000 in
theorem feofO_in0 (y : Int) (w : World) (G : GT w) (h0 : 1 ≤ y) (h1 : y ≤ 9999)
    (hS : ∀ (v : Value) (L : List (Int × Int)) (W : World), L.length ≤ 1000 → Gr w W → 0 < L.length → (∃ g cap, v = .slice (some ⟨g, 0, none⟩) L.length cap ∧ Evs W g L) → Calls Tryq.prog 67 #[v] W (SortO W L)) :
    Calls Tryq.prog 31 #[.int .i64 y, .int .i64 0] w (OfO w (evs y 0)) := by
  have C1 := Lib.hid fun W => rows_c W
  have C2 := Lib.hid fun W (hW : Gr w W) i (hi : i < 19) => htoday_row y i W (G.gr hW) h0 h1 hi
  have C3 := Lib.hid hS
  clear hS G
  go_enter Tryq.func31, Tryq.ntmps31
  go_wp2_with (first | (go_at_call 68; (with_reducible refine (C1.out _).mono ?_); rintro e wA ⟨gR, rfl, hR, hgA⟩))
  go_loopg [6, 30] 19 (fun kx s6 s30 wr => ∃ (i : Nat), i ≤ 19 ∧ 19 - i ≤ kx ∧ s30 = .int .i64 (i : Int) ∧ wr.ownsRow wA.heap.size 67 2 s6 (evp y 0 i).length (cel (evp y 0 i)) ∧ Gr wA wr)
  case atStart => exact ⟨0, by omega, by omega, rfl, World.ownsRow_nil _ _ _ _, Gr.refl _⟩
  case round =>
    obtain ⟨i, hi, hm, rfl, ho, hg⟩ := hrel
    rename World => wo
    by_cases e : i < 19
    · have e' : (i : Int) < 19 := by omega
      obtain ⟨k0, k1, k2, k3, k4, k5, k6⟩ := frow_cells (hR.gr hg) e
      obtain ⟨f0, f1, f2, f3⟩ := fFT 0 e
      have fl : (evp y 0 i).length ≤ 8 * i := evp_len y 0 i (by omega)
      obtain ⟨K, hK⟩ : ∃ K, fK i = K := ⟨_, rfl⟩
      obtain ⟨A, hA⟩ : ∃ A, fA i = A := ⟨_, rfl⟩
      obtain ⟨B, hB⟩ : ∃ B, fB i = B := ⟨_, rfl⟩
      obtain ⟨C, hC⟩ : ∃ C, fC i = C := ⟨_, rfl⟩
      obtain ⟨D, hD⟩ : ∃ D, fD i = D := ⟨_, rfl⟩
      rw [hK] at k0; rw [hA] at k3; rw [hB] at k4; rw [hC] at k5; rw [hD] at k6
      rw [show fF 0 i = A from by show fA i = A; exact hA] at f0 f1 f2
      rw [show fT 0 i = B from by show fB i = B; exact hB] at f1 f2 f3
      go_wp2
      obtain ⟨W1, hW1⟩ : ∃ W1, W1 = wo.alloc (Obj.cells #[.int .i64 K, .int .i64 (fN i), .bool (fL i), .int .i64 A, .int .i64 B, .int .i64 C, .int .i64 D] 115) := ⟨_, rfl⟩
      rw [← hW1]
      have l1 : wo.heap.size < W1.heap.size := by rw [hW1]; simp
      have b0 : W1.cell? ⟨wo.heap.size, 0, none⟩ = some (.int .i64 K) := by rw [hW1]; simp [go_sem]
      have b1 : W1.cell? ⟨wo.heap.size, 1, none⟩ = some (.int .i64 (fN i)) := by rw [hW1]; simp [go_sem]
      have b2 : W1.cell? ⟨wo.heap.size, 2, none⟩ = some (.bool (fL i)) := by rw [hW1]; simp [go_sem]
      have b3 : W1.cell? ⟨wo.heap.size, 3, none⟩ = some (.int .i64 A) := by rw [hW1]; simp [go_sem]
      have b4 : W1.cell? ⟨wo.heap.size, 4, none⟩ = some (.int .i64 B) := by rw [hW1]; simp [go_sem]
      have b5 : W1.cell? ⟨wo.heap.size, 5, none⟩ = some (.int .i64 C) := by rw [hW1]; simp [go_sem]
      have b6 : W1.cell? ⟨wo.heap.size, 6, none⟩ = some (.int .i64 D) := by rw [hW1]; simp [go_sem]
      have G1 : Gr wo W1 := by rw [hW1]; exact (Gr.refl _).alloc _
      have GA1 : Gr wA W1 := hg.trans G1
      have o1 := own_gr ho G1
      have hx1 : W1.heap[wo.heap.size]? = some (Obj.cells #[.int .i64 K, .int .i64 (fN i), .bool (fL i), .int .i64 A, .int .i64 B, .int .i64 C, .int .i64 D] 115 (0, 0)) := by rw [hW1]; exact heap_alloc_new _ _
      clear hW1 k0 k1 k2 k3 k4 k5 k6 ho hg
      go_quiet (fail)
      go_wp2_with (first | (go_at_call 24; (refine (C2.out _ ((by repeat (first | exact Gr.refl _ | refine Gr.setCell ?_ _ _ (by first | exact Nat.le_refl _ | (simp; omega) | (simp; done)) | refine Gr.grown ?_ _ _ | refine Gr.drewN ?_ _ | refine Gr.drew ?_ | refine Gr.alloc ?_ _ | refine Gr.grow ?_ _ | (refine Gr.trans ?_ (by assumption))))) i e).mono ?_); rintro e1 wD ⟨rfl, hgD⟩))
      have GW : Gr W1 wD := (by repeat (first | exact Gr.refl _ | refine Gr.setCell ?_ _ _ (by first | exact Nat.le_refl _ | (simp; omega) | (simp; done)) | refine Gr.grown ?_ _ _ | refine Gr.drewN ?_ _ | refine Gr.drew ?_ | refine Gr.alloc ?_ _ | refine Gr.grow ?_ _ | (refine Gr.trans ?_ (by assumption))))
      have GAD : Gr wA wD := GA1.trans GW
      have oD := own_gr o1 GW
      have hbx := (GW.heap l1).trans hx1
      have hsD : wA.heap.size ≤ wD.heap.size := GAD.size
      have lD : wo.heap.size < wD.heap.size := by have := GW.size; omega
      clear hgD GW o1 hx1 GA1 G1 b0 b1 b2 b3 b4 b5 b6
      obtain ⟨F, hF⟩ : ∃ F, fdy y i = F := ⟨_, rfl⟩
      have rF := fdy_range (i := i) h0 h1 e
      rw [hF] at rF ⊢
      obtain ⟨r0, r1⟩ := rF
      by_cases hE : fH (lp y) i = true
      · rw [show fer y i = 0 from if_pos hE]
        go_loopg [6, 13] (B + 1 - A).toNat (fun kx s6 s13 wm => ∃ (m : Nat), (m : Int) ≤ B + 1 - A ∧ (B + 1 - A).toNat - m ≤ kx ∧ s13 = .int .i64 (A + (m : Int)) ∧ wm.ownsRow wA.heap.size 67 2 s6 (evp y 0 i ++ evm y 0 i m).length (cel (evp y 0 i ++ evm y 0 i m)) ∧ Gr wA wm ∧ wm.heap[wo.heap.size]? = some (Obj.cells #[.int .i64 K, .int .i64 (fN i), .bool (fL i), .int .i64 A, .int .i64 B, .int .i64 C, .int .i64 D] 115 (0, 0)) ∧ wo.heap.size < wm.heap.size)
        case atStart => exact ⟨0, by omega, by omega, by simp, by simpa [evm] using oD, GAD, hbx, lD⟩
        case round =>
          obtain ⟨m, hm1, hm2, rfl, om, gm, hbm, lm⟩ := hrel
          by_cases e2 : A + (m : Int) ≤ B
          · have c0 : wr.cell? ⟨wo.heap.size, 0, none⟩ = some (.int .i64 K) := by rw [Lib.cell_of_heap hbm]; rfl
            have hne := own_ne om hbm (by decide)
            have hml : (evp y 0 i ++ evm y 0 i m).length ≤ 1000 := by rw [List.length_append, evm_len]; omega
            have hsm := gm.size
            go_wp2_with (first | (at_builtin; refine append_evs _ rfl _ _ rfl wA.heap.size _ _ _ rfl (om.alloc _) _ 1 [.int .i64 K, .int .i64 (F + (A + (m : Int)) - 1)] rfl rfl (news2 rfl _ _ _) (by simp [Value.oneCell']) (by omega) (by simp; omega) ?_; intro g1 c1 wX OX kX bX GX_; have GX : Gr wA wX := GX_ wA (gm.alloc _) (Nat.le_refl _)))
            go_roundg ((B + 1 - A).toNat - (m + 1))
            case measure => omega
            case rel =>
              have ev : evp y 0 i ++ evm y 0 i (m + 1) = evp y 0 i ++ evm y 0 i m ++ [(K, F + (A + (m : Int)) - 1)] := by
                rw [evm_snoc, ← List.append_assoc, hK, hF, show fF 0 i = A from by show fA i = A; exact hA]
              refine ⟨m + 1, by omega, Nat.le_refl _, by go_num, ?_, GX, ?_, ?_⟩
              · rw [ev, cel_snoc]
                simp only [List.length_append, List.length_cons, List.length_nil, Nat.zero_add] at OX ⊢
                exact OX
              · rw [kX.block wo.heap.size (by simp; omega) hne, Lib.alloc_old _ _ _ lm]
                exact hbm
              · have := kX.size
                simp at this
                omega
          · go_wp2
            have hm3 : m = (fT 0 i + 1 - fF 0 i).toNat := by
              have a1 : fF 0 i = A := by show fA i = A; exact hA
              have a2 : fT 0 i = B := by show fB i = B; exact hB
              rw [a1, a2]
              omega
            go_roundg (19 - (i + 1))
            case measure => omega
            case rel =>
              refine ⟨i + 1, by omega, Nat.le_refl _, by go_num, ?_, gm⟩
              rw [evp_snoc, evr_yes hE, ← hm3]
              exact om
      · rw [show fer y i = 3 from if_neg hE]
        go_loopg [6, 13] 1 (fun kx s6 s13 wm => s13 = .int .i64 A ∧ wm.ownsRow wA.heap.size 67 2 s6 (evp y 0 i).length (cel (evp y 0 i)) ∧ Gr wA wm)
        case atStart => exact ⟨rfl, oD, GAD⟩
        case round =>
          obtain ⟨rfl, om, gm⟩ := hrel
          go_wp2
          go_roundg (19 - (i + 1))
          case measure => omega
          case rel =>
            refine ⟨i + 1, by omega, Nat.le_refl _, by go_num, ?_, gm⟩
            rw [evp_snoc, evr_no hE, List.append_nil]
            exact om
    · obtain rfl : i = 19 := by omega
      have hp := evs_pos y 0 (by decide)
      have hlen := evp_len y 0 19 (by omega)
      obtain ⟨g, cap, rfl⟩ : ∃ g cap, u6 = .slice (some ⟨g, 0, none⟩) (evp y 0 19).length cap := by
        rcases ho.2 with ⟨-, z⟩ | ⟨g, cap, -, rfl, -⟩
        · omega
        · exact ⟨g, cap, rfl⟩
      have HO := Lib.hid (evs_of ho hp rfl)
      clear ho
      go_wp2_with (first | (go_at_call 67; refine (C3.out _ (evp y 0 19) _ (by unfold evp at *; omega) ((by repeat (first | exact Gr.refl _ | refine Gr.setCell ?_ _ _ (by first | exact Nat.le_refl _ | (simp; omega) | (simp; done)) | refine Gr.grown ?_ _ _ | refine Gr.drewN ?_ _ | refine Gr.drew ?_ | refine Gr.alloc ?_ _ | refine Gr.grow ?_ _ | (refine Gr.trans ?_ (by assumption))))) hp ⟨g, cap, rfl, HO.out⟩).mono ?_; rintro e2 wE ⟨g2, cap2, M, rfl, hPerm, hOwn, hgE⟩))
      go_ret2
      have GE : Gr w wE := (by repeat (first | exact Gr.refl _ | refine Gr.setCell ?_ _ _ (by first | exact Nat.le_refl _ | (simp; omega) | (simp; done)) | refine Gr.grown ?_ _ _ | refine Gr.drewN ?_ _ | refine Gr.drew ?_ | refine Gr.alloc ?_ _ | refine Gr.grow ?_ _ | (refine Gr.trans ?_ (by assumption))))
      exact ⟨g2, cap2, M, rfl, hPerm, own_mono hOwn ((Gr.trans hgA hg).size), GE⟩
set_option maxRecDepth 20000 in
set_option maxHeartbeats 8000000 in
theorem feofO_in1 (y : Int) (w : World) (G : GT w) (h0 : 1 ≤ y) (h1 : y ≤ 9999)
    (hS : ∀ (v : Value) (L : List (Int × Int)) (W : World), L.length ≤ 1000 → Gr w W → 0 < L.length → (∃ g cap, v = .slice (some ⟨g, 0, none⟩) L.length cap ∧ Evs W g L) → Calls Tryq.prog 67 #[v] W (SortO W L)) :
    Calls Tryq.prog 31 #[.int .i64 y, .int .i64 1] w (OfO w (evs y 1)) := by
  have C1 := Lib.hid fun W => rows_c W
  have C2 := Lib.hid fun W (hW : Gr w W) i (hi : i < 19) => htoday_row y i W (G.gr hW) h0 h1 hi
  have C3 := Lib.hid hS
  clear hS G
  go_enter Tryq.func31, Tryq.ntmps31
  go_wp2_with (first | (go_at_call 68; (with_reducible refine (C1.out _).mono ?_); rintro e wA ⟨gR, rfl, hR, hgA⟩))
  go_loopg [6, 30] 19 (fun kx s6 s30 wr => ∃ (i : Nat), i ≤ 19 ∧ 19 - i ≤ kx ∧ s30 = .int .i64 (i : Int) ∧ wr.ownsRow wA.heap.size 67 2 s6 (evp y 1 i).length (cel (evp y 1 i)) ∧ Gr wA wr)
  case atStart => exact ⟨0, by omega, by omega, rfl, World.ownsRow_nil _ _ _ _, Gr.refl _⟩
  case round =>
    obtain ⟨i, hi, hm, rfl, ho, hg⟩ := hrel
    rename World => wo
    by_cases e : i < 19
    · have e' : (i : Int) < 19 := by omega
      obtain ⟨k0, k1, k2, k3, k4, k5, k6⟩ := frow_cells (hR.gr hg) e
      obtain ⟨f0, f1, f2, f3⟩ := fFT 1 e
      have fl : (evp y 1 i).length ≤ 8 * i := evp_len y 1 i (by omega)
      obtain ⟨K, hK⟩ : ∃ K, fK i = K := ⟨_, rfl⟩
      obtain ⟨A, hA⟩ : ∃ A, fA i = A := ⟨_, rfl⟩
      obtain ⟨B, hB⟩ : ∃ B, fB i = B := ⟨_, rfl⟩
      obtain ⟨C, hC⟩ : ∃ C, fC i = C := ⟨_, rfl⟩
      obtain ⟨D, hD⟩ : ∃ D, fD i = D := ⟨_, rfl⟩
      rw [hK] at k0; rw [hA] at k3; rw [hB] at k4; rw [hC] at k5; rw [hD] at k6
      rw [show fF 1 i = C from by show fC i = C; exact hC] at f0 f1 f2
      rw [show fT 1 i = D from by show fD i = D; exact hD] at f1 f2 f3
      go_wp2
      obtain ⟨W1, hW1⟩ : ∃ W1, W1 = wo.alloc (Obj.cells #[.int .i64 K, .int .i64 (fN i), .bool (fL i), .int .i64 A, .int .i64 B, .int .i64 C, .int .i64 D] 115) := ⟨_, rfl⟩
      rw [← hW1]
      have l1 : wo.heap.size < W1.heap.size := by rw [hW1]; simp
      have b0 : W1.cell? ⟨wo.heap.size, 0, none⟩ = some (.int .i64 K) := by rw [hW1]; simp [go_sem]
      have b1 : W1.cell? ⟨wo.heap.size, 1, none⟩ = some (.int .i64 (fN i)) := by rw [hW1]; simp [go_sem]
      have b2 : W1.cell? ⟨wo.heap.size, 2, none⟩ = some (.bool (fL i)) := by rw [hW1]; simp [go_sem]
      have b3 : W1.cell? ⟨wo.heap.size, 3, none⟩ = some (.int .i64 A) := by rw [hW1]; simp [go_sem]
      have b4 : W1.cell? ⟨wo.heap.size, 4, none⟩ = some (.int .i64 B) := by rw [hW1]; simp [go_sem]
      have b5 : W1.cell? ⟨wo.heap.size, 5, none⟩ = some (.int .i64 C) := by rw [hW1]; simp [go_sem]
      have b6 : W1.cell? ⟨wo.heap.size, 6, none⟩ = some (.int .i64 D) := by rw [hW1]; simp [go_sem]
      have G1 : Gr wo W1 := by rw [hW1]; exact (Gr.refl _).alloc _
      have GA1 : Gr wA W1 := hg.trans G1
      have o1 := own_gr ho G1
      have hx1 : W1.heap[wo.heap.size]? = some (Obj.cells #[.int .i64 K, .int .i64 (fN i), .bool (fL i), .int .i64 A, .int .i64 B, .int .i64 C, .int .i64 D] 115 (0, 0)) := by rw [hW1]; exact heap_alloc_new _ _
      clear hW1 k0 k1 k2 k3 k4 k5 k6 ho hg
      go_quiet (fail)
      go_wp2
      go_quiet (fail)
      go_wp2_with (first | (go_at_call 24; (refine (C2.out _ ((by repeat (first | exact Gr.refl _ | refine Gr.setCell ?_ _ _ (by first | exact Nat.le_refl _ | (simp; omega) | (simp; done)) | refine Gr.grown ?_ _ _ | refine Gr.drewN ?_ _ | refine Gr.drew ?_ | refine Gr.alloc ?_ _ | refine Gr.grow ?_ _ | (refine Gr.trans ?_ (by assumption))))) i e).mono ?_); rintro e1 wD ⟨rfl, hgD⟩))
      have GW : Gr W1 wD := (by repeat (first | exact Gr.refl _ | refine Gr.setCell ?_ _ _ (by first | exact Nat.le_refl _ | (simp; omega) | (simp; done)) | refine Gr.grown ?_ _ _ | refine Gr.drewN ?_ _ | refine Gr.drew ?_ | refine Gr.alloc ?_ _ | refine Gr.grow ?_ _ | (refine Gr.trans ?_ (by assumption))))
      have GAD : Gr wA wD := GA1.trans GW
      have oD := own_gr o1 GW
      have hbx := (GW.heap l1).trans hx1
      have hsD : wA.heap.size ≤ wD.heap.size := GAD.size
      have lD : wo.heap.size < wD.heap.size := by have := GW.size; omega
      clear hgD GW o1 hx1 GA1 G1 b0 b1 b2 b3 b4 b5 b6
      obtain ⟨F, hF⟩ : ∃ F, fdy y i = F := ⟨_, rfl⟩
      have rF := fdy_range (i := i) h0 h1 e
      rw [hF] at rF ⊢
      obtain ⟨r0, r1⟩ := rF
      by_cases hE : fH (lp y) i = true
      · rw [show fer y i = 0 from if_pos hE]
        go_loopg [6, 13] (D + 1 - C).toNat (fun kx s6 s13 wm => ∃ (m : Nat), (m : Int) ≤ D + 1 - C ∧ (D + 1 - C).toNat - m ≤ kx ∧ s13 = .int .i64 (C + (m : Int)) ∧ wm.ownsRow wA.heap.size 67 2 s6 (evp y 1 i ++ evm y 1 i m).length (cel (evp y 1 i ++ evm y 1 i m)) ∧ Gr wA wm ∧ wm.heap[wo.heap.size]? = some (Obj.cells #[.int .i64 K, .int .i64 (fN i), .bool (fL i), .int .i64 A, .int .i64 B, .int .i64 C, .int .i64 D] 115 (0, 0)) ∧ wo.heap.size < wm.heap.size)
        case atStart => exact ⟨0, by omega, by omega, by simp, by simpa [evm] using oD, GAD, hbx, lD⟩
        case round =>
          obtain ⟨m, hm1, hm2, rfl, om, gm, hbm, lm⟩ := hrel
          by_cases e2 : C + (m : Int) ≤ D
          · have c0 : wr.cell? ⟨wo.heap.size, 0, none⟩ = some (.int .i64 K) := by rw [Lib.cell_of_heap hbm]; rfl
            have hne := own_ne om hbm (by decide)
            have hml : (evp y 1 i ++ evm y 1 i m).length ≤ 1000 := by rw [List.length_append, evm_len]; omega
            have hsm := gm.size
            go_wp2_with (first | (at_builtin; refine append_evs _ rfl _ _ rfl wA.heap.size _ _ _ rfl (om.alloc _) _ 1 [.int .i64 K, .int .i64 (F + (C + (m : Int)) - 1)] rfl rfl (news2 rfl _ _ _) (by simp [Value.oneCell']) (by omega) (by simp; omega) ?_; intro g1 c1 wX OX kX bX GX_; have GX : Gr wA wX := GX_ wA (gm.alloc _) (Nat.le_refl _)))
            go_roundg ((D + 1 - C).toNat - (m + 1))
            case measure => omega
            case rel =>
              have ev : evp y 1 i ++ evm y 1 i (m + 1) = evp y 1 i ++ evm y 1 i m ++ [(K, F + (C + (m : Int)) - 1)] := by
                rw [evm_snoc, ← List.append_assoc, hK, hF, show fF 1 i = C from by show fC i = C; exact hC]
              refine ⟨m + 1, by omega, Nat.le_refl _, by go_num, ?_, GX, ?_, ?_⟩
              · rw [ev, cel_snoc]
                simp only [List.length_append, List.length_cons, List.length_nil, Nat.zero_add] at OX ⊢
                exact OX
              · rw [kX.block wo.heap.size (by simp; omega) hne, Lib.alloc_old _ _ _ lm]
                exact hbm
              · have := kX.size
                simp at this
                omega
          · go_wp2
            have hm3 : m = (fT 1 i + 1 - fF 1 i).toNat := by
              have a1 : fF 1 i = C := by show fC i = C; exact hC
              have a2 : fT 1 i = D := by show fD i = D; exact hD
              rw [a1, a2]
              omega
            go_roundg (19 - (i + 1))
            case measure => omega
            case rel =>
              refine ⟨i + 1, by omega, Nat.le_refl _, by go_num, ?_, gm⟩
              rw [evp_snoc, evr_yes hE, ← hm3]
              exact om
      · rw [show fer y i = 3 from if_neg hE]
        go_loopg [6, 13] 1 (fun kx s6 s13 wm => s13 = .int .i64 C ∧ wm.ownsRow wA.heap.size 67 2 s6 (evp y 1 i).length (cel (evp y 1 i)) ∧ Gr wA wm)
        case atStart => exact ⟨rfl, oD, GAD⟩
        case round =>
          obtain ⟨rfl, om, gm⟩ := hrel
          go_wp2
          go_roundg (19 - (i + 1))
          case measure => omega
          case rel =>
            refine ⟨i + 1, by omega, Nat.le_refl _, by go_num, ?_, gm⟩
            rw [evp_snoc, evr_no hE, List.append_nil]
            exact om
    · obtain rfl : i = 19 := by omega
      have hp := evs_pos y 1 (by decide)
      have hlen := evp_len y 1 19 (by omega)
      obtain ⟨g, cap, rfl⟩ : ∃ g cap, u6 = .slice (some ⟨g, 0, none⟩) (evp y 1 19).length cap := by
        rcases ho.2 with ⟨-, z⟩ | ⟨g, cap, -, rfl, -⟩
        · omega
        · exact ⟨g, cap, rfl⟩
      have HO := Lib.hid (evs_of ho hp rfl)
      clear ho
      go_wp2_with (first | (go_at_call 67; refine (C3.out _ (evp y 1 19) _ (by unfold evp at *; omega) ((by repeat (first | exact Gr.refl _ | refine Gr.setCell ?_ _ _ (by first | exact Nat.le_refl _ | (simp; omega) | (simp; done)) | refine Gr.grown ?_ _ _ | refine Gr.drewN ?_ _ | refine Gr.drew ?_ | refine Gr.alloc ?_ _ | refine Gr.grow ?_ _ | (refine Gr.trans ?_ (by assumption))))) hp ⟨g, cap, rfl, HO.out⟩).mono ?_; rintro e2 wE ⟨g2, cap2, M, rfl, hPerm, hOwn, hgE⟩))
      go_ret2
      have GE : Gr w wE := (by repeat (first | exact Gr.refl _ | refine Gr.setCell ?_ _ _ (by first | exact Nat.le_refl _ | (simp; omega) | (simp; done)) | refine Gr.grown ?_ _ _ | refine Gr.drewN ?_ _ | refine Gr.drew ?_ | refine Gr.alloc ?_ _ | refine Gr.grow ?_ _ | (refine Gr.trans ?_ (by assumption))))
      exact ⟨g2, cap2, M, rfl, hPerm, own_mono hOwn ((Gr.trans hgA hg).size), GE⟩
theorem feofO_c (y p : Int) (w : World) (G : GT w) (h0 : 1 ≤ y) (h1 : y ≤ 9999) (hp : p = 0 ∨ p = 1) : Calls Tryq.prog 31 #[.int .i64 y, .int .i64 p] w (OfO w (evs y p)) := by
  have hS : ∀ (v : Value) (L : List (Int × Int)) (W : World), L.length ≤ 1000 → Gr w W → 0 < L.length → (∃ g cap, v = .slice (some ⟨g, 0, none⟩) L.length cap ∧ Evs W g L) → Calls Tryq.prog 67 #[v] W (SortO W L) := by
    rintro v L W h2 - h3 ⟨g, cap, rfl, E⟩
    exact sortO_c g cap L W h3 h2 E
  rcases hp with rfl | rfl
  · exact feofO_in0 y w G h0 h1 hS
  · exact feofO_in1 y w G h0 h1 hS
end Go.Proofs.YtegkbjpcgelomaaGreatDoor.Walks
end
/- Walks of greg.ToDay: a date's day. -/
section
namespace Go.Proofs.YtegkbjpcgelomaaGreatDoor.Walks
open Go Go.RowKit Go.Sort Go.Proofs.YtegkbjpcgelomaaGreatDoor.Base Go.Proofs.YtegkbjpcgelomaaGreatDoor.Plain Go.Proofs.YtegkbjpcgelomaaGreatDoor.Math

/-- Why a date has no day, and its day. -/
def tE (y m d : Int) : Int := if y < -4000 ∨ 7000 < y then 2 else if m < 1 ∨ 12 < m then 3 else if d < 1 ∨ gmd (gl y) m < d then 4 else if inD (gd y m.toNat d) = true then 0 else 2
def tN (y m d : Int) : Int := if tE y m d = 0 then gd y m.toNat d else 0

theorem tE_y {y m d : Int} (h : y < -4000 ∨ 7000 < y) : tE y m d = 2 := by unfold tE; rw [if_pos h]
theorem tE_m {y m d : Int} (h : ¬ (y < -4000 ∨ 7000 < y)) (g : m < 1 ∨ 12 < m) : tE y m d = 3 := by unfold tE; rw [if_neg h, if_pos g]
theorem tE_d {y m d : Int} (h : ¬ (y < -4000 ∨ 7000 < y)) (g : ¬ (m < 1 ∨ 12 < m)) (k : d < 1 ∨ gmd (gl y) m < d) : tE y m d = 4 := by unfold tE; rw [if_neg h, if_neg g, if_pos k]
theorem tE_n {y m d : Int} (h : ¬ (y < -4000 ∨ 7000 < y)) (g : ¬ (m < 1 ∨ 12 < m)) (k : ¬ (d < 1 ∨ gmd (gl y) m < d)) : tE y m d = if inD (gd y m.toNat d) = true then 0 else 2 := by unfold tE; rw [if_neg h, if_neg g, if_neg k]
theorem tN_no {y m d : Int} (h : tE y m d ≠ 0) : tN y m d = 0 := by unfold tN; rw [if_neg h]

set_option maxHeartbeats 4000000 in
theorem gto_ok (y d : Int) (M : Nat) (b : Bool) (G B : Int) (w : World) (h0 : -4000 ≤ y) (h1 : y ≤ 7000) (m0 : 1 ≤ M) (m1 : M ≤ 12) (d0 : 1 ≤ d) (d1 : d ≤ gmd (gl y) (M : Int)) (hB : gb y = B) (hG : gd y M d = G) (hb : inD G = b) :
    Calls Tryq.prog 25 #[.agg #[.int .i64 y, .int .i64 (M : Int), .int .i64 d]] w fun e w' => e = .returned (.tuple #[.int .i64 (if b = true then G else 0), .int .i64 (if b = true then 0 else 2)]) ∧ Gr w w' := by
  have dr := gmd_12 (gl y) (M : Int) (by omega) (by omega)
  have B0 : -3000000 ≤ B ∧ B ≤ 3000000 := by unfold gb at hB; omega
  obtain ⟨B0, B1⟩ := B0
  have CB : RowKit.Hid (∀ w, Calls Tryq.prog 53 #[.int .i64 y] w fun e w' => e = .returned (.int .i64 B) ∧ Gr w w') := Lib.hid fun w => by
    have := gbegins_c y w (by omega) (by omega); rwa [hB] at this
  have HG : RowKit.Hid (B + d + gc (gl y) M = G) := Lib.hid (by rw [← hG]; unfold gd; omega)
  have HGC : RowKit.Hid (∀ k : Nat, k ≤ M → 0 ≤ gc (gl y) k ∧ gc (gl y) k ≤ 366) := Lib.hid fun k hk => gc_le _ k (by omega)
  have CI : RowKit.Hid (∀ w, Calls Tryq.prog 51 #[.int .i64 G] w fun e w' => e = .returned (.bool b) ∧ Gr w w') := Lib.hid fun w => by
    have := gin_c G w; rwa [hb] at this
  obtain ⟨T, hT⟩ : ∃ T, gmd (gl y) (M : Int) = T := ⟨_, rfl⟩
  have CD : RowKit.Hid (∀ w, Calls Tryq.prog 54 #[.int .i64 y, .int .i64 (M : Int)] w fun e w' => e = .returned (.int .i64 T) ∧ w' = w) := Lib.hid fun w => by
    have := gdays_s y (M : Int) w; rwa [hT] at this
  rw [hT] at d1 dr
  have dr0 := dr.1
  have dr1 := dr.2
  have tz : (T == 0) = false := beq_eq_false_iff_ne.2 (by omega)
  clear hB hG hb hT dr
  go_enter Tryq.func25, Tryq.ntmps25
  go_wp2_with (go_at_call 54; (with_reducible refine (CD.out _).mono ?_); rintro e w1 ⟨rfl, rfl⟩)
  go_quiet ((go_at_call 54; exact Calls.quiet_of_same (CD.out _)))
  go_wp2
  have c0 : ((w.alloc (.cells #[.int .i64 y, .int .i64 (M : Int), .int .i64 d] 52)).drewN nq).cell? ⟨w.heap.size, 0, none⟩ = some (.int .i64 y) := by simp [go_sem]
  have c1 : ((w.alloc (.cells #[.int .i64 y, .int .i64 (M : Int), .int .i64 d] 52)).drewN nq).cell? ⟨w.heap.size, 1, none⟩ = some (.int .i64 (M : Int)) := by simp [go_sem]
  have c2 : ((w.alloc (.cells #[.int .i64 y, .int .i64 (M : Int), .int .i64 d] 52)).drewN nq).cell? ⟨w.heap.size, 2, none⟩ = some (.int .i64 d) := by simp [go_sem]
  have hg : Gr w ((w.alloc (.cells #[.int .i64 y, .int .i64 (M : Int), .int .i64 d] 52)).drewN nq) := (by repeat (first | exact Gr.refl _ | refine Gr.setCell ?_ _ _ (by first | exact Nat.le_refl _ | (simp; omega) | (simp; done)) | refine Gr.grown ?_ _ _ | refine Gr.drewN ?_ _ | refine Gr.drew ?_ | refine Gr.alloc ?_ _ | refine Gr.grow ?_ _ | (refine Gr.trans ?_ (by assumption))))
  have hlt : w.heap.size < ((w.alloc (.cells #[.int .i64 y, .int .i64 (M : Int), .int .i64 d] 52)).drewN nq).heap.size := ((Gr.refl _).drewN nq).lt (by simp)
  generalize (w.alloc (.cells #[.int .i64 y, .int .i64 (M : Int), .int .i64 d] 52)).drewN nq = W0 at *
  have k0 := gcell_in hlt c0
  have k1 := gcell_in hlt c1
  have k2 := gcell_in hlt c2
  (refine wp_region_quiet_grown mixed (by kernel_rfl) ?_; (repeat (first | go_big_quiet_step ((first | (go_at_call 53; exact gr_of (CB.out _)))) | quiet_step ((first | (go_at_call 53; exact gr_of (CB.out _)))))); refine wpQuiet_nil ?_; intro _ hw'; obtain ⟨⟨nq, osq⟩, hw''⟩ := hw'; subst hw'')
  replace c0 := k0 nq osq
  replace c1 := k1 nq osq
  replace hlt : w.heap.size < (grow (W0.drewN nq) osq).heap.size := ((Gr.refl W0).grown nq osq).lt hlt
  replace hg := hg.grown nq osq
  clear k0 k1 k2 c2
  generalize grow (W0.drewN nq) osq = W1 at *
  go_wp2
  go_loopg [4, 44] M (fun kx s4 s44 wr => ∃ k : Nat, k ≤ M ∧ M - k ≤ kx ∧ s4 = .int .i64 (B + d + gc (gl y) k) ∧ s44 = .int .i64 (k : Int) ∧ wr.cell? ⟨w.heap.size, 0, none⟩ = some (.int .i64 y) ∧ Gr w wr)
  case atStart => exact ⟨0, by omega, by omega, by simp [gc], rfl, c0, hg⟩
  case round =>
    obtain ⟨k, hk, hm, rfl, rfl, c0, hg⟩ := hrel
    clear c1
    have hgc := HGC.out k hk
    have hgc0 := hgc.1
    have hgc1 := hgc.2
    clear hgc
    by_cases e : k < M
    · have dk := gmd_range (gl y) (k : Int)
      have dk0 := dk.1
      have dk1 := dk.2
      clear dk
      go_wp2_with (go_at_call 54; (with_reducible refine (gdays_s y (k : Int) _).mono ?_); rintro e w1 ⟨rfl, rfl⟩)
      go_roundg (M - (k + 1))
      case measure => omega
      case rel => exact ⟨k + 1, by omega, Nat.le_refl _, by show _ = Value.int .i64 (B + d + (gc (gl y) k + gmd (gl y) (k : Int))); congr 1; omega, by go_num, c0, hg⟩
    · obtain rfl : k = M := by omega
      cases b
      · go_wp2_with ((rw [HG.out]); (go_at_call 51; (with_reducible refine (CI.out _).mono ?_); rintro e w1 ⟨rfl, hg⟩))
        go_ret2
        exact ⟨rfl, (by repeat (first | exact Gr.refl _ | refine Gr.setCell ?_ _ _ (by first | exact Nat.le_refl _ | (simp; omega) | (simp; done)) | refine Gr.grown ?_ _ _ | refine Gr.drewN ?_ _ | refine Gr.drew ?_ | refine Gr.alloc ?_ _ | refine Gr.grow ?_ _ | (refine Gr.trans ?_ (by assumption))))⟩
      · go_wp2_with ((rw [HG.out]); (go_at_call 51; (with_reducible refine (CI.out _).mono ?_); rintro e w1 ⟨rfl, hg⟩))
        go_ret2
        exact ⟨rfl, (by repeat (first | exact Gr.refl _ | refine Gr.setCell ?_ _ _ (by first | exact Nat.le_refl _ | (simp; omega) | (simp; done)) | refine Gr.grown ?_ _ _ | refine Gr.drewN ?_ _ | refine Gr.drew ?_ | refine Gr.alloc ?_ _ | refine Gr.grow ?_ _ | (refine Gr.trans ?_ (by assumption))))⟩

theorem gto_y (y m d : Int) (w : World) (h : y < -4000 ∨ 7000 < y) :
    Calls Tryq.prog 25 #[.agg #[.int .i64 y, .int .i64 m, .int .i64 d]] w fun e w' => e = .returned (.tuple #[.int .i64 0, .int .i64 2]) ∧ Gr w w' := by
  by_cases g : y < -4000
  · clear h
    go_enter Tryq.func25, Tryq.ntmps25
    go_wp2
    go_ret2
    exact ⟨rfl, (by repeat (first | exact Gr.refl _ | refine Gr.setCell ?_ _ _ (by first | exact Nat.le_refl _ | (simp; omega) | (simp; done)) | refine Gr.grown ?_ _ _ | refine Gr.drewN ?_ _ | refine Gr.drew ?_ | refine Gr.alloc ?_ _ | refine Gr.grow ?_ _ | (refine Gr.trans ?_ (by assumption))))⟩
  · have g2 : 7000 < y := by omega
    clear h
    go_enter Tryq.func25, Tryq.ntmps25
    go_wp2
    go_ret2
    exact ⟨rfl, (by repeat (first | exact Gr.refl _ | refine Gr.setCell ?_ _ _ (by first | exact Nat.le_refl _ | (simp; omega) | (simp; done)) | refine Gr.grown ?_ _ _ | refine Gr.drewN ?_ _ | refine Gr.drew ?_ | refine Gr.alloc ?_ _ | refine Gr.grow ?_ _ | (refine Gr.trans ?_ (by assumption))))⟩
theorem gto_m (y m d : Int) (w : World) (h0 : -4000 ≤ y) (h1 : y ≤ 7000) (h : m < 1 ∨ 12 < m) :
    Calls Tryq.prog 25 #[.agg #[.int .i64 y, .int .i64 m, .int .i64 d]] w fun e w' => e = .returned (.tuple #[.int .i64 0, .int .i64 3]) ∧ Gr w w' := by
  have CD : RowKit.Hid (∀ w, Calls Tryq.prog 54 #[.int .i64 y, .int .i64 m] w fun e w' => e = .returned (.int .i64 0) ∧ w' = w) := Lib.hid fun w => by
    have := gdays_s y m w; rwa [gmd_no _ m h] at this
  clear h
  go_enter Tryq.func25, Tryq.ntmps25
  go_wp2_with (go_at_call 54; (with_reducible refine (CD.out _).mono ?_); rintro e w1 ⟨rfl, rfl⟩)
  go_ret2
  exact ⟨rfl, (by repeat (first | exact Gr.refl _ | refine Gr.setCell ?_ _ _ (by first | exact Nat.le_refl _ | (simp; omega) | (simp; done)) | refine Gr.grown ?_ _ _ | refine Gr.drewN ?_ _ | refine Gr.drew ?_ | refine Gr.alloc ?_ _ | refine Gr.grow ?_ _ | (refine Gr.trans ?_ (by assumption))))⟩
theorem gto_d (y m d : Int) (w : World) (h0 : -4000 ≤ y) (h1 : y ≤ 7000) (m0 : 1 ≤ m) (m1 : m ≤ 12) (h : d < 1 ∨ gmd (gl y) m < d) :
    Calls Tryq.prog 25 #[.agg #[.int .i64 y, .int .i64 m, .int .i64 d]] w fun e w' => e = .returned (.tuple #[.int .i64 0, .int .i64 4]) ∧ Gr w w' := by
  have dr := gmd_12 (gl y) m (by omega) (by omega)
  obtain ⟨T, hT⟩ : ∃ T, gmd (gl y) m = T := ⟨_, rfl⟩
  have CD : RowKit.Hid (∀ w, Calls Tryq.prog 54 #[.int .i64 y, .int .i64 m] w fun e w' => e = .returned (.int .i64 T) ∧ w' = w) := Lib.hid fun w => by
    have := gdays_s y m w; rwa [hT] at this
  rw [hT] at h dr
  have dr0 := dr.1
  have dr1 := dr.2
  have tz : (T == 0) = false := beq_eq_false_iff_ne.2 (by omega)
  clear hT dr
  by_cases g : d < 1
  · clear h
    go_enter Tryq.func25, Tryq.ntmps25
    go_wp2_with (go_at_call 54; (with_reducible refine (CD.out _).mono ?_); rintro e w1 ⟨rfl, rfl⟩)
    go_quiet ((go_at_call 54; exact Calls.quiet_of_same (CD.out _)))
    go_wp2
    go_ret2
    exact ⟨rfl, (by repeat (first | exact Gr.refl _ | refine Gr.setCell ?_ _ _ (by first | exact Nat.le_refl _ | (simp; omega) | (simp; done)) | refine Gr.grown ?_ _ _ | refine Gr.drewN ?_ _ | refine Gr.drew ?_ | refine Gr.alloc ?_ _ | refine Gr.grow ?_ _ | (refine Gr.trans ?_ (by assumption))))⟩
  · have g2 : T < d := by omega
    clear h
    go_enter Tryq.func25, Tryq.ntmps25
    go_wp2_with (go_at_call 54; (with_reducible refine (CD.out _).mono ?_); rintro e w1 ⟨rfl, rfl⟩)
    go_quiet ((go_at_call 54; exact Calls.quiet_of_same (CD.out _)))
    go_wp2
    go_ret2
    exact ⟨rfl, (by repeat (first | exact Gr.refl _ | refine Gr.setCell ?_ _ _ (by first | exact Nat.le_refl _ | (simp; omega) | (simp; done)) | refine Gr.grown ?_ _ _ | refine Gr.drewN ?_ _ | refine Gr.drew ?_ | refine Gr.alloc ?_ _ | refine Gr.grow ?_ _ | (refine Gr.trans ?_ (by assumption))))⟩
theorem gto_c (y m d : Int) (w : World) :
    Calls Tryq.prog 25 #[.agg #[.int .i64 y, .int .i64 m, .int .i64 d]] w fun e w' => e = .returned (.tuple #[.int .i64 (tN y m d), .int .i64 (tE y m d)]) ∧ Gr w w' := by
  by_cases h : y < -4000 ∨ 7000 < y
  · rw [tN_no (by rw [tE_y h]; decide), tE_y h]; exact gto_y y m d w h
  · by_cases g : m < 1 ∨ 12 < m
    · rw [tN_no (by rw [tE_m h g]; decide), tE_m h g]; exact gto_m y m d w (by omega) (by omega) g
    · by_cases k : d < 1 ∨ gmd (gl y) m < d
      · rw [tN_no (by rw [tE_d h g k]; decide), tE_d h g k]; exact gto_d y m d w (by omega) (by omega) (by omega) (by omega) k
      · have e : m = ((m.toNat : Nat) : Int) := by omega
        have k2 : ¬ (d < 1 ∨ gmd (gl y) ((m.toNat : Nat) : Int) < d) := by rw [← e]; exact k
        have c := gto_ok y d m.toNat _ _ _ w (by omega) (by omega) (by omega) (by omega) (by omega) (by omega) rfl rfl rfl
        rw [← e] at c
        have t := tE_n h g k
        have n : tN y m d = if inD (gd y m.toNat d) = true then gd y m.toNat d else 0 := by
          unfold tN
          rw [t]
          cases inD (gd y m.toNat d) <;> rfl
        rw [n, t]
        exact c

end Go.Proofs.YtegkbjpcgelomaaGreatDoor.Walks
end
/- Walk of day.Of: what there is to say of a day. -/
section
namespace Go.Proofs.YtegkbjpcgelomaaGreatDoor.Walks
open Go Go.RowKit Go.Sort Go.Proofs.YtegkbjpcgelomaaGreatDoor.Base Go.Proofs.YtegkbjpcgelomaaGreatDoor.Plain Go.Proofs.YtegkbjpcgelomaaGreatDoor.Math

theorem Calls.name {P : Program} {f : FuncId} {args : Array Value} {w : World} {Q : Ending → World → Prop} (h : ∀ W, W = w → Calls P f args W Q) : Calls P f args w Q := h w rfl
theorem exit_name {Q : Exit → Act → World → Prop} {e : Exit} {a : Act} {w : World} (h : ∀ W, W = w → Q e a W) : Q e a w := h w rfl
theorem wp_name {P : Program} {c : Code} {Q : Exit → Act → World → Prop} {a : Act} {w : World} (h : ∀ W, W = w → c.wp P Q a W) : c.wp P Q a w := h w rfl
/-- What is said of a day, cell by cell. -/
def abC (n y N : Int) (c : Bool) (d Y M D wd om : Int) (ev : Value) (r0 r1 r2 : Int) : Array Value :=
  #[.int .i64 n, .int .i64 y, .int .i64 N, .bool c, .int .i64 d, .int .i64 Y, .int .i64 M, .int .i64 D, .int .i64 wd, .int .i64 om, ev, .int .i64 r0, .int .i64 r1, .int .i64 r2]
/-- What is asked of day.Of. -/
def DOf (w : World) (n om : Int) (e : Ending) (w' : World) : Prop :=
  ∃ y N c d Y M D wd vp vl vc r0 r1 r2, e = .returned (.tuple #[.agg (abC n y N c d Y M D wd om (.slice vp vl vc) r0 r1 r2), .int .i64 0]) ∧ Gr w w'
theorem set_heap {w : World} {b o : Nat} {cs : Array Value} {t : TypeId} {f : Nat × Nat} {v : Value} (h : w.heap[b]? = some (.cells cs t f)) : (w.setCell ⟨b, o, none⟩ v).heap[b]? = some (.cells (cs.setIfInBounds o v) t f) := by
  unfold World.setCell
  simp [Array.getElem?_modify, h]
theorem set_far {w : World} {b b' o : Nat} {v : Value} (hne : b' ≠ b) : (w.setCell ⟨b', o, none⟩ v).heap[b]? = w.heap[b]? := by
  unfold World.setCell
  simp [Array.getElem?_modify, hne]

theorem ab_set {w : World} {b : Nat} {T : TypeId} {f : Nat × Nat} {u0 u1 u2 u3 u4 u5 u6 u7 u8 u9 u10 u11 u12 u13 v0 v1 v2 v3 v4 v5 v6 v7 v8 v9 v10 v11 v12 v13 : Value} (h : w.heap[b]? = some (.cells #[u0, u1, u2, u3, u4, u5, u6, u7, u8, u9, u10, u11, u12, u13] T f)) :
    ((((((((((((((w.setCell ⟨b, 0, none⟩ v0).setCell ⟨b, 1, none⟩ v1).setCell ⟨b, 2, none⟩ v2).setCell ⟨b, 3, none⟩ v3).setCell ⟨b, 4, none⟩ v4).setCell ⟨b, 5, none⟩ v5).setCell ⟨b, 6, none⟩ v6).setCell ⟨b, 7, none⟩ v7).setCell ⟨b, 8, none⟩ v8).setCell ⟨b, 9, none⟩ v9).setCell ⟨b, 10, none⟩ v10).setCell ⟨b, 11, none⟩ v11).setCell ⟨b, 12, none⟩ v12).setCell ⟨b, 13, none⟩ v13).heap[b]? = some (.cells #[v0, v1, v2, v3, v4, v5, v6, v7, v8, v9, v10, v11, v12, v13] T f) := by
  have q := (set_heap (o := 13) (v := v13) (set_heap (o := 12) (v := v12) (set_heap (o := 11) (v := v11) (set_heap (o := 10) (v := v10) (set_heap (o := 9) (v := v9) (set_heap (o := 8) (v := v8) (set_heap (o := 7) (v := v7) (set_heap (o := 6) (v := v6) (set_heap (o := 5) (v := v5) (set_heap (o := 4) (v := v4) (set_heap (o := 3) (v := v3) (set_heap (o := 2) (v := v2) (set_heap (o := 1) (v := v1) (set_heap (o := 0) (v := v0) h))))))))))))))
  simpa using q
theorem ab_gr {w0 w : World} {b : Nat} {v0 v1 v2 v3 v4 v5 v6 v7 v8 v9 v10 v11 v12 v13 : Value} (g : Gr w0 w) (hb : w0.heap.size ≤ b) : Gr w0 ((((((((((((((w.setCell ⟨b, 0, none⟩ v0).setCell ⟨b, 1, none⟩ v1).setCell ⟨b, 2, none⟩ v2).setCell ⟨b, 3, none⟩ v3).setCell ⟨b, 4, none⟩ v4).setCell ⟨b, 5, none⟩ v5).setCell ⟨b, 6, none⟩ v6).setCell ⟨b, 7, none⟩ v7).setCell ⟨b, 8, none⟩ v8).setCell ⟨b, 9, none⟩ v9).setCell ⟨b, 10, none⟩ v10).setCell ⟨b, 11, none⟩ v11).setCell ⟨b, 12, none⟩ v12).setCell ⟨b, 13, none⟩ v13) := by
  repeat (with_reducible refine Gr.setCell ?_ _ _ hb)
  exact g
theorem d4_far {w : World} {b b' o : Nat} {y n d : Int} {c : Bool} {v : Value} (h : D4 w b y n c d) (hne : b' ≠ b) : D4 (w.setCell ⟨b', o, none⟩ v) b y n c d := by
  have hc : ∀ i, (w.setCell ⟨b', o, none⟩ v).cell? ⟨b, i, none⟩ = w.cell? ⟨b, i, none⟩ := fun i => World.cell?_setCell_far _ _ _ _ hne
  have hf : ∀ i, (w.setCell ⟨b', o, none⟩ v).frozen? ⟨b, i, none⟩ = w.frozen? ⟨b, i, none⟩ := fun i => by simp only [World.frozen?, set_far hne]
  exact ⟨by rw [set_size]; exact h.lt, by rw [hc]; exact h.c0, by rw [hc]; exact h.c1, by rw [hc]; exact h.c2, by rw [hc]; exact h.c3, by rw [hf]; exact h.f0, by rw [hf]; exact h.f1, by rw [hf]; exact h.f2, by rw [hf]; exact h.f3⟩
theorem dyinfo_int : (Tryq.prog.info? 3).map (fun i => (i.zero, i.size, i.bytes)) = some (some (.int .i64 0), 1, 8) := by kernel_rfl
theorem dyund_ints : Tryq.prog.underlying 70 = some (.slice 3) := by kernel_rfl
/-- Append of a number to a row of the call's own. -/
theorem append_nums (w : World) {ops : Array Oper} {rest : List Oper} {o : Oper} {a : Act} {Q : Exit → Act → World → Prop} (hg : o.guard = none) (s x : Operand)
    (hop : o.op = .call { callee := .builtin .append, args := #[s, x], argTypes := #[70, 70] })
    (base : Nat) (v : Value) (n : Nat) (xs : List Value) (hs : a.eval s = v) (hown : w.ownsRow base 3 1 v n xs)
    (g c : Nat) (K : Int) (hx : a.eval x = .slice (some ⟨g, 0, none⟩) 1 c) (hu : w.cell? ⟨g, 0, none⟩ = some (.int .i64 K))
    (hsm : n + 1 ≤ 100000) (hbase : base ≤ w.heap.size)
    (hK : ∀ g cap w', w'.ownsRow base 3 1 (.slice (some ⟨g, 0, none⟩) (n + 1) cap) (n + 1) (xs ++ [.int .i64 K]) → w.grownBy w' v.ownBlock → base ≤ g → (∀ W, Gr W w → W.heap.size ≤ base → Gr W w') →
      wpList Tryq.prog ops Q rest (a.put o.dst (.slice (some ⟨g, 0, none⟩) (n + 1) cap)) w') : wpList Tryq.prog ops Q (o :: rest) a w := by
  obtain ⟨i, h2, h3, h4, h5⟩ := info_parts dyinfo_int
  refine wpList_append_gr w hg s x 70 hop base 3 i (.int .i64 0) 1 8 dyund_ints h2 h3 h4 h5 rfl (by decide) v n xs hs hown ⟨g, 0, none⟩ 1 c [.int .i64 K] hx rfl (fun j u hj => ?_) (by simp [Value.oneCell']) (by decide) (by simp only [maxLen]; omega) (by omega) hbase hK
  match j, hj with
  | 0, hj => simp at hj; subst hj; simpa [Addr.add] using hu
theorem froz {w : World} {b : Nat} {cs : Array Value} {T : TypeId} (hb : w.heap[b]? = some (.cells cs T (0, 0))) (j : Nat) : w.frozen? ⟨b, j, none⟩ = false := by
  simp [World.frozen?, hb]
theorem cellh {w : World} {b : Nat} {cs : Array Value} {T : TypeId} (hb : w.heap[b]? = some (.cells cs T (0, 0))) {j : Nat} {v : Value} (h : cs[j]? = some v) : w.cell? ⟨b, j, none⟩ = some v := by
  rw [Lib.cell_of_heap hb]; exact h
theorem heap_lt {w : World} {b : Nat} {o : Obj} (h : w.heap[b]? = some o) : b < w.heap.size := (Array.getElem?_eq_some_iff.1 h).1
theorem own_base {w : World} {base e size n : Nat} {v : Value} {xs : List Value} (h : w.ownsRow base e size v n xs) {b : Nat} (hb : b < base) : some b ≠ v.ownBlock := by
  rcases h.2 with ⟨rfl, -⟩ | ⟨g, cap, cur, rfl, hg, -⟩
  · simp [Value.ownBlock]
  · intro q
    have : b = g := by simpa [Value.ownBlock] using q
    omega
theorem own_far {w : World} {base e size n : Nat} {v u : Value} {xs : List Value} (h : w.ownsRow base e size v n xs) {b o : Nat} (hb : b < base) : (w.setCell ⟨b, o, none⟩ u).ownsRow base e size v n xs := by
  refine ⟨h.1, ?_⟩
  rcases h.2 with q | ⟨g, cap, cur, q, hg, hh, r⟩
  · exact .inl q
  · exact .inr ⟨g, cap, cur, q, hg, (set_far (by omega)).trans hh, r⟩
theorem evs_far {w : World} {g b o : Nat} {L : List (Int × Int)} {u : Value} (h : Evs w g L) (hb : b ≠ g) : Evs (w.setCell ⟨b, o, none⟩ u) g L :=
  ⟨by rw [set_size]; exact h.lt, fun i e he => by
    rw [World.cell?_setCell_far _ _ _ _ hb, World.cell?_setCell_far _ _ _ _ hb]; exact h.c i e he⟩
set_option maxRecDepth 20000 in
set_option maxHeartbeats 16000000 in
theorem dayof_core (n y N d Y M D om : Int) (c : Bool) (L : List (Int × Int)) (w : World) (n0 : -2000000 ≤ n) (n1 : n ≤ 3000000) (hL : 0 < L.length) (hL2 : L.length ≤ 300)
    (c1 : ∀ W, Gr w W → Calls Tryq.prog 22 #[.int .i64 n] W fun e w' => e = .returned (.tuple #[.agg #[.int .i64 y, .int .i64 N, .bool c, .int .i64 d], .int .i64 0]) ∧ Gr W w')
    (c2 : ∀ W, Calls Tryq.prog 19 #[.int .i64 n] W fun e w' => e = .returned (.int .i64 (n % 7)) ∧ Gr W w')
    (c3 : ∀ W, Calls Tryq.prog 23 #[.int .i64 n] W fun e w' => e = .returned (.tuple #[.agg #[.int .i64 Y, .int .i64 M, .int .i64 D], .int .i64 0]) ∧ Gr W w')
    (c4 : ∀ W, Gr w W → Calls Tryq.prog 72 #[.int .i64 n] W fun e w' => e = .returned (.tuple #[.int .i64 om, .int .i64 0]) ∧ Gr W w')
    (c5 : ∀ W, Gr w W → Calls Tryq.prog 30 #[.int .i64 y, .int .i64 1] W (OfO W L))
    (c6 : ∀ W, Gr w W → Calls Tryq.prog 40 #[.int .i64 n, .int .i64 1] W fun e w' => ∃ a b c e', e = .returned (.tuple #[.agg #[.int .i64 a, .int .i64 b, .int .i64 c], .int .i64 e']) ∧ Gr W w') :
    Calls Tryq.prog 35 #[.int .i64 n, .int .i64 1] w (DOf w n om) := by
  have C1 := Lib.hid c1
  have C2 := Lib.hid c2
  have C3 := Lib.hid c3
  have C4 := Lib.hid c4
  have C5 := Lib.hid c5
  have C6 := Lib.hid c6
  clear c1 c2 c3 c4 c5 c6
  obtain ⟨R, hR⟩ : ∃ R, w.heap.size = R := ⟨_, rfl⟩
  go_enter Tryq.func35, Tryq.ntmps35
  go_wp2_with (first | (go_at_call 22; fail))
  go_at_call 22
  refine Calls.name ?_
  intro W1 hW1
  have G1 : Gr w W1 := by rw [hW1]; exact (Gr.refl _).alloc _
  have xR : W1.heap[R]? = some (.cells (abC 0 0 0 false 0 0 0 0 0 0 (.slice none 0 0) 0 0 0) 74 (0, 0)) := by rw [hW1, ← hR]; exact heap_alloc_new _ _
  have lR : R < W1.heap.size := (Array.getElem?_eq_some_iff.1 xR).1
  clear hW1
  refine (C1.out _ G1).mono ?_
  rintro e1 wA ⟨rfl, hgA⟩
  replace xR := (hgA.heap lR).trans xR
  replace lR := hgA.lt lR
  have GA := G1.trans hgA
  clear hgA G1
  clear W1
  go_wp2
  refine wp_name ?_
  intro W2 hW2
  have G2 : Gr wA W2 := by rw [hW2]; exact (Gr.refl _).alloc _
  have D2 : D4 W2 wA.heap.size y N c d := by rw [hW2]; exact D4.at rfl y N d c
  have hd : Gr W2 W2.drew := (Gr.refl _).drew
  have k0 : ∀ w', Gr W2 w' → w'.cell? ⟨wA.heap.size, 0, none⟩ = some (.int .i64 y) := fun w' h => (D2.gr h).c0
  have k1 : ∀ w', Gr W2 w' → w'.cell? ⟨wA.heap.size, 1, none⟩ = some (.int .i64 N) := fun w' h => (D2.gr h).c1
  have k2 : ∀ w', Gr W2 w' → w'.cell? ⟨wA.heap.size, 2, none⟩ = some (.bool c) := fun w' h => (D2.gr h).c2
  have k3 : ∀ w', Gr W2 w' → w'.cell? ⟨wA.heap.size, 3, none⟩ = some (.int .i64 d) := fun w' h => (D2.gr h).c3
  clear hW2
  go_region_held3 (fun w' => Gr W2 w') (repeat (first | (with_reducible exact hd) | (with_reducible assumption) | (with_reducible refine Gr.setCell ?_ _ _ (by first | exact Nat.le_refl _ | (simp; omega) | (simp at *; omega))) | (with_reducible refine Gr.alloc ?_ _) | (with_reducible refine Gr.drew ?_) | (with_reducible exact Gr.refl _) | (refine Gr.trans ?_ (by with_reducible assumption)))) (first | (go_at_call 19; (with_reducible refine (C2.out _).mono ?_); rintro e w1 ⟨rfl, hg1⟩; obtain ⟨hcl1, hfz1, hsz1⟩ := gcell hg1; (try simp [Nat.add_one_le_iff] at hsz1); (try have l1a : W2.heap.size < w1.heap.size := (by omega))))
  all_goals (refine exit_name (Q := Exit.then _ _) ?_; intro W3 hW3; clear hcl1 hfz1 hsz1)
  rotate_left
  focus
    obtain ⟨b, hb⟩ : ∃ b, W2.heap.size = b := ⟨_, rfl⟩
    have y0 : w1.heap[b]? = some (.cells (abC 0 0 0 false 0 0 0 0 0 0 (.slice none 0 0) 0 0 0) 74 (0, 0)) := by rw [← hb]; exact (hg1.heap (by simp)).trans (heap_alloc_new W2.drew _)
    have x8 : W3.heap[b]? = some (.cells (abC n y N c d 0 0 0 (n % 7) 0 (.slice none 0 0) 0 0 0) 74 (0, 0)) := by
      rw [hW3, hb]
      exact ab_set y0
    have b0 : W2.heap.size ≤ b := by rw [← hb]; exact Nat.le_refl _
    have G3 : Gr W2 W3 := by
      rw [hW3]
      exact ab_gr ((hd.alloc _).trans hg1) (Nat.le_refl _)
    clear y0
    rw [hb]
  rotate_left
  focus
    obtain ⟨b, hb⟩ : ∃ b, w1.heap.size = b := ⟨_, rfl⟩
    have x8 : W3.heap[b]? = some (.cells (abC n y N c d 0 0 0 (n % 7) 0 (.slice none 0 0) 0 0 0) 74 (0, 0)) := by rw [hW3, ← hb]; exact heap_alloc_new _ _
    have b0 : W2.heap.size ≤ b := by rw [← hb]; exact (hd.trans hg1).size
    have G3 : Gr W2 W3 := by rw [hW3]; exact (hd.trans hg1).alloc _
    rw [hb]
  all_goals (
    replace xR := (G3.heap (G2.lt lR)).trans ((G2.heap lR).trans xR)
    have x6 := D2.gr G3
    have G03 : Gr w W3 := (GA.trans G2).trans G3
    have bR : R ≠ b := by have := G2.size; omega
    have l6 : wA.heap.size < b := by have := D2.lt; omega
    have bw : w.heap.size ≤ b := by have := GA.size; have := G2.size; omega
    clear hg1 hW3 hb k0 k1 k2 k3 hd D2 C1 C2
    go_wp2_with (first | (go_at_call 23; fail))
    go_at_call 23
    refine (C3.out _).mono ?_
    rintro e wB ⟨rfl, hgB⟩
    replace x8 := (hgB.heap (heap_lt x8)).trans x8
    replace xR := (hgB.heap (heap_lt xR)).trans xR
    replace x6 := x6.gr hgB
    have GB := G03.trans hgB
    have c5 := cellh x8 (j := 5) (v := .int .i64 0) rfl
    have c6 := cellh x8 (j := 6) (v := .int .i64 0) rfl
    have c7 := cellh x8 (j := 7) (v := .int .i64 0) rfl
    have f5 := froz x8 5
    have f6 := froz x8 6
    have f7 := froz x8 7
    clear hgB G03 G3 GA G2 C3
    go_wp2_with (first | (go_at_call 72; fail))
    go_at_call 72
    refine Calls.name ?_
    intro W5 hW5
    have q8 : W5.heap[b]? = some (.cells (abC n y N c d Y M D (n % 7) 0 (.slice none 0 0) 0 0 0) 74 (0, 0)) := by
      rw [hW5]
      have q := set_heap (o := 7) (v := .int .i64 D) (set_heap (o := 6) (v := .int .i64 M) (set_heap (o := 5) (v := .int .i64 Y) x8))
      simpa [abC] using q
    have qR : W5.heap[R]? = some (.cells (abC 0 0 0 false 0 0 0 0 0 0 (.slice none 0 0) 0 0 0) 74 (0, 0)) := by
      rw [hW5, set_far (Ne.symm bR), set_far (Ne.symm bR), set_far (Ne.symm bR)]; exact xR
    have q6 : D4 W5 wA.heap.size y N c d := by
      have e : ∀ (W : World) (o : Nat) (v : Value), D4 W wA.heap.size y N c d → D4 (W.setCell ⟨b, o, none⟩ v) wA.heap.size y N c d := fun W o v h => d4_far h (by show b ≠ _; omega)
      rw [hW5]
      exact e _ _ _ (e _ _ _ (e _ _ _ x6))
    have G5 : Gr w W5 := by
      rw [hW5]
      exact ((GB.setCell _ _ bw).setCell _ _ bw).setCell _ _ bw
    clear hW5 x8 xR x6 GB c5 c6 c7 f5 f6 f7
    clear wB
    refine (C4.out _ G5).mono ?_
    rintro e wC ⟨rfl, hgC⟩
    have x8 := (hgC.heap (heap_lt q8)).trans q8
    have xR := (hgC.heap (heap_lt qR)).trans qR
    have x6 := q6.gr hgC
    have GC := G5.trans hgC
    have c9 := cellh x8 (j := 9) (v := .int .i64 0) rfl
    have f9 := froz x8 9
    have k0 := x6.c0
    clear hgC G5 q8 qR q6 C4
    clear W5
    go_wp2_with (first | (go_at_call 30; fail))
    go_at_call 30
    refine Calls.name ?_
    intro W6 hW6
    have q8 : W6.heap[b]? = some (.cells (abC n y N c d Y M D (n % 7) om (.slice none 0 0) 0 0 0) 74 (0, 0)) := by
      rw [hW6]
      have q := set_heap (o := 9) (v := .int .i64 om) x8
      simpa [abC] using q
    have qR : W6.heap[R]? = some (.cells (abC 0 0 0 false 0 0 0 0 0 0 (.slice none 0 0) 0 0 0) 74 (0, 0)) := by
      rw [hW6, set_far (Ne.symm bR)]; exact xR
    have G6 : Gr w W6 := by
      rw [hW6]
      exact GC.setCell _ _ bw
    clear hW6 x8 xR x6 GC c9 f9 k0
    clear wC
    refine (C5.out _ G6).mono ?_
    rintro e wD ⟨gE, capE, ML, rfl, hPM, hOw, hgD⟩
    have x8 := (hgD.heap (heap_lt q8)).trans q8
    have xR := (hgD.heap (heap_lt qR)).trans qR
    have GD := G6.trans hgD
    have hML := hPM.length_eq
    have hE := evs_of hOw (by omega) rfl
    have lE := hE.lt
    have bE : b ≠ gE := fun q => own_base hOw (heap_lt q8) (by rw [q]; rfl)
    have l8 := heap_lt x8
    have lR := heap_lt xR
    have HML := Lib.hid hML
    clear hgD G6 q8 qR C5 hOw hML hPM
    clear W6
    go_wp2
    go_loopg [68] ML.length (fun kx s68 wr => ∃ (i m : Nat) (v : Value) (xs : List Value), i ≤ ML.length ∧ ML.length - i ≤ kx ∧ s68 = .int .i64 (i : Int) ∧ m ≤ i ∧ wr.heap[b]? = some (.cells (abC n y N c d Y M D (n % 7) om v 0 0 0) 74 (0, 0)) ∧ wr.heap[R]? = some (.cells (abC 0 0 0 false 0 0 0 0 0 0 (.slice none 0 0) 0 0 0) 74 (0, 0)) ∧ wr.ownsRow wD.heap.size 3 1 v m xs ∧ Evs wr gE ML ∧ wD.heap.size ≤ wr.heap.size ∧ Gr w wr)
    case atStart => exact ⟨0, 0, _, [], by omega, by omega, rfl, by omega, x8, xR, World.ownsRow_nil _ _ _ _, hE, Nat.le_refl _, GD⟩
    case round =>
      obtain ⟨i, m, v, xs, hi, hm', rfl, hmi, y8, yR, ho, hEr, hsz, hg⟩ := hrel
      rename World => wo
      have hGs := GD.size
      clear x8 xR hE GD
      by_cases ei : i < ML.length
      · have ei' : (i : Int) < (ML.length : Int) := by omega
        obtain ⟨x, hx⟩ : ∃ x, ML[i]? = some x := ⟨_, List.getElem?_eq_getElem ei⟩
        obtain ⟨k0, k1⟩ := hEr.c i x hx
        rw [Nat.mul_comm] at k0 k1
        obtain ⟨K, E⟩ := x
        simp only at k0 k1
        have ly := heap_lt y8
        have lyR := heap_lt yR
        have gA := ((Gr.refl wo).alloc (Obj.cells #[.int .i64 K, .int .i64 E] 67))
        have hm3 : ML.length ≤ 300 := by rw [HML.out]; exact hL2
        by_cases q : E = n
        · have qe : (E == n) = true := beq_iff_eq.2 q
          have c10 := cellh y8 (j := 10) (v := v) rfl
          have f10 := froz y8 10
          have gB := gA.alloc (Obj.cells #[.int .i64 K] 3)
          have o2 := own_gr ho gB
          have y8b := (gB.heap ly).trans y8
          have yRb := (gB.heap lyR).trans yR
          have Eb := hEr.gr gB
          have gw := hg.trans gB
          have ne8 := own_base ho (b := b) l8
          have neR := own_base ho (b := R) lR
          have neE := own_base ho (b := gE) lE
          have lb := gB.lt ly
          have lRb := gB.lt lyR
          have szb : wD.heap.size ≤ ((wo.alloc (Obj.cells #[.int .i64 K, .int .i64 E] 67)).alloc (Obj.cells #[.int .i64 K] 3)).heap.size := by
            exact Nat.le_trans hsz gB.size
          subst q
          go_wp2_with (first | (at_builtin; refine append_nums _ rfl _ _ rfl wD.heap.size v m xs rfl o2 _ 1 K rfl (by simp [go_sem]) (by omega) szb ?_; intro g c3 wX OX kX bX GX_; have GX : Gr w wX := GX_ w gw hGs; have z8 := (kX.block b lb ne8).trans y8b; have zR := (kX.block R lRb neR).trans yRb; have EX := Eb.kept kX neE; have c10 := cellh z8 (j := 10) (v := v) rfl; have f10 := froz z8 10; clear o2 y8b yRb Eb gw GX_))
          go_roundg (ML.length - (i + 1))
          case measure => omega
          case rel =>
            refine ⟨i + 1, m + 1, _, _, by omega, Nat.le_refl _, by go_num, by omega, ?_, (set_far (Ne.symm bR)).trans zR, own_far OX l8, evs_far EX bE, by rw [set_size]; exact Nat.le_trans szb kX.size, GX.setCell _ _ bw⟩
            have q := set_heap (o := 10) (v := .slice (some ⟨g, 0, none⟩) (m + 1) c3) z8
            simpa [abC] using q
        · have qe : (E == n) = false := beq_eq_false_iff_ne.2 q
          go_wp2
          go_roundg (ML.length - (i + 1))
          case measure => omega
          case rel => exact ⟨i + 1, m, v, xs, by omega, Nat.le_refl _, by go_num, by omega, (gA.heap ly).trans y8, (gA.heap lyR).trans yR, own_gr ho gA, hEr.gr gA, Nat.le_trans hsz gA.size, hg.trans gA⟩
      · obtain rfl : i = ML.length := by omega
        obtain ⟨vp, vl, vc, rfl⟩ : ∃ vp vl vc, v = .slice vp vl vc := by
          rcases ho.2 with ⟨q, -⟩ | ⟨g, cap, cur, q, -⟩
          · exact ⟨_, _, _, q⟩
          · exact ⟨_, _, _, q⟩
        go_wp2_with (first | (go_at_call 40; fail))
        go_at_call 40
        refine (C6.out _ hg).mono ?_
        rintro e wE ⟨ra, rb, rc, re, rfl, hgE⟩
        have z8 := (hgE.heap (heap_lt y8)).trans y8
        have zR := (hgE.heap (heap_lt yR)).trans yR
        have GE := hg.trans hgE
        have m8 := heap_lt z8
        have mR := heap_lt zR
        have gF := (Gr.refl wE).alloc (Obj.cells #[.int .i64 ra, .int .i64 rb, .int .i64 rc] 72)
        clear y8 yR ho hEr hsz hg hgE C6
        by_cases qr : re = 0
        · subst qr
          have c11 := cellh z8 (j := 11) (v := .int .i64 0) rfl
          have c12 := cellh z8 (j := 12) (v := .int .i64 0) rfl
          have c13 := cellh z8 (j := 13) (v := .int .i64 0) rfl
          have f11 := froz z8 11
          have f12 := froz z8 12
          have f13 := froz z8 13
          go_upto_region 25 with fail
          refine wp_name ?_
          intro W7 hW7
          have p8 : W7.heap[b]? = some (.cells (abC n y N c d Y M D (n % 7) om (.slice vp vl vc) ra rb rc) 74 (0, 0)) := by
            rw [hW7]
            have q := set_heap (o := 13) (v := .int .i64 rc) (set_heap (o := 12) (v := .int .i64 rb) (set_heap (o := 11) (v := .int .i64 ra) z8))
            rw [Lib.alloc_old _ _ _ (heap_lt q)]
            simpa [abC] using q
          have pR : W7.heap[R]? = some (.cells (abC 0 0 0 false 0 0 0 0 0 0 (.slice none 0 0) 0 0 0) 74 (0, 0)) := by
            rw [hW7, Lib.alloc_old _ _ _ (by rw [set_size, set_size, set_size]; exact mR), set_far (Ne.symm bR), set_far (Ne.symm bR), set_far (Ne.symm bR)]; exact zR
          have G7 : Gr w W7 := by
            rw [hW7]
            exact (((GE.setCell _ _ bw).setCell _ _ bw).setCell _ _ bw).alloc _
          clear hW7 c11 c12 c13 f11 f12 f13 z8 zR gF GE
          have d0 := cellh p8 (j := 0) (v := .int .i64 n) rfl
          have d1 := cellh p8 (j := 1) (v := .int .i64 y) rfl
          have d2 := cellh p8 (j := 2) (v := .int .i64 N) rfl
          have d3 := cellh p8 (j := 3) (v := .bool c) rfl
          have d4 := cellh p8 (j := 4) (v := .int .i64 d) rfl
          have d5 := cellh p8 (j := 5) (v := .int .i64 Y) rfl
          have d6 := cellh p8 (j := 6) (v := .int .i64 M) rfl
          have d7 := cellh p8 (j := 7) (v := .int .i64 D) rfl
          have d8 := cellh p8 (j := 8) (v := .int .i64 (n % 7)) rfl
          have d9 := cellh p8 (j := 9) (v := .int .i64 om) rfl
          have d10 := cellh p8 (j := 10) (v := .slice vp vl vc) rfl
          have d11 := cellh p8 (j := 11) (v := .int .i64 ra) rfl
          have d12 := cellh p8 (j := 12) (v := .int .i64 rb) rfl
          have d13 := cellh p8 (j := 13) (v := .int .i64 rc) rfl
          have e0 := cellh pR (j := 0) (v := .int .i64 0) rfl
          have g0 := froz pR 0
          have e1 := cellh pR (j := 1) (v := .int .i64 0) rfl
          have g1 := froz pR 1
          have e2 := cellh pR (j := 2) (v := .int .i64 0) rfl
          have g2 := froz pR 2
          have e3 := cellh pR (j := 3) (v := .bool false) rfl
          have g3 := froz pR 3
          have e4 := cellh pR (j := 4) (v := .int .i64 0) rfl
          have g4 := froz pR 4
          have e5 := cellh pR (j := 5) (v := .int .i64 0) rfl
          have g5 := froz pR 5
          have e6 := cellh pR (j := 6) (v := .int .i64 0) rfl
          have g6 := froz pR 6
          have e7 := cellh pR (j := 7) (v := .int .i64 0) rfl
          have g7 := froz pR 7
          have e8 := cellh pR (j := 8) (v := .int .i64 0) rfl
          have g8 := froz pR 8
          have e9 := cellh pR (j := 9) (v := .int .i64 0) rfl
          have g9 := froz pR 9
          have e10 := cellh pR (j := 10) (v := .slice none 0 0) rfl
          have g10 := froz pR 10
          have e11 := cellh pR (j := 11) (v := .int .i64 0) rfl
          have g11 := froz pR 11
          have e12 := cellh pR (j := 12) (v := .int .i64 0) rfl
          have g12 := froz pR 12
          have e13 := cellh pR (j := 13) (v := .int .i64 0) rfl
          have g13 := froz pR 13
          have rwR : w.heap.size ≤ R := by omega
          have PR := Lib.hid pR
          clear p8 pR
          go_wp2
          refine exit_name ?_
          intro W8 hW8
          have t8 : W8.heap[R]? = some (.cells (abC n y N c d Y M D (n % 7) om (.slice vp vl vc) ra rb rc) 74 (0, 0)) := by rw [hW8]; exact ab_set PR.out
          have G8 : Gr w W8 := by rw [hW8]; exact ab_gr G7 rwR
          clear hW8 d0 d1 d2 d3 d4 d5 d6 d7 d8 d9 d10 d11 d12 d13 e0 e1 e2 e3 e4 e5 e6 e7 e8 e9 e10 e11 e12 e13 g0 g1 g2 g3 g4 g5 g6 g7 g8 g9 g10 g11 g12 g13 PR
          have d0 := cellh t8 (j := 0) (v := .int .i64 n) rfl
          have d1 := cellh t8 (j := 1) (v := .int .i64 y) rfl
          have d2 := cellh t8 (j := 2) (v := .int .i64 N) rfl
          have d3 := cellh t8 (j := 3) (v := .bool c) rfl
          have d4 := cellh t8 (j := 4) (v := .int .i64 d) rfl
          have d5 := cellh t8 (j := 5) (v := .int .i64 Y) rfl
          have d6 := cellh t8 (j := 6) (v := .int .i64 M) rfl
          have d7 := cellh t8 (j := 7) (v := .int .i64 D) rfl
          have d8 := cellh t8 (j := 8) (v := .int .i64 (n % 7)) rfl
          have d9 := cellh t8 (j := 9) (v := .int .i64 om) rfl
          have d10 := cellh t8 (j := 10) (v := .slice vp vl vc) rfl
          have d11 := cellh t8 (j := 11) (v := .int .i64 ra) rfl
          have d12 := cellh t8 (j := 12) (v := .int .i64 rb) rfl
          have d13 := cellh t8 (j := 13) (v := .int .i64 rc) rfl
          have G8 := Lib.hid G8
          clear t8 G7
          exact bodyPost_ret (v := .tuple #[.agg (abC n y N c d Y M D (n % 7) om (.slice vp vl vc) ra rb rc), .int .i64 0]) (by simp [results, Tryz.results35, go_sem, abC, *]) rfl ⟨y, N, c, d, Y, M, D, n % 7, vp, vl, vc, ra, rb, rc, rfl, G8.out⟩
        · have qr1 : (re == 0) = false := beq_eq_false_iff_ne.2 qr
          go_upto_region 25 with fail
          refine wp_name ?_
          intro W7 hW7
          have p8 : W7.heap[b]? = some (.cells (abC n y N c d Y M D (n % 7) om (.slice vp vl vc) 0 0 0) 74 (0, 0)) := by
            rw [hW7]; exact (gF.heap m8).trans z8
          have pR : W7.heap[R]? = some (.cells (abC 0 0 0 false 0 0 0 0 0 0 (.slice none 0 0) 0 0 0) 74 (0, 0)) := by
            rw [hW7]; exact (gF.heap mR).trans zR
          have G7 : Gr w W7 := by
            rw [hW7]
            exact GE.alloc _
          clear hW7 z8 zR gF GE
          have d0 := cellh p8 (j := 0) (v := .int .i64 n) rfl
          have d1 := cellh p8 (j := 1) (v := .int .i64 y) rfl
          have d2 := cellh p8 (j := 2) (v := .int .i64 N) rfl
          have d3 := cellh p8 (j := 3) (v := .bool c) rfl
          have d4 := cellh p8 (j := 4) (v := .int .i64 d) rfl
          have d5 := cellh p8 (j := 5) (v := .int .i64 Y) rfl
          have d6 := cellh p8 (j := 6) (v := .int .i64 M) rfl
          have d7 := cellh p8 (j := 7) (v := .int .i64 D) rfl
          have d8 := cellh p8 (j := 8) (v := .int .i64 (n % 7)) rfl
          have d9 := cellh p8 (j := 9) (v := .int .i64 om) rfl
          have d10 := cellh p8 (j := 10) (v := .slice vp vl vc) rfl
          have d11 := cellh p8 (j := 11) (v := .int .i64 0) rfl
          have d12 := cellh p8 (j := 12) (v := .int .i64 0) rfl
          have d13 := cellh p8 (j := 13) (v := .int .i64 0) rfl
          have e0 := cellh pR (j := 0) (v := .int .i64 0) rfl
          have g0 := froz pR 0
          have e1 := cellh pR (j := 1) (v := .int .i64 0) rfl
          have g1 := froz pR 1
          have e2 := cellh pR (j := 2) (v := .int .i64 0) rfl
          have g2 := froz pR 2
          have e3 := cellh pR (j := 3) (v := .bool false) rfl
          have g3 := froz pR 3
          have e4 := cellh pR (j := 4) (v := .int .i64 0) rfl
          have g4 := froz pR 4
          have e5 := cellh pR (j := 5) (v := .int .i64 0) rfl
          have g5 := froz pR 5
          have e6 := cellh pR (j := 6) (v := .int .i64 0) rfl
          have g6 := froz pR 6
          have e7 := cellh pR (j := 7) (v := .int .i64 0) rfl
          have g7 := froz pR 7
          have e8 := cellh pR (j := 8) (v := .int .i64 0) rfl
          have g8 := froz pR 8
          have e9 := cellh pR (j := 9) (v := .int .i64 0) rfl
          have g9 := froz pR 9
          have e10 := cellh pR (j := 10) (v := .slice none 0 0) rfl
          have g10 := froz pR 10
          have e11 := cellh pR (j := 11) (v := .int .i64 0) rfl
          have g11 := froz pR 11
          have e12 := cellh pR (j := 12) (v := .int .i64 0) rfl
          have g12 := froz pR 12
          have e13 := cellh pR (j := 13) (v := .int .i64 0) rfl
          have g13 := froz pR 13
          have rwR : w.heap.size ≤ R := by omega
          have PR := Lib.hid pR
          clear p8 pR
          go_wp2
          refine exit_name ?_
          intro W8 hW8
          have t8 : W8.heap[R]? = some (.cells (abC n y N c d Y M D (n % 7) om (.slice vp vl vc) 0 0 0) 74 (0, 0)) := by rw [hW8]; exact ab_set PR.out
          have G8 : Gr w W8 := by rw [hW8]; exact ab_gr G7 rwR
          clear hW8 d0 d1 d2 d3 d4 d5 d6 d7 d8 d9 d10 d11 d12 d13 e0 e1 e2 e3 e4 e5 e6 e7 e8 e9 e10 e11 e12 e13 g0 g1 g2 g3 g4 g5 g6 g7 g8 g9 g10 g11 g12 g13 PR
          have d0 := cellh t8 (j := 0) (v := .int .i64 n) rfl
          have d1 := cellh t8 (j := 1) (v := .int .i64 y) rfl
          have d2 := cellh t8 (j := 2) (v := .int .i64 N) rfl
          have d3 := cellh t8 (j := 3) (v := .bool c) rfl
          have d4 := cellh t8 (j := 4) (v := .int .i64 d) rfl
          have d5 := cellh t8 (j := 5) (v := .int .i64 Y) rfl
          have d6 := cellh t8 (j := 6) (v := .int .i64 M) rfl
          have d7 := cellh t8 (j := 7) (v := .int .i64 D) rfl
          have d8 := cellh t8 (j := 8) (v := .int .i64 (n % 7)) rfl
          have d9 := cellh t8 (j := 9) (v := .int .i64 om) rfl
          have d10 := cellh t8 (j := 10) (v := .slice vp vl vc) rfl
          have d11 := cellh t8 (j := 11) (v := .int .i64 0) rfl
          have d12 := cellh t8 (j := 12) (v := .int .i64 0) rfl
          have d13 := cellh t8 (j := 13) (v := .int .i64 0) rfl
          have G8 := Lib.hid G8
          clear t8 G7
          exact bodyPost_ret (v := .tuple #[.agg (abC n y N c d Y M D (n % 7) om (.slice vp vl vc) 0 0 0), .int .i64 0]) (by simp [results, Tryz.results35, go_sem, abC, *]) rfl ⟨y, N, c, d, Y, M, D, n % 7, vp, vl, vc, 0, 0, 0, rfl, G8.out⟩)
end Go.Proofs.YtegkbjpcgelomaaGreatDoor.Walks
end
/- The fasts and the Sabbaths with names in plain numbers. No program in sight. -/
section
namespace Go.Proofs.YtegkbjpcgelomaaGreatDoor.Math
open Go Go.RowKit Go.Proofs.YtegkbjpcgelomaaGreatDoor.Plain Go.Proofs.YtegkbjpcgelomaaGreatDoor.Walks

/-- By how many days a kind is moved. -/
def mvf (k w : Int) : Int :=
  if w = 6 then (if k = 2 ∨ k = 26 ∨ k = 27 then 1 else if k = 13 ∨ k = 16 ∨ k = 21 then -2 else 0)
  else if w = 0 then (if k = 19 then 1 else 0)
  else if w = 1 then (if k = 21 then 1 else 0)
  else if w = 5 then (if k = 19 ∨ k = 21 then -1 else 0) else 0
theorem mvf_range (k w : Int) : -2 ≤ mvf k w ∧ mvf k w ≤ 1 := by
  unfold mvf
  repeat' split
  all_goals omega
/-- The nine rows: kinds, months, days. -/
def xK (i : Nat) : Int := ([2, 10, 13, 16, 19, 21, 24, 26, 27] : List Int).getD i 0
def xN (i : Nat) : Int := ([1, 4, 6, 7, 7, 8, 8, 10, 11] : List Int).getD i 0
def xD (i : Nat) : Int := ([3, 10, 13, 14, 27, 5, 28, 17, 9] : List Int).getD i 0
theorem x_ok : ∀ i, i < 9 → 1 ≤ xK i ∧ xK i ≤ 40 ∧ 1 ≤ xN i ∧ xN i ≤ 12 ∧ 1 ≤ xD i ∧ xD i ≤ 29 := by decide
def xdy (y : Int) (i : Nat) : Int := dyn y (xN i) (xD i) + mvf (xK i) (dyn y (xN i) (xD i) % 7)
/-- The events of a row. -/
def xev (y : Int) (i : Nat) : List (Int × Int) := if xK i = 21 then [(xK i, xdy y i), (20, xdy y i - 1)] else [(xK i, xdy y i)]
def xep (y : Int) (i : Nat) : List (Int × Int) := (List.range i).flatMap (xev y)
theorem xep_snoc (y : Int) (i : Nat) : xep y (i + 1) = xep y i ++ xev y i := by simp [xep, List.range_succ]
theorem xep_len (y : Int) (i : Nat) : (xep y i).length ≤ 2 * i := by
  induction i with
  | zero => simp [xep]
  | succ i ih =>
    rw [xep_snoc, List.length_append]
    have : (xev y i).length ≤ 2 := by unfold xev; split <;> simp
    omega
theorem xep_pos (y : Int) : 0 < (xep y 9).length := by
  have : xep y 9 = xev y 0 ++ (List.range' 1 8).flatMap (xev y) := rfl
  rw [this, List.length_append]
  have : (xev y 0).length = 1 := rfl
  omega
/-- The eight named Sabbaths: kinds, months, days, from there on or up to it, days further. -/
def sK (i : Nat) : Int := ([35, 30, 31, 32, 33, 34, 36, 37] : List Int).getD i 0
def sN (i : Nat) : Int := ([1, 6, 6, 7, 7, 7, 11, 11] : List Int).getD i 0
def sD (i : Nat) : Int := ([3, 1, 13, 1, 1, 14, 9, 9] : List Int).getD i 0
def sX (i : Nat) : Int := ([0, 0, 0, -7, 0, 0, 0, 7] : List Int).getD i 0
theorem s_ok : ∀ i, i < 8 → 1 ≤ sK i ∧ sK i ≤ 40 ∧ 1 ≤ sN i ∧ sN i ≤ 12 ∧ 1 ≤ sD i ∧ sD i ≤ 29 ∧ -7 ≤ sX i ∧ sX i ≤ 7 := by decide
def saU (x : Int) : Int := x - (x - 6) % 7
def sNear (i : Nat) (x : Int) : Int := if i = 0 then saF x else saU x
theorem sNear_range (i : Nat) (x : Int) : x - 6 ≤ sNear i x ∧ sNear i x ≤ x + 6 := by unfold sNear saF saU; split <;> omega
def sdy (y : Int) (i : Nat) : Int := sNear i (dyn y (sN i) (sD i)) + sX i
def sep (y : Int) (i : Nat) : List (Int × Int) := (List.range i).map fun i => (sK i, sdy y i)
theorem sep_snoc (y : Int) (i : Nat) : sep y (i + 1) = sep y i ++ [(sK i, sdy y i)] := by simp [sep, List.range_succ]
theorem sep_len (y : Int) (i : Nat) : (sep y i).length = i := by simp [sep]
theorem dyn_range {y n d : Int} (h0 : 1 ≤ y) (h1 : y ≤ 9999) (n0 : 1 ≤ n) (n1 : n ≤ 12) (d0 : 1 ≤ d) (d1 : d ≤ 29) : -1373427 ≤ dyn y n d ∧ dyn y n d ≤ 2278650 := hd_range (dyn_hv h0 h1 n0 n1 d0 d1)
end Go.Proofs.YtegkbjpcgelomaaGreatDoor.Math
end
