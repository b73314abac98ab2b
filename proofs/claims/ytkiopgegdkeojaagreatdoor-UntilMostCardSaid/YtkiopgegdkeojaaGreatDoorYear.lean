/- Walks of closed.Year and of its reference: the year of a day. -/
import Derived.Test.YtkiopgegdkeojaaGreatDoorClosed
set_option linter.unusedVariables false
set_option linter.unusedSimpArgs false
namespace Go.Proofs.YtkiopgegdkeojaaGreatDoor.Walks
open Go Go.RowKit Go.Sort Go.Proofs.YtkiopgegdkeojaaGreatDoor.Base Go.Proofs.YtkiopgegdkeojaaGreatDoor.Plain Go.Proofs.YtkiopgegdkeojaaGreatDoor.Math

theorem fy_le {Y : Int} {i : Nat} {n : Int} (y0 : 1 ≤ Y) (y1 : Y ≤ 9999) (h0 : fy Y ≤ n) (h1 : n < fy (Y + 1)) (hi : i < 10000) : decide (n < fyN ((i : Int) + 1)) = decide (Y.toNat ≤ i) := by
  rw [fyN_in (by omega) (by omega)]
  by_cases c : Y.toNat ≤ i
  · have := fy_mono (a := Y + 1) (b := (i : Int) + 1) (by omega) (by omega) (by omega)
    rw [decide_eq_true c, decide_eq_true (by omega)]
  · have := fy_mono (a := (i : Int) + 1) (b := Y) (by omega) (by omega) (by omega)
    rw [decide_eq_false c, decide_eq_false (by omega)]

set_option maxHeartbeats 1000000 in
theorem yearClo_c (b : Nat) (n : Int) (i : Nat) (W : World) (hb : b < W.heap.size) (hc : W.cell? ⟨b, 0, none⟩ = some (.int .i64 n)) (hi : i < 10000) :
    Calls Tryz.prog 96 (#[.int .i64 i] ++ #[.pointer (some ⟨b, 0, none⟩)]) W fun e w' => e = .returned (.bool (decide (n < fyN ((i : Int) + 1)))) ∧ Gr W w' := by
  have k0 := gcell_in hb hc
  have hi2 : (i : Int) < 10000 := by omega
  clear hb hc
  go_enter Tryz.func96, Tryz.ntmps96
  go_wp2
  (refine wp_region_quiet_grown mixed (by kernel_rfl) ?_; (repeat (first | go_big_quiet_step ((first | (go_at_call 97; exact gr_of (begins_c _ _)))) | quiet_step ((first | (go_at_call 97; exact gr_of (begins_c _ _)))))); refine wpQuiet_nil ?_; intro _ hw'; obtain ⟨⟨nq, osq⟩, hw''⟩ := hw'; subst hw'')
  go_wp2
  go_ret
  exact ⟨rfl, (by repeat (first | exact Gr.refl _ | refine Gr.setCell ?_ _ _ (by first | exact Nat.le_refl _ | (simp; omega) | (simp; done)) | refine Gr.grown ?_ _ _ | refine Gr.drewN ?_ _ | refine Gr.drew ?_ | refine Gr.alloc ?_ _ | refine Gr.grow ?_ _ | (refine Gr.trans ?_ (by assumption))))⟩
set_option maxHeartbeats 1000000 in
theorem year_c (n Y : Int) (w : World) (y0 : 1 ≤ Y) (y1 : Y ≤ 9999) (h0 : fy Y ≤ n) (h1 : n < fy (Y + 1)) :
    Calls Tryz.prog 78 #[.int .i64 n] w fun e w' => e = .returned (.tuple #[.int .i64 Y, .int .i64 0]) ∧ Gr w w' := by
  have n0 : -1373427 ≤ n := by have := fy_mono (a := 1) (b := Y) (by omega) (by omega) (by omega); have := fy_1; omega
  have n1 : n ≤ 2278650 := by have := fy_mono (a := Y + 1) (b := 10000) (by omega) (by omega) (by omega); have := lastD_is; unfold lastD at this; omega
  have eg : ∀ args w, (callFunc 96 args).run Tryz.prog w = .ok (.enter 96 args) w := enters_of Tryz.func96 (by kernel_rfl) rfl
  have EG := Lib.hid eg
  have H1 := Lib.hid (fun i => fy_le (i := i) y0 y1 h0 h1)
  have HY : RowKit.Hid (((Y.toNat : Nat) : Int) = Y) := Lib.hid (by omega)
  have HT : Y.toNat ≤ 10000 := by omega
  clear eg h0 h1
  go_enter Tryz.func78, Tryz.ntmps78
  go_wp2
  have k0 := gcell_in (w := w.alloc (.cells #[.int .i64 n] 3)) (b := w.heap.size) (o := 0) (v := .int .i64 n) (by simp) (by simp [go_sem])
  (refine wp_region_quiet_grown mixed (by kernel_rfl) ?_; (repeat (first | go_big_quiet_step ((first | (go_at_call 95; exact gr_of (last_c _)))) | quiet_step ((first | (go_at_call 95; exact gr_of (last_c _)))))); refine wpQuiet_nil ?_; intro _ hw'; obtain ⟨⟨nq, osq⟩, hw''⟩ := hw'; subst hw'')
  go_wp2_with fail
  refine (search_v 96 #[.pointer (some ⟨w.heap.size, 0, none⟩)] 10000 Y 10000 Y.toNat _ EG.out (by omega) HT rfl HY.out ?_).mono ?_
  · intro W i hW hi
    have hlt : w.heap.size < (grow ((w.alloc (.cells #[.int .i64 n] 3)).drewN nq) osq).heap.size := (Gr.refl _).grown nq osq |>.lt (by simp)
    have := yearClo_c w.heap.size n i W (hW.lt hlt) (hW.keep hlt (k0 nq osq)) hi
    rwa [H1.out i hi] at this
  · rintro e w1 ⟨rfl, hg⟩
    go_wp2
    go_ret2
    exact ⟨rfl, (by repeat (first | exact Gr.refl _ | refine Gr.setCell ?_ _ _ (by first | exact Nat.le_refl _ | (simp; omega) | (simp; done)) | refine Gr.grown ?_ _ _ | refine Gr.drewN ?_ _ | refine Gr.drew ?_ | refine Gr.alloc ?_ _ | refine Gr.grow ?_ _ | (refine Gr.trans ?_ (by assumption))))⟩
theorem year_out (n : Int) (w : World) (h : n < -1373427 ∨ 2278650 < n) :
    Calls Tryz.prog 78 #[.int .i64 n] w fun e w' => e = .returned (.tuple #[.int .i64 0, .int .i64 2]) ∧ Gr w w' := by
  have k0 := gcell_in (w := w.alloc (.cells #[.int .i64 n] 3)) (b := w.heap.size) (o := 0) (v := .int .i64 n) (by simp) (by simp [go_sem])
  by_cases g : n < -1373427
  · clear h
    go_enter Tryz.func78, Tryz.ntmps78
    go_wp2
    (refine wp_region_quiet_grown mixed (by kernel_rfl) ?_; (repeat (first | go_big_quiet_step ((first | (go_at_call 95; exact gr_of (last_c _)))) | quiet_step ((first | (go_at_call 95; exact gr_of (last_c _)))))); refine wpQuiet_nil ?_; intro _ hw'; obtain ⟨⟨nq, osq⟩, hw''⟩ := hw'; subst hw'')
    go_wp2
    go_ret2
    exact ⟨rfl, (by repeat (first | exact Gr.refl _ | refine Gr.setCell ?_ _ _ (by first | exact Nat.le_refl _ | (simp; omega) | (simp; done)) | refine Gr.grown ?_ _ _ | refine Gr.drewN ?_ _ | refine Gr.drew ?_ | refine Gr.alloc ?_ _ | refine Gr.grow ?_ _ | (refine Gr.trans ?_ (by assumption))))⟩
  · have g2 : 2278650 < n := by omega
    clear h
    go_enter Tryz.func78, Tryz.ntmps78
    go_wp2
    (refine wp_region_quiet_grown mixed (by kernel_rfl) ?_; (repeat (first | go_big_quiet_step ((first | (go_at_call 95; exact gr_of (last_c _)))) | quiet_step ((first | (go_at_call 95; exact gr_of (last_c _)))))); refine wpQuiet_nil ?_; intro _ hw'; obtain ⟨⟨nq, osq⟩, hw''⟩ := hw'; subst hw'')
    go_wp2
    go_ret2
    exact ⟨rfl, (by repeat (first | exact Gr.refl _ | refine Gr.setCell ?_ _ _ (by first | exact Nat.le_refl _ | (simp; omega) | (simp; done)) | refine Gr.grown ?_ _ _ | refine Gr.drewN ?_ _ | refine Gr.drew ?_ | refine Gr.alloc ?_ _ | refine Gr.grow ?_ _ | (refine Gr.trans ?_ (by assumption))))⟩

end Go.Proofs.YtkiopgegdkeojaaGreatDoor.Walks
