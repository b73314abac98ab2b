/- The walk of sort.Search, for a closure that draws and lays blocks: the first place at which it is true. -/
import Derived.Test.YtegkbjpcgelomaaGreatDoorZ14
import Derived.Shelf.SlSorted.Search
import Derived.StillTail
import Derived.WalkLawsBesides
import Derived.Laws.OwnMore
import Derived.Laws.AppendOwn
import Derived.Laws.MakeOwn
import Derived.Test.YtegkbjpcgelomaaGreatDoorZ13
set_option linter.unusedVariables false
set_option linter.unusedSimpArgs false
section
namespace Go.Proofs.YtegkbjpcgelomaaGreatDoor.Walks
open Go Go.RowKit Go.Sort Go.Proofs.YtegkbjpcgelomaaGreatDoor.Base Go.Proofs.YtegkbjpcgelomaaGreatDoor.Plain

set_option maxHeartbeats 4000000 in
set_option maxRecDepth 100000 in
theorem search_c (g : Nat) (cb : Array Value) (n K : Nat) (w : World) (eg : ∀ args w, (callFunc g args).run Tryq.prog w = .ok (.enter g args) w) (hn : n < 1000000000) (hK : K ≤ n)
    (hf : ∀ (W : World) (i : Nat), Gr w W → i < n → Calls Tryq.prog g (#[.int .i64 i] ++ cb) W fun e w' => e = .returned (.bool (decide (K ≤ i))) ∧ Gr W w') :
    Calls Tryq.prog 88 #[.int .i64 n, .func (.func g) #[] cb] w fun e w' => e = .returned (.int .i64 (K : Int)) ∧ Gr w w' := by
  have HF := Lib.hid hf
  clear hf
  go_enter Tryq.func88, Tryq.ntmps88
  go_wp2
  go_loopg [5, 6] n (fun kx s5 s6 wr => ∃ (lo hi : Nat), s5 = .int .i64 lo ∧ s6 = .int .i64 hi ∧ lo ≤ K ∧ K ≤ hi ∧ hi ≤ n ∧ hi - lo ≤ kx ∧ Gr w wr)
  case atStart => exact ⟨0, n, rfl, rfl, Nat.zero_le _, hK, Nat.le_refl _, by omega, Gr.refl _⟩
  case round =>
    obtain ⟨lo, hi, rfl, rfl, h1, h2, h3, h4, hg0⟩ := hrel
    by_cases hlt : lo < hi
    · have hc := HF.out _ ((lo + hi) / 2) hg0 (by omega)
      rw [show (((lo + hi) / 2 : Nat) : Int) = ((lo : Int) + (hi : Int)) / 2 by omega] at hc
      by_cases hp : K ≤ (lo + hi) / 2
      · rw [decide_eq_true hp] at hc
        have HC := Lib.hid hc
        clear hc
        go_wp2_with (go_at_fn g; refine HC.out.mono ?_; rintro e w1 ⟨rfl, hg1⟩)
        go_roundg ((lo + hi) / 2 - lo)
        case measure => omega
        case rel => exact ⟨lo, (lo + hi) / 2, rfl, by rw [show ((lo : Int) + (hi : Int)) / 2 = (((lo + hi) / 2 : Nat) : Int) by omega], h1, hp, by omega, Nat.le_refl _, hg0.trans hg1⟩
      · rw [decide_eq_false hp] at hc
        have HC := Lib.hid hc
        clear hc
        go_wp2_with (go_at_fn g; refine HC.out.mono ?_; rintro e w1 ⟨rfl, hg1⟩)
        go_roundg (hi - ((lo + hi) / 2 + 1))
        case measure => omega
        case rel => exact ⟨(lo + hi) / 2 + 1, hi, by rw [show ((lo : Int) + (hi : Int)) / 2 + 1 = (((lo + hi) / 2 + 1 : Nat) : Int) by omega], rfl, by omega, h2, h3, Nat.le_refl _, hg0.trans hg1⟩
    · obtain rfl : lo = K := by omega
      go_wp2
      go_ret
      exact ⟨rfl, hg0⟩
/-- The same, the numbers spelled as whole numbers. -/
theorem search_v (g : Nat) (cb : Array Value) (N R : Int) (n K : Nat) (w : World) (eg : ∀ args w, (callFunc g args).run Tryq.prog w = .ok (.enter g args) w) (hn : n < 1000000000) (hK : K ≤ n) (hN : (n : Int) = N) (hR : (K : Int) = R)
    (hf : ∀ (W : World) (i : Nat), Gr w W → i < n → Calls Tryq.prog g (#[.int .i64 i] ++ cb) W fun e w' => e = .returned (.bool (decide (K ≤ i))) ∧ Gr W w') :
    Calls Tryq.prog 88 #[.int .i64 N, .func (.func g) #[] cb] w fun e w' => e = .returned (.int .i64 R) ∧ Gr w w' := by
  subst hN hR; exact search_c g cb n K w eg hn hK hf

end Go.Proofs.YtegkbjpcgelomaaGreatDoor.Walks
end
/- Walks of package closed and of its reference. -/
section
namespace Go.Proofs.YtegkbjpcgelomaaGreatDoor.Walks
open Go Go.RowKit Go.Sort Go.Proofs.YtegkbjpcgelomaaGreatDoor.Base Go.Proofs.YtegkbjpcgelomaaGreatDoor.Plain Go.Proofs.YtegkbjpcgelomaaGreatDoor.Math

theorem frame_yn {y : Int} (h0 : -1 ≤ y) (h1 : y ≤ 10002) : -100 ≤ bf y ∧ bf y ≤ 130000 := by unfold bf; omega
theorem yn_lo {y : Int} (h : (3 * (ym y + 1)) % 7 < 3) : yn y = ym y + 1 := by unfold yn; rw [if_pos h]
theorem yn_hi {y : Int} (h : ¬ (3 * (ym y + 1)) % 7 < 3) : yn y = ym y := by unfold yn; rw [if_neg h]

theorem cdown_c (a b : Int) (w : World) (hb : 0 < b) (h0 : -9223372036854775808 ≤ a) (h1 : a ≤ 9223372036854775807) (hb1 : b ≤ 9223372036854775807) :
    Calls Tryq.prog 84 #[.int .i64 a, .int .i64 b] w fun e w' => e = .returned (.int .i64 (a / b)) ∧ Gr w w' := by
  go_enter Tryq.func84, Tryq.ntmps84
  go_wp2_with (go_at_call 73; (with_reducible refine (div_c a b _ hb h0 h1 hb1).mono ?_); rintro e w1 ⟨rfl, hg⟩)
  go_ret
  exact ⟨rfl, (by repeat (first | exact Gr.refl _ | refine Gr.setCell ?_ _ _ (by first | exact Nat.le_refl _ | (simp; omega) | (simp; done)) | refine Gr.grown ?_ _ _ | refine Gr.drewN ?_ _ | refine Gr.drew ?_ | refine Gr.alloc ?_ _ | refine Gr.grow ?_ _ | (refine Gr.trans ?_ (by assumption))))⟩
set_option maxHeartbeats 1000000 in
theorem nearly_c (y : Int) (w : World) (h0 : -1 ≤ y) (h1 : y ≤ 10002) : Calls Tryq.prog 42 #[.int .i64 y] w fun e w' => e = .returned (.int .i64 (yn y)) ∧ Gr w w' := by
  obtain ⟨m, hm⟩ : ∃ m, bf y = m := ⟨_, rfl⟩
  have r := frame_yn h0 h1
  rw [hm] at r
  have r0 := r.1
  have r1 := r.2
  have e0 : (235 * y - 234) / 19 = m := hm
  have ey : ym y = 29 * m + (12084 + 13753 * m) / 25920 := by unfold ym; rw [hm]
  by_cases h : (3 * (ym y + 1)) % 7 < 3
  · have E : RowKit.Hid (29 * m + (12084 + 13753 * m) / 25920 + 1 = yn y) := Lib.hid (by rw [yn_lo h, ey])
    rw [ey] at h
    clear hm ey r
    go_enter Tryq.func42, Tryq.ntmps42
    go_wp2_with (first | (go_at_call 84; (with_reducible refine (cdown_c _ 19 _ (by omega) (by omega) (by omega) (by omega)).mono ?_); rintro e w1 ⟨rfl, hg⟩) | (go_at_call 84; (with_reducible refine (cdown_c _ 25920 _ (by omega) (by omega) (by omega) (by omega)).mono ?_); rintro e w1 ⟨rfl, hg⟩) | (go_at_call 44; (with_reducible refine (mod_c _ 7 _ (by omega) (by omega) (by omega) (by omega)).mono ?_); rintro e w1 ⟨rfl, hg⟩))
    go_ret
    exact ⟨ret1 E.out, (by repeat (first | exact Gr.refl _ | refine Gr.setCell ?_ _ _ (by first | exact Nat.le_refl _ | (simp; omega) | (simp; done)) | refine Gr.grown ?_ _ _ | refine Gr.drewN ?_ _ | refine Gr.drew ?_ | refine Gr.alloc ?_ _ | refine Gr.grow ?_ _ | (refine Gr.trans ?_ (by assumption))))⟩
  · have E : RowKit.Hid (29 * m + (12084 + 13753 * m) / 25920 = yn y) := Lib.hid (by rw [yn_hi h, ey])
    rw [ey] at h
    clear hm ey r
    go_enter Tryq.func42, Tryq.ntmps42
    go_wp2_with (first | (go_at_call 84; (with_reducible refine (cdown_c _ 19 _ (by omega) (by omega) (by omega) (by omega)).mono ?_); rintro e w1 ⟨rfl, hg⟩) | (go_at_call 84; (with_reducible refine (cdown_c _ 25920 _ (by omega) (by omega) (by omega) (by omega)).mono ?_); rintro e w1 ⟨rfl, hg⟩) | (go_at_call 44; (with_reducible refine (mod_c _ 7 _ (by omega) (by omega) (by omega) (by omega)).mono ?_); rintro e w1 ⟨rfl, hg⟩))
    go_ret
    exact ⟨ret1 E.out, (by repeat (first | exact Gr.refl _ | refine Gr.setCell ?_ _ _ (by first | exact Nat.le_refl _ | (simp; omega) | (simp; done)) | refine Gr.grown ?_ _ _ | refine Gr.drewN ?_ _ | refine Gr.drew ?_ | refine Gr.alloc ?_ _ | refine Gr.grow ?_ _ | (refine Gr.trans ?_ (by assumption))))⟩
set_option maxHeartbeats 1000000 in
theorem cFirst_c (y : Int) (w : World) : Calls Tryq.prog 16 #[.int .i64 y] w fun e w' => e = .returned (.tuple #[.int .i64 (fyN y), .int .i64 (yE y)]) ∧ Gr w w' := by
  by_cases h : 0 ≤ y ∧ y ≤ 10001
  · obtain ⟨h0, h1⟩ := h
    rw [fyN_in h0 h1, yE_in h0 h1, ← cf_fy h0 h1]
    obtain ⟨a, ha⟩ : ∃ a, yn (y - 1) = a := ⟨_, rfl⟩
    obtain ⟨b, hb⟩ : ∃ a, yn y = a := ⟨_, rfl⟩
    obtain ⟨c, hc⟩ : ∃ a, yn (y + 1) = a := ⟨_, rfl⟩
    have ra := yn_range (y := y - 1) (by omega) (by omega)
    have rb := yn_range (y := y) (by omega) (by omega)
    have rc := yn_range (y := y + 1) (by omega) (by omega)
    rw [ha] at ra; rw [hb] at rb; rw [hc] at rc
    obtain ⟨ra0, ra1⟩ := ra
    obtain ⟨rb0, rb1⟩ := rb
    obtain ⟨rc0, rc1⟩ := rc
    by_cases g : c - b = 356
    · have gb : (c - b == 356) = true := beq_iff_eq.2 g
      have E : RowKit.Hid (b + 2 + -1373427 = cf y) := Lib.hid (by unfold cf; rw [hb, hc, if_pos g]; omega)
      clear g
      go_enter Tryq.func16, Tryq.ntmps16
      go_wp2_with (first | (go_at_call 42; (with_reducible refine (nearly_c y _ (by omega) (by omega)).mono ?_); rintro e w1 ⟨rfl, hg⟩) | (go_at_call 42; (with_reducible refine (nearly_c (y + 1) _ (by omega) (by omega)).mono ?_); rintro e w1 ⟨rfl, hg⟩))
      go_ret2
      exact ⟨ret2 E.out rfl, (by repeat (first | exact Gr.refl _ | refine Gr.setCell ?_ _ _ (by first | exact Nat.le_refl _ | (simp; omega) | (simp; done)) | refine Gr.grown ?_ _ _ | refine Gr.drewN ?_ _ | refine Gr.drew ?_ | refine Gr.alloc ?_ _ | refine Gr.grow ?_ _ | (refine Gr.trans ?_ (by assumption))))⟩
    · have gb : (c - b == 356) = false := beq_eq_false_iff_ne.2 g
      by_cases k : b - a = 382
      · have kb : (b - a == 382) = true := beq_iff_eq.2 k
        have E : RowKit.Hid (b + 1 + -1373427 = cf y) := Lib.hid (by unfold cf; rw [hb, hc, ha, if_neg g, if_pos k]; omega)
        clear g k
        go_enter Tryq.func16, Tryq.ntmps16
        go_wp2_with (first | (go_at_call 42; (with_reducible refine (nearly_c y _ (by omega) (by omega)).mono ?_); rintro e w1 ⟨rfl, hg⟩) | (go_at_call 42; (with_reducible refine (nearly_c (y + 1) _ (by omega) (by omega)).mono ?_); rintro e w1 ⟨rfl, hg⟩) | (go_at_call 42; (with_reducible refine (nearly_c (y - 1) _ (by omega) (by omega)).mono ?_); rintro e w1 ⟨rfl, hg⟩))
        go_ret2
        exact ⟨ret2 E.out rfl, (by repeat (first | exact Gr.refl _ | refine Gr.setCell ?_ _ _ (by first | exact Nat.le_refl _ | (simp; omega) | (simp; done)) | refine Gr.grown ?_ _ _ | refine Gr.drewN ?_ _ | refine Gr.drew ?_ | refine Gr.alloc ?_ _ | refine Gr.grow ?_ _ | (refine Gr.trans ?_ (by assumption))))⟩
      · have kb : (b - a == 382) = false := beq_eq_false_iff_ne.2 k
        have E : RowKit.Hid (b + -1373427 = cf y) := Lib.hid (by unfold cf; rw [hb, hc, ha, if_neg g, if_neg k]; omega)
        clear g k
        go_enter Tryq.func16, Tryq.ntmps16
        go_wp2_with (first | (go_at_call 42; (with_reducible refine (nearly_c y _ (by omega) (by omega)).mono ?_); rintro e w1 ⟨rfl, hg⟩) | (go_at_call 42; (with_reducible refine (nearly_c (y + 1) _ (by omega) (by omega)).mono ?_); rintro e w1 ⟨rfl, hg⟩) | (go_at_call 42; (with_reducible refine (nearly_c (y - 1) _ (by omega) (by omega)).mono ?_); rintro e w1 ⟨rfl, hg⟩))
        go_ret2
        exact ⟨ret2 E.out rfl, (by repeat (first | exact Gr.refl _ | refine Gr.setCell ?_ _ _ (by first | exact Nat.le_refl _ | (simp; omega) | (simp; done)) | refine Gr.grown ?_ _ _ | refine Gr.drewN ?_ _ | refine Gr.drew ?_ | refine Gr.alloc ?_ _ | refine Gr.grow ?_ _ | (refine Gr.trans ?_ (by assumption))))⟩
  · have h' : y < 0 ∨ 10001 < y := by omega
    rw [fyN_out h', yE_out h']
    by_cases g : y < 0
    · clear h h'
      go_enter Tryq.func16, Tryq.ntmps16
      go_wp2
      go_ret2
      exact ⟨rfl, (by repeat (first | exact Gr.refl _ | refine Gr.setCell ?_ _ _ (by first | exact Nat.le_refl _ | (simp; omega) | (simp; done)) | refine Gr.grown ?_ _ _ | refine Gr.drewN ?_ _ | refine Gr.drew ?_ | refine Gr.alloc ?_ _ | refine Gr.grow ?_ _ | (refine Gr.trans ?_ (by assumption))))⟩
    · have g2 : 10001 < y := by omega
      clear h h'
      go_enter Tryq.func16, Tryq.ntmps16
      go_wp2
      go_ret2
      exact ⟨rfl, (by repeat (first | exact Gr.refl _ | refine Gr.setCell ?_ _ _ (by first | exact Nat.le_refl _ | (simp; omega) | (simp; done)) | refine Gr.grown ?_ _ _ | refine Gr.drewN ?_ _ | refine Gr.drew ?_ | refine Gr.alloc ?_ _ | refine Gr.grow ?_ _ | (refine Gr.trans ?_ (by assumption))))⟩

/-! ### years of days -/
theorem begins_c (y : Int) (w : World) : Calls Tryq.prog 90 #[.int .i64 y] w fun e w' => e = .returned (.int .i64 (fyN y)) ∧ Gr w w' := by
  go_enter Tryq.func90, Tryq.ntmps90
  go_wp2_with (go_at_call 15; (with_reducible refine (first_c y _).mono ?_); rintro e w1 ⟨rfl, hg⟩)
  go_ret
  exact ⟨rfl, (by repeat (first | exact Gr.refl _ | refine Gr.setCell ?_ _ _ (by first | exact Nat.le_refl _ | (simp; omega) | (simp; done)) | refine Gr.grown ?_ _ _ | refine Gr.drewN ?_ _ | refine Gr.drew ?_ | refine Gr.alloc ?_ _ | refine Gr.grow ?_ _ | (refine Gr.trans ?_ (by assumption))))⟩
theorem last_c (w : World) : Calls Tryq.prog 87 #[] w fun e w' => e = .returned (.int .i64 2278650) ∧ Gr w w' := by
  have E : RowKit.Hid (fyN 10000 = 2278651) := Lib.hid (by rw [fyN_in (by omega) (by omega)]; have := lastD_is; unfold lastD at this; omega)
  go_enter Tryq.func87, Tryq.ntmps87
  go_wp2_with (go_at_call 90; (with_reducible refine (begins_c 10000 _).mono ?_); rintro e w1 ⟨rfl, hg⟩; rw [E.out])
  go_ret
  exact ⟨rfl, (by repeat (first | exact Gr.refl _ | refine Gr.setCell ?_ _ _ (by first | exact Nat.le_refl _ | (simp; omega) | (simp; done)) | refine Gr.grown ?_ _ _ | refine Gr.drewN ?_ _ | refine Gr.drew ?_ | refine Gr.alloc ?_ _ | refine Gr.grow ?_ _ | (refine Gr.trans ?_ (by assumption))))⟩

end Go.Proofs.YtegkbjpcgelomaaGreatDoor.Walks
end
/- Walks of closed.Year and of its reference: the year of a day. -/
section
namespace Go.Proofs.YtegkbjpcgelomaaGreatDoor.Walks
open Go Go.RowKit Go.Sort Go.Proofs.YtegkbjpcgelomaaGreatDoor.Base Go.Proofs.YtegkbjpcgelomaaGreatDoor.Plain Go.Proofs.YtegkbjpcgelomaaGreatDoor.Math

theorem fy_le {Y : Int} {i : Nat} {n : Int} (y0 : 1 ≤ Y) (y1 : Y ≤ 9999) (h0 : fy Y ≤ n) (h1 : n < fy (Y + 1)) (hi : i < 10000) : decide (n < fyN ((i : Int) + 1)) = decide (Y.toNat ≤ i) := by
  rw [fyN_in (by omega) (by omega)]
  by_cases c : Y.toNat ≤ i
  · have := fy_mono (a := Y + 1) (b := (i : Int) + 1) (by omega) (by omega) (by omega)
    rw [decide_eq_true c, decide_eq_true (by omega)]
  · have := fy_mono (a := (i : Int) + 1) (b := Y) (by omega) (by omega) (by omega)
    rw [decide_eq_false c, decide_eq_false (by omega)]

set_option maxHeartbeats 1000000 in
theorem yearClo_c (b : Nat) (n : Int) (i : Nat) (W : World) (hb : b < W.heap.size) (hc : W.cell? ⟨b, 0, none⟩ = some (.int .i64 n)) (hi : i < 10000) :
    Calls Tryq.prog 89 (#[.int .i64 i] ++ #[.pointer (some ⟨b, 0, none⟩)]) W fun e w' => e = .returned (.bool (decide (n < fyN ((i : Int) + 1)))) ∧ Gr W w' := by
  have k0 := gcell_in hb hc
  have hi2 : (i : Int) < 10000 := by omega
  clear hb hc
  go_enter Tryq.func89, Tryq.ntmps89
  go_wp2
  (refine wp_region_quiet_grown mixed (by kernel_rfl) ?_; (repeat (first | go_big_quiet_step ((first | (go_at_call 90; exact gr_of (begins_c _ _)))) | quiet_step ((first | (go_at_call 90; exact gr_of (begins_c _ _)))))); refine wpQuiet_nil ?_; intro _ hw'; obtain ⟨⟨nq, osq⟩, hw''⟩ := hw'; subst hw'')
  go_wp2
  go_ret
  exact ⟨rfl, (by repeat (first | exact Gr.refl _ | refine Gr.setCell ?_ _ _ (by first | exact Nat.le_refl _ | (simp; omega) | (simp; done)) | refine Gr.grown ?_ _ _ | refine Gr.drewN ?_ _ | refine Gr.drew ?_ | refine Gr.alloc ?_ _ | refine Gr.grow ?_ _ | (refine Gr.trans ?_ (by assumption))))⟩
set_option maxHeartbeats 1000000 in
theorem year_c (n Y : Int) (w : World) (y0 : 1 ≤ Y) (y1 : Y ≤ 9999) (h0 : fy Y ≤ n) (h1 : n < fy (Y + 1)) :
    Calls Tryq.prog 48 #[.int .i64 n] w fun e w' => e = .returned (.tuple #[.int .i64 Y, .int .i64 0]) ∧ Gr w w' := by
  have n0 : -1373427 ≤ n := by have := fy_mono (a := 1) (b := Y) (by omega) (by omega) (by omega); have := fy_1; omega
  have n1 : n ≤ 2278650 := by have := fy_mono (a := Y + 1) (b := 10000) (by omega) (by omega) (by omega); have := lastD_is; unfold lastD at this; omega
  have eg : ∀ args w, (callFunc 89 args).run Tryq.prog w = .ok (.enter 89 args) w := enters_of Tryq.func89 (by kernel_rfl) rfl
  have EG := Lib.hid eg
  have H1 := Lib.hid (fun i => fy_le (i := i) y0 y1 h0 h1)
  have HY : RowKit.Hid (((Y.toNat : Nat) : Int) = Y) := Lib.hid (by omega)
  have HT : Y.toNat ≤ 10000 := by omega
  clear eg h0 h1
  go_enter Tryq.func48, Tryq.ntmps48
  go_wp2
  have k0 := gcell_in (w := w.alloc (.cells #[.int .i64 n] 3)) (b := w.heap.size) (o := 0) (v := .int .i64 n) (by simp) (by simp [go_sem])
  (refine wp_region_quiet_grown mixed (by kernel_rfl) ?_; (repeat (first | go_big_quiet_step ((first | (go_at_call 87; exact gr_of (last_c _)))) | quiet_step ((first | (go_at_call 87; exact gr_of (last_c _)))))); refine wpQuiet_nil ?_; intro _ hw'; obtain ⟨⟨nq, osq⟩, hw''⟩ := hw'; subst hw'')
  go_wp2_with fail
  refine (search_v 89 #[.pointer (some ⟨w.heap.size, 0, none⟩)] 10000 Y 10000 Y.toNat _ EG.out (by omega) HT rfl HY.out ?_).mono ?_
  · intro W i hW hi
    have hlt : w.heap.size < (grow ((w.alloc (.cells #[.int .i64 n] 3)).drewN nq) osq).heap.size := (Gr.refl _).grown nq osq |>.lt (by simp)
    have := yearClo_c w.heap.size n i W (hW.lt hlt) (hW.keep hlt (k0 nq osq)) hi
    rwa [H1.out i hi] at this
  · rintro e w1 ⟨rfl, hg⟩
    go_wp2
    go_ret2
    exact ⟨rfl, (by repeat (first | exact Gr.refl _ | refine Gr.setCell ?_ _ _ (by first | exact Nat.le_refl _ | (simp; omega) | (simp; done)) | refine Gr.grown ?_ _ _ | refine Gr.drewN ?_ _ | refine Gr.drew ?_ | refine Gr.alloc ?_ _ | refine Gr.grow ?_ _ | (refine Gr.trans ?_ (by assumption))))⟩
theorem year_out (n : Int) (w : World) (h : n < -1373427 ∨ 2278650 < n) :
    Calls Tryq.prog 48 #[.int .i64 n] w fun e w' => e = .returned (.tuple #[.int .i64 0, .int .i64 2]) ∧ Gr w w' := by
  have k0 := gcell_in (w := w.alloc (.cells #[.int .i64 n] 3)) (b := w.heap.size) (o := 0) (v := .int .i64 n) (by simp) (by simp [go_sem])
  by_cases g : n < -1373427
  · clear h
    go_enter Tryq.func48, Tryq.ntmps48
    go_wp2
    (refine wp_region_quiet_grown mixed (by kernel_rfl) ?_; (repeat (first | go_big_quiet_step ((first | (go_at_call 87; exact gr_of (last_c _)))) | quiet_step ((first | (go_at_call 87; exact gr_of (last_c _)))))); refine wpQuiet_nil ?_; intro _ hw'; obtain ⟨⟨nq, osq⟩, hw''⟩ := hw'; subst hw'')
    go_wp2
    go_ret2
    exact ⟨rfl, (by repeat (first | exact Gr.refl _ | refine Gr.setCell ?_ _ _ (by first | exact Nat.le_refl _ | (simp; omega) | (simp; done)) | refine Gr.grown ?_ _ _ | refine Gr.drewN ?_ _ | refine Gr.drew ?_ | refine Gr.alloc ?_ _ | refine Gr.grow ?_ _ | (refine Gr.trans ?_ (by assumption))))⟩
  · have g2 : 2278650 < n := by omega
    clear h
    go_enter Tryq.func48, Tryq.ntmps48
    go_wp2
    (refine wp_region_quiet_grown mixed (by kernel_rfl) ?_; (repeat (first | go_big_quiet_step ((first | (go_at_call 87; exact gr_of (last_c _)))) | quiet_step ((first | (go_at_call 87; exact gr_of (last_c _)))))); refine wpQuiet_nil ?_; intro _ hw'; obtain ⟨⟨nq, osq⟩, hw''⟩ := hw'; subst hw'')
    go_wp2
    go_ret2
    exact ⟨rfl, (by repeat (first | exact Gr.refl _ | refine Gr.setCell ?_ _ _ (by first | exact Nat.le_refl _ | (simp; omega) | (simp; done)) | refine Gr.grown ?_ _ _ | refine Gr.drewN ?_ _ | refine Gr.drew ?_ | refine Gr.alloc ?_ _ | refine Gr.grow ?_ _ | (refine Gr.trans ?_ (by assumption))))⟩

end Go.Proofs.YtegkbjpcgelomaaGreatDoor.Walks
end
/- Walks of package keviah and of its reference: how long a year is, and its type. -/
section
namespace Go.Proofs.YtegkbjpcgelomaaGreatDoor.Walks
open Go Go.RowKit Go.Sort Go.Proofs.YtegkbjpcgelomaaGreatDoor.Base Go.Proofs.YtegkbjpcgelomaaGreatDoor.Plain Go.Proofs.YtegkbjpcgelomaaGreatDoor.Math

/-- How long a year is. -/
def kln (y : Int) : Int := fy (y + 1) - fy y
theorem kln_range {y : Int} (h0 : 1 ≤ y) (h1 : y ≤ 9999) : 353 ≤ kln y ∧ kln y ≤ 385 := by
  have := fy_step (y := y) (by omega) (by omega)
  unfold kln
  omega

set_option maxHeartbeats 1000000 in
theorem klong_in (y : Int) (w : World) (h0 : 1 ≤ y) (h1 : y ≤ 9999) : Calls Tryq.prog 17 #[.int .i64 y] w fun e w' => e = .returned (.tuple #[.int .i64 (kln y), .int .i64 0]) ∧ Gr w w' := by
  obtain ⟨A, hA⟩ : ∃ A, fy y = A := ⟨_, rfl⟩
  obtain ⟨B, hB⟩ : ∃ B, fy (y + 1) = B := ⟨_, rfl⟩
  have HK : RowKit.Hid (B - A = kln y) := Lib.hid (by unfold kln; rw [hA, hB])
  have rA := fy_range (y := y) (by omega) (by omega)
  have rB := fy_range (y := y + 1) (by omega) (by omega)
  rw [hA] at rA
  rw [hB] at rB
  obtain ⟨a0, a1⟩ := rA
  obtain ⟨b0, b1⟩ := rB
  have C1 : RowKit.Hid (∀ w, Calls Tryq.prog 15 #[.int .i64 y] w fun e w' => e = .returned (.tuple #[.int .i64 A, .int .i64 0]) ∧ Gr w w') := Lib.hid fun w => by
    have := first_in y w (by omega) (by omega); rwa [hA] at this
  have C2 : RowKit.Hid (∀ w, Calls Tryq.prog 15 #[.int .i64 (y + 1)] w fun e w' => e = .returned (.tuple #[.int .i64 B, .int .i64 0]) ∧ Gr w w') := Lib.hid fun w => by
    have := first_in (y + 1) w (by omega) (by omega); rwa [hB] at this
  clear hA hB
  go_enter Tryq.func17, Tryq.ntmps17
  go_wp2_with (first | (go_at_call 15; (with_reducible refine (C1.out _).mono ?_); rintro e wA ⟨rfl, hgwA⟩) | (go_at_call 15; (with_reducible refine (C2.out _).mono ?_); rintro e wB ⟨rfl, hgwB⟩))
  go_ret2
  exact ⟨ret2 HK.out rfl, (by repeat (first | exact Gr.refl _ | refine Gr.setCell ?_ _ _ (by first | exact Nat.le_refl _ | (simp; omega) | (simp; done)) | refine Gr.grown ?_ _ _ | refine Gr.drewN ?_ _ | refine Gr.drew ?_ | refine Gr.alloc ?_ _ | refine Gr.grow ?_ _ | (refine Gr.trans ?_ (by assumption))))⟩
theorem klong_out (y : Int) (w : World) (h : y < 1 ∨ 9999 < y) : Calls Tryq.prog 17 #[.int .i64 y] w fun e w' => e = .returned (.tuple #[.int .i64 0, .int .i64 2]) ∧ Gr w w' := by
  by_cases g : y < 1
  · clear h
    go_enter Tryq.func17, Tryq.ntmps17
    go_wp2
    go_ret2
    exact ⟨rfl, (by repeat (first | exact Gr.refl _ | refine Gr.setCell ?_ _ _ (by first | exact Nat.le_refl _ | (simp; omega) | (simp; done)) | refine Gr.grown ?_ _ _ | refine Gr.drewN ?_ _ | refine Gr.drew ?_ | refine Gr.alloc ?_ _ | refine Gr.grow ?_ _ | (refine Gr.trans ?_ (by assumption))))⟩
  · have g2 : 9999 < y := by omega
    clear h
    go_enter Tryq.func17, Tryq.ntmps17
    go_wp2
    go_ret2
    exact ⟨rfl, (by repeat (first | exact Gr.refl _ | refine Gr.setCell ?_ _ _ (by first | exact Nat.le_refl _ | (simp; omega) | (simp; done)) | refine Gr.grown ?_ _ _ | refine Gr.drewN ?_ _ | refine Gr.drew ?_ | refine Gr.alloc ?_ _ | refine Gr.grow ?_ _ | (refine Gr.trans ?_ (by assumption))))⟩

/-- A year's type: its weekday, its kind, and whether it is a leap year. -/
def kb (y : Int) : Int := fy y % 7
def kk (y : Int) : Int := (kln y - 353) % 30

set_option maxHeartbeats 1000000 in
theorem kof_in (y : Int) (w : World) (h0 : 1 ≤ y) (h1 : y ≤ 9999) : Calls Tryq.prog 14 #[.int .i64 y] w fun e w' => e = .returned (.tuple #[.agg #[.int .i64 (kb y), .int .i64 (kk y), .bool (lp y)], .int .i64 0]) ∧ Gr w w' := by
  obtain ⟨L, hL⟩ : ∃ L, kln y = L := ⟨_, rfl⟩
  obtain ⟨A, hA⟩ : ∃ A, fy y = A := ⟨_, rfl⟩
  have rL := kln_range h0 h1
  rw [hL] at rL
  obtain ⟨l0, l1⟩ := rL
  have rA := fy_range (y := y) (by omega) (by omega)
  rw [hA] at rA
  obtain ⟨a0, a1⟩ := rA
  have K1 : RowKit.Hid (A % 7 = kb y) := Lib.hid (by unfold kb; rw [hA])
  have K2 : RowKit.Hid ((L - 353) % 30 = kk y) := Lib.hid (by unfold kk; rw [hL])
  have C0 : RowKit.Hid (∀ w, Calls Tryq.prog 17 #[.int .i64 y] w fun e w' => e = .returned (.tuple #[.int .i64 L, .int .i64 0]) ∧ Gr w w') := Lib.hid fun w => by
    have := klong_in y w h0 h1; rwa [hL] at this
  have C1 : RowKit.Hid (∀ w, Calls Tryq.prog 15 #[.int .i64 y] w fun e w' => e = .returned (.tuple #[.int .i64 A, .int .i64 0]) ∧ Gr w w') := Lib.hid fun w => by
    have := first_in y w (by omega) (by omega); rwa [hA] at this
  have C2 : RowKit.Hid (∀ w, Calls Tryq.prog 18 #[.int .i64 y] w fun e w' => e = .returned (.tuple #[.bool (lp y), .int .i64 0]) ∧ Gr w w') := Lib.hid fun w => leap_in y w (by omega) (by omega)
  clear hL hA
  go_enter Tryq.func14, Tryq.ntmps14
  go_wp2_with (first | (go_at_call 17; (with_reducible refine (C0.out _).mono ?_); rintro e wA ⟨rfl, hgwA⟩; obtain ⟨hclwA, hfzwA, hszwA⟩ := gcell hgwA; (try simp [Nat.add_one_le_iff] at hszwA); have hlwA_w : w.heap.size < wA.heap.size := (by omega)) | (go_at_call 15; (with_reducible refine (C1.out _).mono ?_); rintro e wB ⟨rfl, hgwB⟩; obtain ⟨hclwB, hfzwB, hszwB⟩ := gcell hgwB; (try simp [Nat.add_one_le_iff] at hszwB); have hlwB_w : w.heap.size < wB.heap.size := (by omega)) | (go_at_call 18; (with_reducible refine (C2.out _).mono ?_); rintro e wC ⟨rfl, hgwC⟩; obtain ⟨hclwC, hfzwC, hszwC⟩ := gcell hgwC; (try simp [Nat.add_one_le_iff] at hszwC); have hlwC_w : w.heap.size < wC.heap.size := (by omega)) | (go_at_call 19; (with_reducible refine (wd_c A _ (by omega) (by omega)).mono ?_); rintro e wD ⟨rfl, hgwD⟩; obtain ⟨hclwD, hfzwD, hszwD⟩ := gcell hgwD; (try simp [Nat.add_one_le_iff] at hszwD); have hlwD_w : w.heap.size < wD.heap.size := (by omega)))
  exact bodyPost_ret (v := .tuple #[.agg #[.int .i64 (A % 7), .int .i64 ((L - 353) % 30), .bool (lp y)], .int .i64 0]) (by simp [results, Tryz.results14, go_sem, *]) rfl ⟨by rw [K1.out, K2.out], (by repeat (first | exact Gr.refl _ | refine Gr.setCell ?_ _ _ (by first | exact Nat.le_refl _ | (simp; omega) | (simp; done)) | refine Gr.grown ?_ _ _ | refine Gr.drewN ?_ _ | refine Gr.drew ?_ | refine Gr.alloc ?_ _ | refine Gr.grow ?_ _ | (refine Gr.trans ?_ (by assumption))))⟩
theorem kof_out (y : Int) (w : World) (h : y < 1 ∨ 9999 < y) : Calls Tryq.prog 14 #[.int .i64 y] w fun e w' => e = .returned (.tuple #[.agg #[.int .i64 0, .int .i64 0, .bool false], .int .i64 2]) ∧ Gr w w' := by
  have C0 := Lib.hid fun w => klong_out y w h
  clear h
  go_enter Tryq.func14, Tryq.ntmps14
  go_wp2_with (first | (go_at_call 17; (with_reducible refine (C0.out _).mono ?_); rintro e wA ⟨rfl, hgwA⟩; obtain ⟨hclwA, hfzwA, hszwA⟩ := gcell hgwA; (try simp [Nat.add_one_le_iff] at hszwA); have hlwA_w : w.heap.size < wA.heap.size := (by omega)))
  exact bodyPost_ret (v := .tuple #[.agg #[.int .i64 0, .int .i64 0, .bool false], .int .i64 2]) (by simp [results, Tryz.results14, go_sem, *]) rfl ⟨rfl, (by repeat (first | exact Gr.refl _ | refine Gr.setCell ?_ _ _ (by first | exact Nat.le_refl _ | (simp; omega) | (simp; done)) | refine Gr.grown ?_ _ _ | refine Gr.drewN ?_ _ | refine Gr.drew ?_ | refine Gr.alloc ?_ _ | refine Gr.grow ?_ _ | (refine Gr.trans ?_ (by assumption))))⟩

end Go.Proofs.YtegkbjpcgelomaaGreatDoor.Walks
end
/- Walks of package keviah and of its reference: the reference's years; types and their numbers. -/
section
namespace Go.Proofs.YtegkbjpcgelomaaGreatDoor.Walks
open Go Go.RowKit Go.Sort Go.Proofs.YtegkbjpcgelomaaGreatDoor.Base Go.Proofs.YtegkbjpcgelomaaGreatDoor.Plain Go.Proofs.YtegkbjpcgelomaaGreatDoor.Math

theorem kk_leap {y : Int} (h0 : 1 ≤ y) (h1 : y ≤ 9999) : kk y = (if lp y = true then kln y - 383 else kln y - 353) ∧ 0 ≤ kk y ∧ kk y ≤ 2 := by
  have h := year_facts y.toNat (by omega)
  rw [show ((y.toNat : Nat) : Int) = y from by omega] at h
  obtain ⟨a, b, -⟩ := h
  unfold kk kln
  cases hl : lp y
  · simp only [hl, Bool.false_eq_true, if_false] at a b ⊢; omega
  · simp only [hl, if_true] at a b ⊢; omega

end Go.Proofs.YtegkbjpcgelomaaGreatDoor.Walks
end
/- Walks of keviah.Type and Number over the laid table of types. -/
section
namespace Go.Proofs.YtegkbjpcgelomaaGreatDoor.Walks
open Go Go.RowKit Go.Sort Go.Proofs.YtegkbjpcgelomaaGreatDoor.Base Go.Proofs.YtegkbjpcgelomaaGreatDoor.Plain Go.Proofs.YtegkbjpcgelomaaGreatDoor.Math

/-- The fourteen types: weekday, kind, leap year. -/
def kB (k : Nat) : Int := ([1, 1, 2, 4, 4, 6, 6, 1, 1, 2, 4, 4, 6, 6] : List Int).getD k 0
def kK (k : Nat) : Int := ([0, 2, 1, 1, 2, 0, 2, 0, 2, 1, 0, 2, 0, 2] : List Int).getD k 0
def kL (k : Nat) : Bool := decide (7 ≤ k)
/-- The variable holds the table. -/
structure TT (w : World) : Prop where
  b : ∀ k, k < 14 → w.cell? ⟨0, k * 3, none⟩ = some (.int .i64 (kB k))
  k : ∀ k, k < 14 → w.cell? ⟨0, k * 3 + 1, none⟩ = some (.int .i64 (kK k))
  l : ∀ k, k < 14 → w.cell? ⟨0, k * 3 + 2, none⟩ = some (.bool (kL k))
theorem TT.lt {w : World} (h : TT w) : 0 < w.heap.size := World.block_lt_of_cell? w _ (h.b 0 (by omega))
theorem TT.gr {w w' : World} (h : TT w) (g : Gr w w') : TT w' := ⟨fun k hk => g.keep h.lt (h.b k hk), fun k hk => g.keep h.lt (h.k k hk), fun k hk => g.keep h.lt (h.l k hk)⟩

set_option maxHeartbeats 1000000 in
theorem ktype_in (k : Nat) (w : World) (hk : k < 14) (T : TT w) : Calls Tryq.prog 12 #[.int .i64 ((k : Int) + 1)] w fun e w' => e = .returned (.tuple #[.agg #[.int .i64 (kB k), .int .i64 (kK k), .bool (kL k)], .bool true]) ∧ Gr w w' := by
  have t0 := T.b k hk
  have t1 := T.k k hk
  have t2 := T.l k hk
  have lt := T.lt
  clear T
  go_enter Tryq.func12, Tryq.ntmps12
  go_wp2
  exact bodyPost_ret (v := .tuple #[.agg #[.int .i64 (kB k), .int .i64 (kK k), .bool (kL k)], .bool true]) (by simp [results, Tryz.results12, go_sem, *]) rfl ⟨rfl, (by repeat (first | exact Gr.refl _ | refine Gr.setCell ?_ _ _ (by first | exact Nat.le_refl _ | (simp; omega) | (simp; done)) | refine Gr.grown ?_ _ _ | refine Gr.drewN ?_ _ | refine Gr.drew ?_ | refine Gr.alloc ?_ _ | refine Gr.grow ?_ _ | (refine Gr.trans ?_ (by assumption))))⟩

/-- Is it the type with that number (from 0 on)? -/
def kmt (b k : Int) (l : Bool) (j : Nat) : Bool := decide (b = kB j ∧ k = kK j ∧ l = kL j)
/-- The first of the fourteen that it is; 14: none. -/
def kix (b k : Int) (l : Bool) : Nat := (List.range 14).findIdx (kmt b k l)
theorem kix_le (b k : Int) (l : Bool) : kix b k l ≤ 14 := by
  have := List.findIdx_le_length (p := kmt b k l) (xs := List.range 14)
  simpa [kix] using this
theorem kix_at {b k : Int} {l : Bool} (h : kix b k l < 14) : b = kB (kix b k l) ∧ k = kK (kix b k l) ∧ l = kL (kix b k l) := by
  have := List.findIdx_getElem (p := kmt b k l) (xs := List.range 14) (w := by simpa [kix] using h)
  rw [List.getElem_range] at this
  exact of_decide_eq_true this
theorem kix_no {b k : Int} {l : Bool} {j : Nat} (h : j < kix b k l) : ¬ (b = kB j ∧ k = kK j ∧ l = kL j) := by
  have := List.not_of_lt_findIdx (p := kmt b k l) (xs := List.range 14) h
  rw [List.getElem_range] at this
  have h2 : kmt b k l j = false := by simpa using this
  exact of_decide_eq_false h2
def kixI (b k : Int) (l : Bool) : Int := if kix b k l < 14 then (kix b k l : Int) else -1
/-- A type's number. -/
def knum (b k : Int) (l : Bool) : Int := if kix b k l < 14 then (kix b k l : Int) + 1 else 0

set_option maxHeartbeats 4000000 in
theorem kindex_c (b kd : Int) (l : Bool) (w : World) (T : TT w) : Calls Tryq.prog 45 #[.slice (some ⟨0, 0, none⟩) 14 14, .agg #[.int .i64 b, .int .i64 kd, .bool l]] w fun e w' => e = .returned (.int .i64 (kixI b kd l)) ∧ Gr w w' := by
  obtain ⟨N, hN⟩ : ∃ N, kix b kd l = N := ⟨_, rfl⟩
  have n1 := kix_le b kd l
  have HA := Lib.hid (fun h => @kix_at b kd l h)
  have HO := Lib.hid (fun j h => @kix_no b kd l j h)
  rw [hN] at n1 HA HO
  have E1 : RowKit.Hid (N < 14 → (N : Int) = kixI b kd l) := Lib.hid fun h => by unfold kixI; rw [hN, if_pos h]
  have E2 : RowKit.Hid (N = 14 → (-1 : Int) = kixI b kd l) := Lib.hid fun h => by unfold kixI; rw [hN, if_neg (by omega)]
  have TT0 := Lib.hid T
  have lt0 := T.lt
  obtain ⟨R, hR⟩ : ∃ R, kixI b kd l = R := ⟨_, rfl⟩
  rw [hR] at E1 E2 ⊢
  clear hN hR T
  go_enter Tryq.func45, Tryq.ntmps45
  go_wp2
  go_loopg [8] N (fun kx s8 wr => ∃ k : Nat, k ≤ N ∧ N - k ≤ kx ∧ s8 = .int .i64 (k : Int) ∧ wr.cell? ⟨w.heap.size, 0, none⟩ = some (.int .i64 b) ∧ wr.cell? ⟨w.heap.size, 1, none⟩ = some (.int .i64 kd) ∧ wr.cell? ⟨w.heap.size, 2, none⟩ = some (.bool l) ∧ Gr w wr)
  case atStart => exact ⟨0, by omega, by omega, rfl, by simp [go_sem], by simp [go_sem], by simp [go_sem], (by repeat (first | exact Gr.refl _ | refine Gr.setCell ?_ _ _ (by first | exact Nat.le_refl _ | (simp; omega) | (simp; done)) | refine Gr.grown ?_ _ _ | refine Gr.drewN ?_ _ | refine Gr.drew ?_ | refine Gr.alloc ?_ _ | refine Gr.grow ?_ _ | (refine Gr.trans ?_ (by assumption))))⟩
  case round =>
    obtain ⟨k, hk, hm, rfl, c0, c1, c2, hg⟩ := hrel
    by_cases z : k < 14
    · have T1 := TT0.out.gr hg
      have t0 := T1.b k z
      have t1 := T1.k k z
      have t2 := T1.l k z
      clear T1
      by_cases y : k = N
      · subst y
        obtain ⟨rfl, rfl, rfl⟩ := HA.out z
        have HR := Lib.hid (E1.out z)
        clear E1 E2 HA HO
        go_wp2
        go_quiet (fail)
        go_wp2
        go_ret
        exact ⟨ret1 HR.out, (by repeat (first | exact Gr.refl _ | refine Gr.setCell ?_ _ _ (by first | exact Nat.le_refl _ | (simp; omega) | (simp; done)) | refine Gr.grown ?_ _ _ | refine Gr.drewN ?_ _ | refine Gr.drew ?_ | refine Gr.alloc ?_ _ | refine Gr.grow ?_ _ | (refine Gr.trans ?_ (by assumption))))⟩
      · have hno := HO.out k (by omega)
        have hk2 : k < N := by omega
        clear E1 E2 HA HO
        by_cases q1 : b = kB k
        · subst q1
          by_cases q2 : kd = kK k
          · subst q2
            have q3 : (l == kL k) = false := beq_eq_false_iff_ne.2 fun h => hno ⟨rfl, rfl, h⟩
            clear hno
            go_wp2
            go_quiet (fail)
            go_wp2
            go_roundg (N - (k + 1))
            case measure => omega
            case rel => exact ⟨k + 1, by omega, Nat.le_refl _, by go_num, c0, c1, c2, (by repeat (first | exact Gr.refl _ | refine Gr.setCell ?_ _ _ (by first | exact Nat.le_refl _ | (simp; omega) | (simp; done)) | refine Gr.grown ?_ _ _ | refine Gr.drewN ?_ _ | refine Gr.drew ?_ | refine Gr.alloc ?_ _ | refine Gr.grow ?_ _ | (refine Gr.trans ?_ (by assumption))))⟩
          · have q3 : (kd == kK k) = false := beq_eq_false_iff_ne.2 q2
            clear hno q2
            go_wp2
            go_quiet (fail)
            go_wp2
            go_roundg (N - (k + 1))
            case measure => omega
            case rel => exact ⟨k + 1, by omega, Nat.le_refl _, by go_num, c0, c1, c2, (by repeat (first | exact Gr.refl _ | refine Gr.setCell ?_ _ _ (by first | exact Nat.le_refl _ | (simp; omega) | (simp; done)) | refine Gr.grown ?_ _ _ | refine Gr.drewN ?_ _ | refine Gr.drew ?_ | refine Gr.alloc ?_ _ | refine Gr.grow ?_ _ | (refine Gr.trans ?_ (by assumption))))⟩
        · have q3 : (b == kB k) = false := beq_eq_false_iff_ne.2 q1
          clear hno q1
          go_wp2
          go_quiet (fail)
          go_wp2
          go_roundg (N - (k + 1))
          case measure => omega
          case rel => exact ⟨k + 1, by omega, Nat.le_refl _, by go_num, c0, c1, c2, (by repeat (first | exact Gr.refl _ | refine Gr.setCell ?_ _ _ (by first | exact Nat.le_refl _ | (simp; omega) | (simp; done)) | refine Gr.grown ?_ _ _ | refine Gr.drewN ?_ _ | refine Gr.drew ?_ | refine Gr.alloc ?_ _ | refine Gr.grow ?_ _ | (refine Gr.trans ?_ (by assumption))))⟩
    · have y : k = N := by omega
      have HR := Lib.hid (E2.out (by omega))
      clear E1 E2 HA HO
      go_wp2
      go_ret
      exact ⟨ret1 HR.out, (by repeat (first | exact Gr.refl _ | refine Gr.setCell ?_ _ _ (by first | exact Nat.le_refl _ | (simp; omega) | (simp; done)) | refine Gr.grown ?_ _ _ | refine Gr.drewN ?_ _ | refine Gr.drew ?_ | refine Gr.alloc ?_ _ | refine Gr.grow ?_ _ | (refine Gr.trans ?_ (by assumption))))⟩

end Go.Proofs.YtegkbjpcgelomaaGreatDoor.Walks
end
/- Cells and marks behind a store. -/
section
namespace Go.Proofs.YtegkbjpcgelomaaGreatDoor.Base
open Go Go.RowKit Go.Sort

/-- A cell behind a store. -/
theorem set_cell {W : World} {b o b' o' : Nat} {v u : Value} (h : W.cell? ⟨b', o', none⟩ = some u) : (W.setCell ⟨b, o, none⟩ v).cell? ⟨b', o', none⟩ = some (if b = b' ∧ o = o' then v else u) := by
  unfold World.cell? at h ⊢
  unfold World.setCell
  simp only [Array.getElem?_modify]
  cases hb : W.heap[b']? with
  | none => rw [hb] at h; cases h
  | some x =>
    rw [hb] at h
    cases x with
    | cells c e f =>
      simp only [Option.isSome_none, Bool.false_eq_true, if_false] at h ⊢
      by_cases e1 : b = b'
      · subst e1
        simp only [if_true, Option.map_some]
        by_cases e2 : o = o'
        · subst e2
          have hl : o < c.size := by
            by_cases hl : o < c.size
            · exact hl
            · rw [Array.getElem?_eq_none (by omega)] at h; cases h
          simp [hl]
        · simp [e2, h]
      · simp [e1, h]
    | _ => simp at h
theorem set_frozen {W : World} {b o b' o' : Nat} {v : Value} {u : Bool} (h : W.frozen? ⟨b', o', none⟩ = u) : (W.setCell ⟨b, o, none⟩ v).frozen? ⟨b', o', none⟩ = u := by
  rw [← h]
  unfold World.frozen? World.setCell
  simp only [Array.getElem?_modify]
  by_cases e1 : b = b'
  · subst e1
    cases hb : W.heap[b]? with
    | none => simp
    | some x => cases x <;> simp
  · simp [e1]

end Go.Proofs.YtegkbjpcgelomaaGreatDoor.Base
end
/- Walks of keviah.Number, of the reference's Type and Number, and of the law's fixed example. -/
section
namespace Go.Proofs.YtegkbjpcgelomaaGreatDoor.Walks
open Go Go.RowKit Go.Sort Go.Proofs.YtegkbjpcgelomaaGreatDoor.Base Go.Proofs.YtegkbjpcgelomaaGreatDoor.Plain Go.Proofs.YtegkbjpcgelomaaGreatDoor.Math

theorem knum_is (b k : Int) (l : Bool) : kixI b k l + 1 = knum b k l := by unfold kixI knum; split <;> omega
theorem knum_range (b k : Int) (l : Bool) : 0 ≤ knum b k l ∧ knum b k l ≤ 14 := by unfold knum; split <;> omega

set_option maxHeartbeats 1000000 in
theorem knumber_c (b kd : Int) (l : Bool) (w : World) (T : TT w) : Calls Tryq.prog 20 #[.agg #[.int .i64 b, .int .i64 kd, .bool l]] w fun e w' => e = .returned (.int .i64 (knum b kd l)) ∧ Gr w w' := by
  obtain ⟨I, hI⟩ : ∃ I, kixI b kd l = I := ⟨_, rfl⟩
  have HK : RowKit.Hid (I + 1 = knum b kd l) := Lib.hid (by rw [← hI]; exact knum_is b kd l)
  have r := knum_range b kd l
  rw [← HK.out] at r
  obtain ⟨r0, r1⟩ := r
  have C1 : RowKit.Hid (∀ W, Gr w W → Calls Tryq.prog 45 #[.slice (some ⟨0, 0, none⟩) 14 14, .agg #[.int .i64 b, .int .i64 kd, .bool l]] W fun e w' => e = .returned (.int .i64 I) ∧ Gr W w') := Lib.hid fun W hW => by
    have := kindex_c b kd l W (T.gr hW); rwa [hI] at this
  clear hI T
  go_enter Tryq.func20, Tryq.ntmps20
  go_wp2
  have b0 := gcell_in (w := w.alloc (.cells #[.int .i64 b, .int .i64 kd, .bool l] 31)) (b := w.heap.size) (o := 0) (v := .int .i64 b) (by simp) (by simp [go_sem])
  have b1 := gcell_in (w := w.alloc (.cells #[.int .i64 b, .int .i64 kd, .bool l] 31)) (b := w.heap.size) (o := 1) (v := .int .i64 kd) (by simp) (by simp [go_sem])
  have b2 := gcell_in (w := w.alloc (.cells #[.int .i64 b, .int .i64 kd, .bool l] 31)) (b := w.heap.size) (o := 2) (v := .bool l) (by simp) (by simp [go_sem])
  (refine wp_region_quiet_grown mixed (by kernel_rfl) ?_; (repeat (first | go_big_quiet_step ((first | (go_at_call 45; exact gr_of (C1.out _ ((by repeat (first | exact Gr.refl _ | refine Gr.setCell ?_ _ _ (by first | exact Nat.le_refl _ | (simp; omega) | (simp; done)) | refine Gr.grown ?_ _ _ | refine Gr.drewN ?_ _ | refine Gr.drew ?_ | refine Gr.alloc ?_ _ | refine Gr.grow ?_ _ | (refine Gr.trans ?_ (by assumption))))))))) | quiet_step ((first | (go_at_call 45; exact gr_of (C1.out _ ((by repeat (first | exact Gr.refl _ | refine Gr.setCell ?_ _ _ (by first | exact Nat.le_refl _ | (simp; omega) | (simp; done)) | refine Gr.grown ?_ _ _ | refine Gr.drewN ?_ _ | refine Gr.drew ?_ | refine Gr.alloc ?_ _ | refine Gr.grow ?_ _ | (refine Gr.trans ?_ (by assumption))))))))))); refine wpQuiet_nil ?_; intro _ hw'; obtain ⟨⟨nq, osq⟩, hw''⟩ := hw'; subst hw'')
  go_wp2
  go_ret
  exact ⟨ret1 HK.out, (by repeat (first | exact Gr.refl _ | refine Gr.setCell ?_ _ _ (by first | exact Nat.le_refl _ | (simp; omega) | (simp; done)) | refine Gr.grown ?_ _ _ | refine Gr.drewN ?_ _ | refine Gr.drew ?_ | refine Gr.alloc ?_ _ | refine Gr.grow ?_ _ | (refine Gr.trans ?_ (by assumption))))⟩

end Go.Proofs.YtegkbjpcgelomaaGreatDoor.Walks
end
/- Months of types in plain numbers: their days, what is ahead of them, their codes; dates and their days. No program in sight. -/
section
namespace Go.Proofs.YtegkbjpcgelomaaGreatDoor.Math
open Go Go.RowKit Go.Proofs.YtegkbjpcgelomaaGreatDoor.Plain Go.Proofs.YtegkbjpcgelomaaGreatDoor.Walks

/-- How many months a type has. -/
def mct (l : Bool) : Nat := if l = true then 13 else 12
theorem mct_le (l : Bool) : 12 ≤ mct l ∧ mct l ≤ 13 := by cases l <;> decide
/-- The days of month j (from 0 on). -/
def mlen (kd : Int) (l : Bool) (j : Nat) : Int :=
  if l = true ∧ j = 5 then 30 else
  if j = 1 then (if kd = 2 then 30 else 29) else
  if j = 2 then (if kd = 0 then 29 else 30) else
  if (if l = true ∧ 5 < j then j - 1 else j) % 2 = 0 then 30 else 29
theorem mlen_range (kd : Int) (l : Bool) (j : Nat) : 29 ≤ mlen kd l j ∧ mlen kd l j ≤ 30 := by
  unfold mlen
  repeat' split
  all_goals omega
/-- The days ahead of month j. -/
def mah (kd : Int) (l : Bool) : Nat → Int
  | 0 => 0
  | j + 1 => mah kd l j + mlen kd l j
theorem mah_range (kd : Int) (l : Bool) (j : Nat) : 29 * (j : Int) ≤ mah kd l j ∧ mah kd l j ≤ 30 * (j : Int) := by
  induction j with
  | zero => simp [mah]
  | succ j ih =>
    have := mlen_range kd l j
    simp only [mah]
    omega
theorem mah_step (kd : Int) (l : Bool) (j : Nat) : mah kd l j + 29 ≤ mah kd l (j + 1) := by
  have := mlen_range kd l j
  simp only [mah]
  omega
theorem mah_mono (kd : Int) (l : Bool) (i d : Nat) : mah kd l i + 29 * (d : Int) ≤ mah kd l (i + d) := by
  induction d with
  | zero => simp
  | succ d ih => have := mah_step kd l (i + d); rw [show i + (d + 1) = (i + d) + 1 from rfl]; omega
theorem mah_le (kd : Int) (l : Bool) {i j : Nat} (h : i ≤ j) : mah kd l i + 29 * ((j : Int) - i) ≤ mah kd l j := by
  have := mah_mono kd l i (j - i)
  rw [show i + (j - i) = j from by omega] at this
  omega
/-- All months' days together. -/
theorem mah_all (kd : Int) (l : Bool) (h0 : 0 ≤ kd) (h1 : kd ≤ 2) : mah kd l (mct l) = 353 + kd + (if l = true then 30 else 0) := by
  have : kd = 0 ∨ kd = 1 ∨ kd = 2 := by omega
  rcases this with rfl | rfl | rfl <;> cases l <;> decide
theorem kln_mah {y : Int} (h0 : 1 ≤ y) (h1 : y ≤ 9999) : mah (kk y) (lp y) (mct (lp y)) = kln y := by
  obtain ⟨a, b, c⟩ := kk_leap h0 h1
  rw [mah_all _ _ b c]
  cases hl : lp y <;> simp only [hl, Bool.false_eq_true, if_false, if_true] at a ⊢ <;> omega
/-- The month of a day. -/
theorem month_at (kd : Int) (l : Bool) (c : Nat) (r : Int) (h0 : 1 ≤ r) (h1 : r ≤ mah kd l c) : ∃ j, j < c ∧ mah kd l j < r ∧ r ≤ mah kd l (j + 1) := by
  induction c with
  | zero => simp [mah] at h1; omega
  | succ c ih =>
    by_cases h : r ≤ mah kd l c
    · obtain ⟨j, a, b⟩ := ih h
      exact ⟨j, by omega, b⟩
    · exact ⟨c, by omega, by omega, h1⟩

/-! ### codes -/
/-- The code of month j (from 0 on): its number, and whether it is the leap month. -/
def cN (l : Bool) (j : Nat) : Int := if l = true ∧ 5 ≤ j then (j : Int) else (j : Int) + 1
def cL (l : Bool) (j : Nat) : Bool := l && decide (j = 5)
/-- May a code be? -/
def cR (n : Int) (c : Bool) : Bool := decide (1 ≤ n ∧ n ≤ 12 ∧ (n = 5 ∨ c = false))
theorem cN_range (l : Bool) {j : Nat} (h : j < mct l) : 1 ≤ cN l j ∧ cN l j ≤ 12 := by
  unfold cN mct at *
  cases l <;> simp at * <;> (try split) <;> omega
theorem cR_at (l : Bool) {j : Nat} (h : j < mct l) : cR (cN l j) (cL l j) = true := by
  unfold cR
  refine decide_eq_true ⟨(cN_range l h).1, (cN_range l h).2, ?_⟩
  unfold cN cL mct at *
  cases l <;> simp at * <;> omega
/-- Does a year have a code? -/
def cHas (l : Bool) (n : Int) (c : Bool) : Bool := cR n c && (l || !c)
theorem code_in {l : Bool} {n : Int} {c : Bool} (h : cHas l n c = true) : ∃ j, j < mct l ∧ n = cN l j ∧ c = cL l j := by
  unfold cHas cR at h
  simp only [Bool.and_eq_true, decide_eq_true_eq, Bool.or_eq_true, Bool.not_eq_true'] at h
  obtain ⟨⟨a, b, d⟩, e⟩ := h
  unfold cN cL mct
  cases l
  · have hc : c = false := by simpa using e
    subst hc
    exact ⟨(n - 1).toNat, by simp; omega, by simp; omega, by simp⟩
  · cases c
    · by_cases z : n ≤ 5
      · exact ⟨(n - 1).toNat, by simp; omega, by rw [if_neg (by omega)]; omega, by simp; omega⟩
      · exact ⟨n.toNat, by simp; omega, by rw [if_pos ⟨rfl, by omega⟩]; omega, by simp; omega⟩
    · have h5 : n = 5 := by simpa using d
      subst h5
      exact ⟨5, by decide, by decide, by decide⟩

/-! ### dates and their days -/
/-- A date that may be: its year, its month (from 0 on), its day. -/
structure HV (y : Int) (j : Nat) (d : Int) : Prop where
  y0 : 1 ≤ y
  y1 : y ≤ 9999
  j1 : j < mct (lp y)
  d0 : 1 ≤ d
  d1 : d ≤ mlen (kk y) (lp y) j
/-- Its day. -/
def hd (y : Int) (j : Nat) (d : Int) : Int := fy y + mah (kk y) (lp y) j + d - 1
theorem hd_in {y : Int} {j : Nat} {d : Int} (h : HV y j d) : fy y ≤ hd y j d ∧ hd y j d < fy (y + 1) := by
  have a := mah_range (kk y) (lp y) j
  have b := kln_mah h.y0 h.y1
  have c := mah_le (kk y) (lp y) (i := j + 1) (j := mct (lp y)) h.j1
  have := h.d0
  have := h.d1
  have := h.j1
  simp only [mah] at c
  unfold kln at b
  unfold hd
  omega
theorem hd_range {y : Int} {j : Nat} {d : Int} (h : HV y j d) : -1373427 ≤ hd y j d ∧ hd y j d ≤ 2278650 := by
  have a := hd_in h
  have := fy_mono (a := 1) (b := y) (by omega) h.y0 (by have := h.y1; omega)
  have := fy_mono (a := y + 1) (b := 10000) (by have := h.y0; omega) (by have := h.y1; omega) (by omega)
  have := h.y0
  have := h.y1
  have e := fy_1
  have f := lastD_is
  unfold lastD at f
  omega
theorem hd_of {n : Int} (h0 : -1373427 ≤ n) (h1 : n ≤ 2278650) : ∃ y j d, HV y j d ∧ hd y j d = n := by
  have e := fy_1
  have f := lastD_is
  unfold lastD at f
  obtain ⟨y, a, b, c, g⟩ := year_of (n := n) (by omega) (by omega)
  have k := kln_mah a b
  unfold kln at k
  obtain ⟨j, u, v, w⟩ := month_at (kk y) (lp y) (mct (lp y)) (n - fy y + 1) (by omega) (by omega)
  refine ⟨y, j, n - fy y + 1 - mah (kk y) (lp y) j, ⟨a, b, u, by omega, by simp only [mah] at w; omega⟩, by unfold hd; omega⟩
/-- The next date. -/
theorem hd_next_day {y : Int} {j : Nat} {d : Int} (h : HV y j d) (g : d < mlen (kk y) (lp y) j) : HV y j (d + 1) ∧ hd y j (d + 1) = hd y j d + 1 :=
  ⟨⟨h.y0, h.y1, h.j1, by have := h.d0; omega, by omega⟩, by unfold hd; omega⟩
theorem hd_next_month {y : Int} {j : Nat} {d : Int} (h : HV y j d) (g : d = mlen (kk y) (lp y) j) (hj : j + 1 < mct (lp y)) : HV y (j + 1) 1 ∧ hd y (j + 1) 1 = hd y j d + 1 :=
  ⟨⟨h.y0, h.y1, hj, by decide, by have := mlen_range (kk y) (lp y) (j + 1); omega⟩, by unfold hd; simp only [mah]; omega⟩
theorem hd_next_year {y : Int} {j : Nat} {d : Int} (h : HV y j d) (g : d = mlen (kk y) (lp y) j) (hj : j + 1 = mct (lp y)) : hd y j d + 1 = fy (y + 1) := by
  have b := kln_mah h.y0 h.y1
  unfold kln at b
  rw [← hj] at b
  simp only [mah] at b
  unfold hd
  omega
theorem HV_first {y : Int} (h0 : 1 ≤ y) (h1 : y ≤ 9999) : HV y 0 1 ∧ hd y 0 1 = fy y :=
  ⟨⟨h0, h1, by have := mct_le (lp y); omega, by decide, by have := mlen_range (kk y) (lp y) 0; omega⟩, by unfold hd; simp only [mah]; omega⟩

end Go.Proofs.YtegkbjpcgelomaaGreatDoor.Math
end
/- Walks of package month: the table of a type's months. -/
section
namespace Go.Proofs.YtegkbjpcgelomaaGreatDoor.Walks
open Go Go.RowKit Go.Sort Go.Proofs.YtegkbjpcgelomaaGreatDoor.Base Go.Proofs.YtegkbjpcgelomaaGreatDoor.Plain Go.Proofs.YtegkbjpcgelomaaGreatDoor.Math

/-- The months of a regular year that isn't leap. -/
def plv (j : Nat) : Int := if j % 2 = 0 then 30 else 29
/-- Both variables hold their tables. -/
structure GT (w : World) : Prop where
  t : TT w
  lt : 1 < w.heap.size
  p : ∀ j, j < 12 → w.cell? ⟨1, j, none⟩ = some (.int .i64 (plv j))
theorem GT.gr {w w' : World} (h : GT w) (g : Gr w w') : GT w' := ⟨h.t.gr g, g.lt h.lt, fun j hj => g.keep h.lt (h.p j hj)⟩

/-- A table in a box: thirteen numbers, and how many of them count. -/
structure Tab (w : World) (b : Nat) (f : Nat → Int) (n : Nat) : Prop where
  lt : b < w.heap.size
  c : ∀ j, j < 13 → w.cell? ⟨b, j, none⟩ = some (.int .i64 (f j))
  z : w.cell? ⟨b, 13, none⟩ = some (.int .i64 (n : Int))
  fr : ∀ j, j < 14 → w.frozen? ⟨b, j, none⟩ = false
theorem Tab.gr {w w' : World} {b : Nat} {f : Nat → Int} {n : Nat} (h : Tab w b f n) (g : Gr w w') : Tab w' b f n :=
  ⟨g.lt h.lt, fun j hj => g.keep h.lt (h.c j hj), g.keep h.lt h.z, fun j hj => g.thaw h.lt (h.fr j hj)⟩
/-- The first n. -/
def tf (M : Nat → Int) (n j : Nat) : Int := if j < n then M j else 0
theorem tf_put (M : Nat → Int) (n j : Nat) (d : Int) (hd : d = M n) : (if n = j then Value.int .i64 d else Value.int .i64 (tf M n j)) = Value.int .i64 (tf M (n + 1) j) := by
  unfold tf
  by_cases e : n = j
  · subst e; simp [hd]
  · rw [if_neg e]
    by_cases h : j < n
    · rw [if_pos h, if_pos (by omega)]
    · rw [if_neg h, if_neg (by omega)]

theorem Tab.other {w w' : World} {b b' : Nat} {f : Nat → Int} {n : Nat} (h : Tab w b f n) (hb : b ≠ b') (o : ∀ c q, c ≠ b' → w'.cell? ⟨c, q, none⟩ = w.cell? ⟨c, q, none⟩) (z : w'.heap.size = w.heap.size) (fr : ∀ c q v, w.frozen? ⟨c, q, none⟩ = v → w'.frozen? ⟨c, q, none⟩ = v) : Tab w' b f n :=
  ⟨by rw [z]; exact h.lt, fun j hj => (o _ _ hb).trans (h.c j hj), (o _ _ hb).trans h.z, fun j hj => fr _ _ _ (h.fr j hj)⟩
theorem set_size (w : World) (p : Addr) (v : Value) : (w.setCell p v).heap.size = w.heap.size := by
  unfold World.setCell; simp
theorem set_other (w : World) (b o c q : Nat) (v : Value) (h : c ≠ b) : (w.setCell ⟨b, o, none⟩ v).cell? ⟨c, q, none⟩ = w.cell? ⟨c, q, none⟩ := by
  unfold World.cell? World.setCell
  simp only [Array.getElem?_modify]
  rw [if_neg (fun e => h e.symm)]
theorem Tab.put {w : World} {b n : Nat} {M : Nat → Int} {d : Int} (T : Tab w b (tf M n) n) (hn : n < 13) (hd : d = M n) :
    Tab ((w.setCell ⟨b, n, none⟩ (.int .i64 d)).setCell ⟨b, 13, none⟩ (.int .i64 ((n : Int) + 1))) b (tf M (n + 1)) (n + 1) := by
  refine ⟨by rw [set_size, set_size]; exact T.lt, fun j hj => ?_, ?_, fun j hj => set_frozen (set_frozen (T.fr j hj))⟩
  · have h1 := set_cell (b := b) (o := n) (v := .int .i64 d) (T.c j hj)
    rw [set_cell h1, if_neg (by omega), ← tf_put M n j d hd]
    by_cases e : n = j
    · rw [if_pos ⟨rfl, e⟩, if_pos e]
    · rw [if_neg (fun h => e h.2), if_neg e]
  · have h1 := set_cell (b := b) (o := n) (v := .int .i64 d) T.z
    rw [if_neg (by omega)] at h1
    rw [set_cell h1, if_pos ⟨rfl, rfl⟩]
    simp

/-- Cells stored one behind the other. -/
def stores (w : World) (b : Nat) : List Value → Nat → World
  | [], _ => w
  | v :: vs, o => stores (w.setCell ⟨b, o, none⟩ v) b vs (o + 1)
theorem stores_keep {w : World} {b : Nat} {vs : List Value} : ∀ {o q : Nat} {v : Value}, q < o → w.cell? ⟨b, q, none⟩ = some v → (stores w b vs o).cell? ⟨b, q, none⟩ = some v := by
  induction vs generalizing w with
  | nil => intro o q v _ h; exact h
  | cons u us ih =>
    intro o q v hq h
    refine ih (by omega) ?_
    rw [set_cell h, if_neg (by omega)]
theorem stores_cell {w : World} {b : Nat} {vs : List Value} : ∀ {o : Nat}, (∀ j, j < vs.length → ∃ u, w.cell? ⟨b, o + j, none⟩ = some u) → ∀ j, j < vs.length → (stores w b vs o).cell? ⟨b, o + j, none⟩ = vs[j]? := by
  induction vs generalizing w with
  | nil => intro o _ j hj; simp at hj
  | cons u us ih =>
    intro o h j hj
    cases j with
    | zero =>
      obtain ⟨x, hx⟩ := h 0 (by simp)
      have := set_cell (b := b) (o := o) (v := u) hx
      rw [if_pos ⟨rfl, by simp⟩] at this
      simp only [stores]
      exact (stores_keep (by omega) this).trans (by simp)
    | succ j =>
      have := ih (w := w.setCell ⟨b, o, none⟩ u) (o := o + 1) (fun i hi => by
        obtain ⟨x, hx⟩ := h (i + 1) (by simpa using hi)
        rw [show o + 1 + i = o + (i + 1) by omega]
        exact ⟨_, set_cell hx⟩) j (by simpa using hj)
      rw [show o + (j + 1) = o + 1 + j by omega]
      simp only [stores]
      exact this.trans (by simp)
theorem stores_gr {U w : World} {b : Nat} {vs : List Value} : ∀ {o : Nat}, Gr U w → U.heap.size ≤ b → Gr U (stores w b vs o) := by
  induction vs generalizing w with
  | nil => intro o h _; exact h
  | cons u us ih => intro o h hb; exact ih (h.setCell _ _ hb) hb

set_option maxRecDepth 20000 in
set_option maxHeartbeats 1000000 in
theorem tadd_c (M : Nat → Int) (b n : Nat) (d : Int) (w : World) (T : Tab w b (tf M n) n) (hn : n < 13) (hd : d = M n) :
    Calls Tryq.prog 86 #[.pointer (some ⟨b, 0, none⟩), .int .i64 d] w fun e w' => e = .returned (.tuple #[]) ∧ Tab w' b (tf M (n + 1)) (n + 1) ∧ (∀ U, Gr U w → U.heap.size ≤ b → Gr U w') ∧ (∀ c q, c ≠ b → w'.cell? ⟨c, q, none⟩ = w.cell? ⟨c, q, none⟩) ∧ w'.heap.size = w.heap.size ∧ (∀ c q v, w.frozen? ⟨c, q, none⟩ = v → w'.frozen? ⟨c, q, none⟩ = v) := by
  have HD := Lib.hid hd
  have z0 := T.z
  have zd : w.drew.cell? ⟨b, 13, none⟩ = some (.int .i64 (n : Int)) := T.z
  have zq : ({ w with drawn := w.drawn + 1 } : World).cell? ⟨b, 13, none⟩ = some (.int .i64 (n : Int)) := T.z
  have c0 := T.c n hn
  have cd : w.drew.cell? ⟨b, n, none⟩ = some (.int .i64 (tf M n n)) := T.c n hn
  have f0 := T.fr n (by omega)
  have fd : w.drew.frozen? ⟨b, n, none⟩ = false := T.fr n (by omega)
  have f13 : w.drew.frozen? ⟨b, 13, none⟩ = false := T.fr 13 (by omega)
  have z1 : (w.drew.setCell ⟨b, n, none⟩ (.int .i64 d)).cell? ⟨b, 13, none⟩ = some (.int .i64 (n : Int)) := by
    rw [set_cell zd, if_neg (by omega)]
  have f1 : (w.drew.setCell ⟨b, n, none⟩ (.int .i64 d)).frozen? ⟨b, 13, none⟩ = false := set_frozen f13
  have f13w : w.frozen? ⟨b, 13, none⟩ = false := T.fr 13 (by omega)
  have TD := Lib.hid T
  have hw : IntKind.i64.wrap (n : Int) = (n : Int) := by rw [IntKind.wrap_i64]; omega
  have hk0 : ¬ ((n : Int) < 0) := by omega
  have hk1 : (n : Int) < 13 := by omega
  have hk2 : ((n : Int)).toNat = n := by omega
  clear T hd
  go_enter Tryq.func86, Tryq.ntmps86
  go_wp2
  refine wp_region_still_tail 9 mixed (by kernel_rfl) ?_
  simp only [List.take_succ_cons, List.take_zero, List.drop_succ_cons, List.drop_zero]
  repeat (first | still_step)
  refine wpStill_nil ?_
  change wpList _ _ _ _ _ w.drew
  go_wp2
  go_end0
  refine ⟨rfl, ?_, fun U hU hb => ?_, fun c q hc => ?_, ?_, fun c q v hv => set_frozen (set_frozen hv)⟩
  · exact (TD.out.put hn HD.out).gr ((Gr.refl _).drew)
  · exact ((hU.setCell _ _ hb).setCell _ _ hb).drew
  · exact (set_other _ _ _ _ _ _ hc).trans (set_other _ _ _ _ _ _ hc)
  · exact (set_size _ _ _).trans (set_size _ _ _)

end Go.Proofs.YtegkbjpcgelomaaGreatDoor.Walks
end
/- A row of the call's own, appended to: it may grow; the world has grown (Gr). -/
section
namespace Go.Proofs.YtegkbjpcgelomaaGreatDoor.Base
open Go Go.RowKit Go.Sort

theorem Gr.setRow {a b : World} (h : Gr a b) (g : Nat) (cs : Array Value) (hg : a.heap.size ≤ g) : Gr a (b.setRow g cs) := by
  obtain ⟨⟨q, os, rfl⟩⟩ := h
  refine ⟨⟨q, os.modify (g - a.heap.size) fun | .cells _ e f => .cells cs e f | o => o, ?_⟩⟩
  unfold World.setRow Go.Sort.grow
  simp only
  congr 1
  exact modify_append_right _ _ _ _ hg
theorem Gr.heap {a b : World} (h : Gr a b) {k : Nat} (hk : k < a.heap.size) : b.heap[k]? = a.heap[k]? := by
  obtain ⟨⟨q, os, rfl⟩⟩ := h
  exact heap_grow_old _ _ hk

section
variable {P : Program} (w : World)
theorem run_append_gr (base : Nat) (t ty e : TypeId) (i : TypeInfo) (z : Value) (size bytes : Nat) (ht : P.underlying t = some (.slice e)) (hi : P.info? e = some i) (hz : i.zero = some z)
    (hsize : i.size = size) (hby : i.bytes = bytes) (hzs : z.cells.size = size) (hsz : 0 < size)
    (v : Value) (n : Nat) (xs : List Value) (hown : w.ownsRow base e size v n xs)
    (a : Addr) (m c : Nat) (news : List Value) (hl : news.length = m * size) (hnews : ∀ j u, news[j]? = some u → w.cell? (a.add j) = some u) (h1 : ∀ u ∈ news, u.oneCell' = true)
    (hm : 0 < m) (h63 : n + m ≤ maxLen) (hbytes : (n + m) * bytes ≤ 140737488355328) (hbase : base ≤ w.heap.size) :
    ∃ g cap w', (Builtin.append_ #[t, t] ty #[v, .slice (some a) m c]).run P w = .ok (.slice (some ⟨g, 0, none⟩) (n + m) cap) w' ∧
      w'.ownsRow base e size (.slice (some ⟨g, 0, none⟩) (n + m) cap) (n + m) (xs ++ news) ∧ w.grownBy w' v.ownBlock ∧ base ≤ g ∧ (∀ W, Gr W w → W.heap.size ≤ base → Gr W w') := by
  obtain ⟨v', w', hr, ho, hgb, hnil⟩ := run_append_own (P := P) w base t ty e i z size bytes ht hi hz hsize hby hzs hsz v n xs hown a m c news hl hnews h1 h63 hbytes hbase
  subst hsize
  subst hby
  have hGr : ∀ W, Gr W w → W.heap.size ≤ base → Gr W w' := by
    intro W hW hWb
    rcases hown.2 with ⟨rfl, rfl⟩ | ⟨g, cap, cur, rfl, hbg, hg, hnc, hcm, hcs, htake⟩
    · have hx : xs = [] := List.eq_nil_of_length_eq_zero (by simpa using hown.1)
      subst hx
      have hr2 := run_append_nil (P := P) w t ty e i z ht hi hz a m c news hl hnews hm (by simp only [maxLen] at h63; omega) (by have hb := hbytes; simp only [Nat.zero_add] at hb; omega)
      rw [hr] at hr2
      injection hr2 with _ e2
      rw [e2]
      exact hW.drew.alloc _
    · by_cases hroom : n + m ≤ cap
      · have hfit : n * i.size + news.length ≤ cur.size := by rw [hl, hcs, ← Nat.add_mul]; exact Nat.mul_le_mul_right _ hroom
        have hr2 := run_append_room (P := P) w t ty e i ht hi g n cap cur hg a m c news hl hnews h1 hroom hfit
        rw [hr] at hr2
        injection hr2 with _ e2
        rw [e2]
        exact hW.setRow g _ (Nat.le_trans hWb hbg)
      · have holds : ∀ j u, xs[j]? = some u → w.cell? ((⟨g, 0, none⟩ : Addr).add j) = some u := hown.cells (g := g) rfl
        have hr2 := run_append_grow (P := P) w t ty e i z ht hi hz ⟨g, 0, none⟩ n cap xs hown.1 holds a m c news hl hnews (by omega) (by simp only [maxLen] at h63; omega) (growslice_fits (by omega) hbytes)
        rw [hr] at hr2
        injection hr2 with _ e2
        rw [e2]
        exact hW.drew.alloc _
  rcases ho.2 with ⟨q, -⟩ | ⟨g, cap, cur, rfl, hbg, -⟩
  · exact absurd (hnil.1 q).2 (by omega)
  · exact ⟨g, cap, w', hr, ho, hgb, hbg, hGr⟩
theorem wpList_append_gr {ops : Array Oper} {rest : List Oper} {o : Oper} {a : Act} {Q : Exit → Act → World → Prop} (hg : o.guard = none) (s x : Operand) (t : TypeId)
    (hop : o.op = .call { callee := .builtin .append, args := #[s, x], argTypes := #[t, t] })
    (base : Nat) (e : TypeId) (i : TypeInfo) (z : Value) (size bytes : Nat) (ht : P.underlying t = some (.slice e)) (hi : P.info? e = some i) (hz : i.zero = some z)
    (hsize : i.size = size) (hby : i.bytes = bytes) (hzs : z.cells.size = size) (hsz : 0 < size)
    (v : Value) (n : Nat) (xs : List Value) (hs : a.eval s = v) (hown : w.ownsRow base e size v n xs)
    (ad : Addr) (m c : Nat) (news : List Value) (hx : a.eval x = .slice (some ad) m c) (hl : news.length = m * size) (hnews : ∀ j u, news[j]? = some u → w.cell? (ad.add j) = some u) (h1 : ∀ u ∈ news, u.oneCell' = true)
    (hm : 0 < m) (h63 : n + m ≤ maxLen) (hbytes : (n + m) * bytes ≤ 140737488355328) (hbase : base ≤ w.heap.size)
    (hK : ∀ g cap w', w'.ownsRow base e size (.slice (some ⟨g, 0, none⟩) (n + m) cap) (n + m) (xs ++ news) → w.grownBy w' v.ownBlock → base ≤ g → (∀ W, Gr W w → W.heap.size ≤ base → Gr W w') →
      wpList P ops Q rest (a.put o.dst (.slice (some ⟨g, 0, none⟩) (n + m) cap)) w') : wpList P ops Q (o :: rest) a w := by
  refine wpList_plain hg fun K hK' => ?_
  obtain ⟨g, cap, w', hr, h2, h3, h4, h5⟩ := run_append_gr (P := P) w base t o.type e i z size bytes ht hi hz hsize hby hzs hsz v n xs hown ad m c news hl hnews h1 hm h63 hbytes hbase
  unfold Oper.wp execOp
  simp only [hop, resolve, invoke, builtin, Sem.run_bind, Sem.run_pure, Result.andThen_ok, List.map_toArray, List.map_cons, List.map_nil, hs, hx, hr]
  exact hK' _ _ (hK g cap w' h2 h3 h4 h5)
end

theorem own_new (w : World) {base g : Nat} {cs : Array Value} {e size n : Nat} (hb : base ≤ w.heap.size) (hg : w.heap.size = g) (hs : cs.size = n * size) (hn : n ≤ maxLen) :
    (w.alloc (.cells cs e)).ownsRow base e size (.slice (some ⟨g, 0, none⟩) n n) n cs.toList := by
  subst hg
  refine ⟨by simpa using hs, .inr ⟨w.heap.size, n, cs, rfl, hb, heap_alloc_new w _, Nat.le_refl _, hn, hs, ?_⟩⟩
  rw [← hs]
  exact List.take_of_length_le (by simp)
/-- A slice of numbers of the call's own, as its readers see it. -/
structure Row (w : World) (size n : Nat) (g : Nat) (f : Nat → Value) : Prop where
  lt : g < w.heap.size
  c : ∀ j, j < n * size → w.cell? ⟨g, j, none⟩ = some (f j)
theorem Row.gr {w w' : World} {size n g : Nat} {f : Nat → Value} (h : Row w size n g f) (hg : Gr w w') : Row w' size n g f := ⟨hg.lt h.lt, fun j hj => hg.keep h.lt (h.c j hj)⟩
theorem row_of {w : World} {base e size g n cap : Nat} {xs : List Value} {f : Nat → Value} (h : w.ownsRow base e size (.slice (some ⟨g, 0, none⟩) n cap) n xs) (hn : 0 < n)
    (hf : ∀ j, j < n * size → xs[j]? = some (f j)) : Row w size n g f := by
  have h2 := h.2
  rcases h2 with ⟨q, -⟩ | ⟨g', cap', cur, q, -, hh, -⟩
  · cases q
  · injection q with q1 q2 q3
    injection q1 with q4
    injection q4 with q5
    subst q5
    refine ⟨(Array.getElem?_eq_some_iff.1 hh).1, fun j hj => ?_⟩
    have := h.cells (g := g) rfl j (f j) (hf j hj)
    by_cases z : j = 0
    · subst z; simpa [Addr.add] using this
    · simpa [Addr.add, z] using this

end Go.Proofs.YtegkbjpcgelomaaGreatDoor.Base
end
/- The two numbers of the fixed date's text: strconv.Itoa, text.pad. -/
section
set_option maxRecDepth 20000
namespace Go.Proofs.YtegkbjpcgelomaaGreatDoor.Walks
open Go Go.RowKit Go.Sort Go.Proofs.YtegkbjpcgelomaaGreatDoor.Base

/-- The table of the powers of ten lies as it was laid. -/
structure PT (w : World) : Prop where
  tab : Lib.TabIs Tryq.prog w "internal/strconv.uint64pow10" .u64 Lib.pow10Tab
theorem PT.gr {w w' : World} (p : PT w) (g : Gr w w') : PT w' := by
  refine ⟨?_⟩
  have h := p.tab
  unfold Lib.TabIs World.var? at *
  cases hg : Tryq.prog.globalNamed "internal/strconv.uint64pow10" with
  | none => simp [hg] at h
  | some k =>
    simp only [hg, Option.bind_some] at h ⊢
    have hlt : k < w.heap.size := by
      rcases Nat.lt_or_ge k w.heap.size with h' | h'
      · exact h'
      · rw [Array.getElem?_eq_none h'] at h; simp at h
    rw [g.heap hlt]
    exact h

theorem itoa_big (w : World) (p : PT w) : Calls Tryq.prog 108 #[.int .i64 5784] w fun e w' => e = .returned (.string ⟨#[53, 55, 56, 52]⟩) ∧ Gr w w' := by
  refine (Any.strconv_Itoa Tryq.lays171 5784 (by decide) (by decide) w p.tab).mono ?_
  rintro e w' ⟨rfl, k, os, rfl⟩
  exact ⟨by rw [show Lib.itoa 5784 = [53, 55, 56, 52] from by decide +kernel], (Gr.refl w).grown k os⟩
theorem itoa_small (w : World) : Calls Tryq.prog 108 #[.int .i64 15] w fun e w' => e = .returned (.string ⟨#[49, 53]⟩) ∧ Gr w w' := by
  refine (Any.strconv_Itoa_small { Tryq.lays171 with } 15 (by decide) w).mono ?_
  intro e w' h
  obtain ⟨rfl, rfl⟩ := h
  exact ⟨by rw [show Lib.decDigits 15 = [49, 53] from by decide +kernel], Gr.refl _⟩
set_option maxHeartbeats 1000000 in
theorem repeat0_c (s : ByteArray) (w : World) : Calls Tryq.prog 112 #[.string s, .int .i64 0] w fun e w' => e = .returned (.string ⟨#[]⟩) ∧ Gr w w' := by
  go_enter Tryq.func112, Tryq.ntmps112
  go_wp2
  go_ret
  exact ⟨rfl, (by repeat (first | exact Gr.refl _ | refine Gr.setCell ?_ _ _ (by first | exact Nat.le_refl _ | (simp; omega) | (simp; done)) | refine Gr.grown ?_ _ _ | refine Gr.drewN ?_ _ | refine Gr.drew ?_ | refine Gr.alloc ?_ _ | refine Gr.grow ?_ _ | (refine Gr.trans ?_ (by assumption))))⟩
set_option maxHeartbeats 1000000 in
theorem pad_big (w : World) (p : PT w) : Calls Tryq.prog 78 #[.int .i64 5784, .int .i64 4] w fun e w' => e = .returned (.string ⟨#[53, 55, 56, 52]⟩) ∧ Gr w w' := by
  go_enter Tryq.func78, Tryq.ntmps78
  go_wp2_with (first | (go_at_call 108; (with_reducible refine (itoa_big _ p).mono ?_); rintro e w1 ⟨rfl, hgw1⟩) | (go_at_call 112; (with_reducible refine (repeat0_c _ _).mono ?_); rintro e w2 ⟨rfl, hgw2⟩))
  go_ret
  exact ⟨by kernel_rfl, (by repeat (first | exact Gr.refl _ | refine Gr.setCell ?_ _ _ (by first | exact Nat.le_refl _ | (simp; omega) | (simp; done)) | refine Gr.grown ?_ _ _ | refine Gr.drewN ?_ _ | refine Gr.drew ?_ | refine Gr.alloc ?_ _ | refine Gr.grow ?_ _ | (refine Gr.trans ?_ (by assumption))))⟩
set_option maxHeartbeats 1000000 in
theorem pad_small (w : World) : Calls Tryq.prog 78 #[.int .i64 15, .int .i64 2] w fun e w' => e = .returned (.string ⟨#[49, 53]⟩) ∧ Gr w w' := by
  go_enter Tryq.func78, Tryq.ntmps78
  go_wp2_with (first | (go_at_call 108; (with_reducible refine (itoa_small _).mono ?_); rintro e w1 ⟨rfl, hgw1⟩) | (go_at_call 112; (with_reducible refine (repeat0_c _ _).mono ?_); rintro e w2 ⟨rfl, hgw2⟩))
  go_ret
  exact ⟨by kernel_rfl, (by repeat (first | exact Gr.refl _ | refine Gr.setCell ?_ _ _ (by first | exact Nat.le_refl _ | (simp; omega) | (simp; done)) | refine Gr.grown ?_ _ _ | refine Gr.drewN ?_ _ | refine Gr.drew ?_ | refine Gr.alloc ?_ _ | refine Gr.grow ?_ _ | (refine Gr.trans ?_ (by assumption))))⟩
end Go.Proofs.YtegkbjpcgelomaaGreatDoor.Walks
end
