/- Walks of the reference of layer 6: years of days, by halves. -/
import Derived.Test.YtiadghpepnpbgaaYear
set_option linter.unusedVariables false
set_option linter.unusedSimpArgs false
namespace Go.Proofs.Ytiadghpepnpbgaa.Walks
open Go Go.RowKit Go.Sort Go.Proofs.Ytiadghpepnpbgaa.Base Go.Proofs.Ytiadghpepnpbgaa.Plain Go.Proofs.Ytiadghpepnpbgaa.Math

theorem rlast_c (w : World) : Calls Try.prog 42 #[] w fun e w' => e = .returned (.int .i64 2278650) ∧ Gr w w' := by
  have E : RowKit.Hid (fyN 10000 = 2278651) := Lib.hid (by rw [fyN_in (by omega) (by omega)]; have := lastD_is; unfold lastD at this; omega)
  go_enter Try.func42, Try.ntmps42
  go_wp2_with (go_at_call 35; (with_reducible refine (rfirst_c 10000 _).mono ?_); rintro e w1 ⟨rfl, hg⟩; rw [E.out])
  go_ret
  exact ⟨rfl, (by repeat (first | exact Gr.refl _ | refine Gr.setCell ?_ _ _ (by first | exact Nat.le_refl _ | (simp; omega) | (simp; done)) | refine Gr.grown ?_ _ _ | refine Gr.drewN ?_ _ | refine Gr.drew ?_ | refine Gr.alloc ?_ _ | refine Gr.grow ?_ _ | (refine Gr.trans ?_ (by assumption))))⟩
theorem rfirst_v (y : Int) (w : World) (h0 : 0 ≤ y) (h1 : y ≤ 10001) : Calls Try.prog 35 #[.int .i64 y] w fun e w' => e = .returned (.tuple #[.int .i64 (fy y), .int .i64 0]) ∧ Gr w w' := rfirst_in y w h0 h1
theorem year_between {Y m n : Int} (y0 : 1 ≤ Y) (y1 : Y ≤ 9999) (h0 : fy Y ≤ n) (h1 : n < fy (Y + 1)) (m0 : 0 ≤ m) (m1 : m ≤ 10000) : decide (fy m ≤ n) = decide (m ≤ Y) := by
  by_cases c : m ≤ Y
  · have := fy_mono (a := m) (b := Y) (by omega) (by omega) (by omega)
    rw [decide_eq_true c, decide_eq_true (by omega)]
  · have := fy_mono (a := Y + 1) (b := m) (by omega) (by omega) (by omega)
    rw [decide_eq_false c, decide_eq_false (by omega)]
set_option maxHeartbeats 1000000 in
theorem ryear_c (n Y : Int) (w : World) (y0 : 1 ≤ Y) (y1 : Y ≤ 9999) (h0 : fy Y ≤ n) (h1 : n < fy (Y + 1)) :
    Calls Try.prog 47 #[.int .i64 n] w fun e w' => e = .returned (.tuple #[.int .i64 Y, .int .i64 0]) ∧ Gr w w' := by
  have n0 : -1373427 ≤ n := by have := fy_mono (a := 1) (b := Y) (by omega) (by omega) (by omega); have := fy_1; omega
  have n1 : n ≤ 2278650 := by have := fy_mono (a := Y + 1) (b := 10000) (by omega) (by omega) (by omega); have := lastD_is; unfold lastD at this; omega
  have H1 := Lib.hid (fun m => year_between (m := m) y0 y1 h0 h1)
  clear h0 h1
  go_enter Try.func47, Try.ntmps47
  go_wp2_with (go_at_call 42; (with_reducible refine (rlast_c _).mono ?_); rintro e w1 ⟨rfl, hg⟩)
  go_loopg [4, 5] 10000 (fun kx s4 s5 wr => ∃ (lo hi : Int), s4 = .int .i64 lo ∧ s5 = .int .i64 hi ∧ 1 ≤ lo ∧ lo ≤ Y ∧ Y < hi ∧ hi ≤ 10000 ∧ hi - lo ≤ kx ∧ Gr w wr)
  case atStart => exact ⟨1, 10000, rfl, rfl, by omega, by omega, by omega, by omega, by omega, (by repeat (first | exact Gr.refl _ | refine Gr.setCell ?_ _ _ (by first | exact Nat.le_refl _ | (simp; omega) | (simp; done)) | refine Gr.grown ?_ _ _ | refine Gr.drewN ?_ _ | refine Gr.drew ?_ | refine Gr.alloc ?_ _ | refine Gr.grow ?_ _ | (refine Gr.trans ?_ (by assumption))))⟩
  case round =>
    obtain ⟨lo, hi, rfl, rfl, l1, l2, l3, l4, l5, hg0⟩ := hrel
    by_cases hlt : 1 < hi - lo
    · have hm := H1.out ((lo + hi) / 2) (by omega) (by omega)
      by_cases c : (lo + hi) / 2 ≤ Y
      · rw [decide_eq_true c] at hm
        go_wp2_with (go_at_call 35; (with_reducible refine (rfirst_v _ _ (by omega) (by omega)).mono ?_); rintro e w1 ⟨rfl, hg⟩)
        go_roundg (hi - (lo + hi) / 2).toNat
        case measure => omega
        case rel => exact ⟨(lo + hi) / 2, hi, rfl, rfl, by omega, c, l3, l4, by omega, hg0.trans hg⟩
      · rw [decide_eq_false c] at hm
        go_wp2_with (go_at_call 35; (with_reducible refine (rfirst_v _ _ (by omega) (by omega)).mono ?_); rintro e w1 ⟨rfl, hg⟩)
        go_roundg ((lo + hi) / 2 - lo).toNat
        case measure => omega
        case rel => exact ⟨lo, (lo + hi) / 2, rfl, rfl, by omega, l2, by omega, by omega, by omega, hg0.trans hg⟩
    · obtain rfl : lo = Y := by omega
      go_wp2
      go_ret2
      exact ⟨rfl, hg0⟩
theorem ryear_out (n : Int) (w : World) (h : n < -1373427 ∨ 2278650 < n) :
    Calls Try.prog 47 #[.int .i64 n] w fun e w' => e = .returned (.tuple #[.int .i64 0, .int .i64 2]) ∧ Gr w w' := by
  by_cases g : n < -1373427
  · clear h
    go_enter Try.func47, Try.ntmps47
    go_wp2
    go_ret2
    exact ⟨rfl, (by repeat (first | exact Gr.refl _ | refine Gr.setCell ?_ _ _ (by first | exact Nat.le_refl _ | (simp; omega) | (simp; done)) | refine Gr.grown ?_ _ _ | refine Gr.drewN ?_ _ | refine Gr.drew ?_ | refine Gr.alloc ?_ _ | refine Gr.grow ?_ _ | (refine Gr.trans ?_ (by assumption))))⟩
  · have g2 : 2278650 < n := by omega
    clear h
    go_enter Try.func47, Try.ntmps47
    go_wp2_with (go_at_call 42; (with_reducible refine (rlast_c _).mono ?_); rintro e w1 ⟨rfl, hg⟩)
    go_ret2
    exact ⟨rfl, (by repeat (first | exact Gr.refl _ | refine Gr.setCell ?_ _ _ (by first | exact Nat.le_refl _ | (simp; omega) | (simp; done)) | refine Gr.grown ?_ _ _ | refine Gr.drewN ?_ _ | refine Gr.drew ?_ | refine Gr.alloc ?_ _ | refine Gr.grow ?_ _ | (refine Gr.trans ?_ (by assumption))))⟩
theorem three_up (X : Int) : 3 * (X + 1) = 3 * X + 3 := by omega
set_option maxHeartbeats 1000000 in
theorem rNearly_c (y : Int) (w : World) : Calls Try.prog 45 #[.int .i64 y] w fun e w' => e = .returned (.tuple #[.int .i64 (ynN y), .int .i64 (ynE y)]) ∧ Gr w w' := by
  unfold ynN ynE
  by_cases hh : -1 ≤ y ∧ y ≤ 10002
  · obtain ⟨h0, h1⟩ := hh
    rw [ynR_in h0 h1]
    obtain ⟨m, hm⟩ : ∃ m, bf y = m := ⟨_, rfl⟩
    have r := frame_yn h0 h1
    rw [hm] at r
    have r0 := r.1
    have r1 := r.2
    have e0 : (235 * y - 234) / 19 = m := hm
    have ey : ym y = 29 * m + (12084 + 13753 * m) / 25920 := by unfold ym; rw [hm]
    by_cases h : (3 * (ym y + 1)) % 7 < 3
    · have E : RowKit.Hid (29 * m + (12084 + 13753 * m) / 25920 + 1 = yn y) := Lib.hid (by rw [yn_lo h, ey])
      rw [ey] at h
      have h' : (3 * (29 * m + (12084 + 13753 * m) / 25920) + 3) % 7 < 3 := by rw [three_up] at h; exact h
      clear hm ey r h
      go_enter Try.func45, Try.ntmps45
      go_wp2_with (first | (go_at_call 55; (with_reducible refine (rdown_c _ 19 _ (by omega) (by omega) (by omega) (by omega)).mono ?_); rintro e w1 ⟨rfl, hg⟩) | (go_at_call 55; (with_reducible refine (rdown_c _ 25920 _ (by omega) (by omega) (by omega) (by omega)).mono ?_); rintro e w1 ⟨rfl, hg⟩) | (go_at_call 56; (with_reducible refine (rleft_c _ 7 _ (by omega) (by omega) (by omega) (by omega)).mono ?_); rintro e w1 ⟨rfl, hg⟩))
      go_ret2
      exact ⟨ret2 E.out rfl, (by repeat (first | exact Gr.refl _ | refine Gr.setCell ?_ _ _ (by first | exact Nat.le_refl _ | (simp; omega) | (simp; done)) | refine Gr.grown ?_ _ _ | refine Gr.drewN ?_ _ | refine Gr.drew ?_ | refine Gr.alloc ?_ _ | refine Gr.grow ?_ _ | (refine Gr.trans ?_ (by assumption))))⟩
    · have E : RowKit.Hid (29 * m + (12084 + 13753 * m) / 25920 = yn y) := Lib.hid (by rw [yn_hi h, ey])
      rw [ey] at h
      have h' : ¬ (3 * (29 * m + (12084 + 13753 * m) / 25920) + 3) % 7 < 3 := by rw [three_up] at h; exact h
      clear hm ey r h
      go_enter Try.func45, Try.ntmps45
      go_wp2_with (first | (go_at_call 55; (with_reducible refine (rdown_c _ 19 _ (by omega) (by omega) (by omega) (by omega)).mono ?_); rintro e w1 ⟨rfl, hg⟩) | (go_at_call 55; (with_reducible refine (rdown_c _ 25920 _ (by omega) (by omega) (by omega) (by omega)).mono ?_); rintro e w1 ⟨rfl, hg⟩) | (go_at_call 56; (with_reducible refine (rleft_c _ 7 _ (by omega) (by omega) (by omega) (by omega)).mono ?_); rintro e w1 ⟨rfl, hg⟩))
      go_ret2
      exact ⟨ret2 E.out rfl, (by repeat (first | exact Gr.refl _ | refine Gr.setCell ?_ _ _ (by first | exact Nat.le_refl _ | (simp; omega) | (simp; done)) | refine Gr.grown ?_ _ _ | refine Gr.drewN ?_ _ | refine Gr.drew ?_ | refine Gr.alloc ?_ _ | refine Gr.grow ?_ _ | (refine Gr.trans ?_ (by assumption))))⟩
  · rw [ynR_out (by omega)]
    by_cases g : y < -1
    · clear hh
      go_enter Try.func45, Try.ntmps45
      go_wp2
      go_ret2
      exact ⟨rfl, (by repeat (first | exact Gr.refl _ | refine Gr.setCell ?_ _ _ (by first | exact Nat.le_refl _ | (simp; omega) | (simp; done)) | refine Gr.grown ?_ _ _ | refine Gr.drewN ?_ _ | refine Gr.drew ?_ | refine Gr.alloc ?_ _ | refine Gr.grow ?_ _ | (refine Gr.trans ?_ (by assumption))))⟩
    · have g2 : 10002 < y := by omega
      clear hh
      go_enter Try.func45, Try.ntmps45
      go_wp2
      go_ret2
      exact ⟨rfl, (by repeat (first | exact Gr.refl _ | refine Gr.setCell ?_ _ _ (by first | exact Nat.le_refl _ | (simp; omega) | (simp; done)) | refine Gr.grown ?_ _ _ | refine Gr.drewN ?_ _ | refine Gr.drew ?_ | refine Gr.alloc ?_ _ | refine Gr.grow ?_ _ | (refine Gr.trans ?_ (by assumption))))⟩
theorem rNearly_v (y a : Int) (w : World) (h0 : -1 ≤ y) (h1 : y ≤ 10002) (h : yn y = a) : Calls Try.prog 45 #[.int .i64 y] w fun e w' => e = .returned (.tuple #[.int .i64 a, .int .i64 0]) ∧ Gr w w' := by
  have := rNearly_c y w
  unfold ynN ynE at this
  rwa [ynR_in h0 h1, h] at this
set_option maxHeartbeats 1000000 in
theorem r6First_c (y : Int) (w : World) : Calls Try.prog 46 #[.int .i64 y] w fun e w' => e = .returned (.tuple #[.int .i64 (fyN y), .int .i64 (yE y)]) ∧ Gr w w' := by
  by_cases h : 0 ≤ y ∧ y ≤ 10001
  · obtain ⟨h0, h1⟩ := h
    rw [fyN_in h0 h1, yE_in h0 h1, ← cf_fy h0 h1]
    obtain ⟨a, ha⟩ : ∃ a, yn (y - 1) = a := ⟨_, rfl⟩
    obtain ⟨b, hb⟩ : ∃ a, yn y = a := ⟨_, rfl⟩
    obtain ⟨c, hc⟩ : ∃ a, yn (y + 1) = a := ⟨_, rfl⟩
    have ra := yn_range (y := y - 1) (by omega) (by omega)
    have rb := yn_range (y := y) (by omega) (by omega)
    have rc := yn_range (y := y + 1) (by omega) (by omega)
    rw [ha] at ra; rw [hb] at rb; rw [hc] at rc
    obtain ⟨ra0, ra1⟩ := ra
    obtain ⟨rb0, rb1⟩ := rb
    obtain ⟨rc0, rc1⟩ := rc
    have HA := Lib.hid ha
    have HB := Lib.hid hb
    have HC := Lib.hid hc
    by_cases g : c - b = 356
    · have gb : (c - b == 356) = true := beq_iff_eq.2 g
      have E : RowKit.Hid (b + 2 - 1373427 = cf y) := Lib.hid (by unfold cf; rw [hb, hc, if_pos g])
      clear g ha hb hc
      go_enter Try.func46, Try.ntmps46
      go_wp2_with (first | (go_at_call 45; (with_reducible refine (rNearly_v (y - 1) a _ (by omega) (by omega) HA.out).mono ?_); rintro e w1 ⟨rfl, hg⟩) | (go_at_call 45; (with_reducible refine (rNearly_v y b _ (by omega) (by omega) HB.out).mono ?_); rintro e w1 ⟨rfl, hg⟩) | (go_at_call 45; (with_reducible refine (rNearly_v (y + 1) c _ (by omega) (by omega) HC.out).mono ?_); rintro e w1 ⟨rfl, hg⟩))
      go_ret2
      exact ⟨ret2 E.out rfl, (by repeat (first | exact Gr.refl _ | refine Gr.setCell ?_ _ _ (by first | exact Nat.le_refl _ | (simp; omega) | (simp; done)) | refine Gr.grown ?_ _ _ | refine Gr.drewN ?_ _ | refine Gr.drew ?_ | refine Gr.alloc ?_ _ | refine Gr.grow ?_ _ | (refine Gr.trans ?_ (by assumption))))⟩
    · have gb : (c - b == 356) = false := beq_eq_false_iff_ne.2 g
      by_cases k : b - a = 382
      · have kb : (b - a == 382) = true := beq_iff_eq.2 k
        have E : RowKit.Hid (b + 1 - 1373427 = cf y) := Lib.hid (by unfold cf; rw [hb, hc, ha, if_neg g, if_pos k])
        clear g k ha hb hc
        go_enter Try.func46, Try.ntmps46
        go_wp2_with (first | (go_at_call 45; (with_reducible refine (rNearly_v (y - 1) a _ (by omega) (by omega) HA.out).mono ?_); rintro e w1 ⟨rfl, hg⟩) | (go_at_call 45; (with_reducible refine (rNearly_v y b _ (by omega) (by omega) HB.out).mono ?_); rintro e w1 ⟨rfl, hg⟩) | (go_at_call 45; (with_reducible refine (rNearly_v (y + 1) c _ (by omega) (by omega) HC.out).mono ?_); rintro e w1 ⟨rfl, hg⟩))
        go_ret2
        exact ⟨ret2 E.out rfl, (by repeat (first | exact Gr.refl _ | refine Gr.setCell ?_ _ _ (by first | exact Nat.le_refl _ | (simp; omega) | (simp; done)) | refine Gr.grown ?_ _ _ | refine Gr.drewN ?_ _ | refine Gr.drew ?_ | refine Gr.alloc ?_ _ | refine Gr.grow ?_ _ | (refine Gr.trans ?_ (by assumption))))⟩
      · have kb : (b - a == 382) = false := beq_eq_false_iff_ne.2 k
        have E : RowKit.Hid (b - 1373427 = cf y) := Lib.hid (by unfold cf; rw [hb, hc, ha, if_neg g, if_neg k])
        clear g k ha hb hc
        go_enter Try.func46, Try.ntmps46
        go_wp2_with (first | (go_at_call 45; (with_reducible refine (rNearly_v (y - 1) a _ (by omega) (by omega) HA.out).mono ?_); rintro e w1 ⟨rfl, hg⟩) | (go_at_call 45; (with_reducible refine (rNearly_v y b _ (by omega) (by omega) HB.out).mono ?_); rintro e w1 ⟨rfl, hg⟩) | (go_at_call 45; (with_reducible refine (rNearly_v (y + 1) c _ (by omega) (by omega) HC.out).mono ?_); rintro e w1 ⟨rfl, hg⟩))
        go_ret2
        exact ⟨ret2 E.out rfl, (by repeat (first | exact Gr.refl _ | refine Gr.setCell ?_ _ _ (by first | exact Nat.le_refl _ | (simp; omega) | (simp; done)) | refine Gr.grown ?_ _ _ | refine Gr.drewN ?_ _ | refine Gr.drew ?_ | refine Gr.alloc ?_ _ | refine Gr.grow ?_ _ | (refine Gr.trans ?_ (by assumption))))⟩
  · have h' : y < 0 ∨ 10001 < y := by omega
    rw [fyN_out h', yE_out h']
    by_cases g : y < 0
    · clear h h'
      go_enter Try.func46, Try.ntmps46
      go_wp2
      go_ret2
      exact ⟨rfl, (by repeat (first | exact Gr.refl _ | refine Gr.setCell ?_ _ _ (by first | exact Nat.le_refl _ | (simp; omega) | (simp; done)) | refine Gr.grown ?_ _ _ | refine Gr.drewN ?_ _ | refine Gr.drew ?_ | refine Gr.alloc ?_ _ | refine Gr.grow ?_ _ | (refine Gr.trans ?_ (by assumption))))⟩
    · have g2 : 10001 < y := by omega
      clear h h'
      go_enter Try.func46, Try.ntmps46
      go_wp2
      go_ret2
      exact ⟨rfl, (by repeat (first | exact Gr.refl _ | refine Gr.setCell ?_ _ _ (by first | exact Nat.le_refl _ | (simp; omega) | (simp; done)) | refine Gr.grown ?_ _ _ | refine Gr.drewN ?_ _ | refine Gr.drew ?_ | refine Gr.alloc ?_ _ | refine Gr.grow ?_ _ | (refine Gr.trans ?_ (by assumption))))⟩

end Go.Proofs.Ytiadghpepnpbgaa.Walks
