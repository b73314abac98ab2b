/- Walks of package closed and of its reference. -/
import Derived.Test.YtiadghpepnpbgaaFirst
import Derived.Test.YtiadghpepnpbgaaYears
import Derived.Test.YtiadghpepnpbgaaSearch
set_option linter.unusedVariables false
set_option linter.unusedSimpArgs false
namespace Go.Proofs.Ytiadghpepnpbgaa.Walks
open Go Go.RowKit Go.Sort Go.Proofs.Ytiadghpepnpbgaa.Base Go.Proofs.Ytiadghpepnpbgaa.Plain Go.Proofs.Ytiadghpepnpbgaa.Math

theorem frame_yn {y : Int} (h0 : -1 ≤ y) (h1 : y ≤ 10002) : -100 ≤ bf y ∧ bf y ≤ 130000 := by unfold bf; omega
theorem yn_lo {y : Int} (h : (3 * (ym y + 1)) % 7 < 3) : yn y = ym y + 1 := by unfold yn; rw [if_pos h]
theorem yn_hi {y : Int} (h : ¬ (3 * (ym y + 1)) % 7 < 3) : yn y = ym y := by unfold yn; rw [if_neg h]

theorem cdown_c (a b : Int) (w : World) (hb : 0 < b) (h0 : -9223372036854775808 ≤ a) (h1 : a ≤ 9223372036854775807) (hb1 : b ≤ 9223372036854775807) :
    Calls Try.prog 72 #[.int .i64 a, .int .i64 b] w fun e w' => e = .returned (.int .i64 (a / b)) ∧ Gr w w' := by
  go_enter Try.func72, Try.ntmps72
  go_wp2_with (go_at_call 50; (with_reducible refine (div_c a b _ hb h0 h1 hb1).mono ?_); rintro e w1 ⟨rfl, hg⟩)
  go_ret
  exact ⟨rfl, (by repeat (first | exact Gr.refl _ | refine Gr.setCell ?_ _ _ (by first | exact Nat.le_refl _ | (simp; omega) | (simp; done)) | refine Gr.grown ?_ _ _ | refine Gr.drewN ?_ _ | refine Gr.drew ?_ | refine Gr.alloc ?_ _ | refine Gr.grow ?_ _ | (refine Gr.trans ?_ (by assumption))))⟩
set_option maxHeartbeats 1000000 in
theorem nearly_c (y : Int) (w : World) (h0 : -1 ≤ y) (h1 : y ≤ 10002) : Calls Try.prog 63 #[.int .i64 y] w fun e w' => e = .returned (.int .i64 (yn y)) ∧ Gr w w' := by
  obtain ⟨m, hm⟩ : ∃ m, bf y = m := ⟨_, rfl⟩
  have r := frame_yn h0 h1
  rw [hm] at r
  have r0 := r.1
  have r1 := r.2
  have e0 : (235 * y - 234) / 19 = m := hm
  have ey : ym y = 29 * m + (12084 + 13753 * m) / 25920 := by unfold ym; rw [hm]
  by_cases h : (3 * (ym y + 1)) % 7 < 3
  · have E : RowKit.Hid (29 * m + (12084 + 13753 * m) / 25920 + 1 = yn y) := Lib.hid (by rw [yn_lo h, ey])
    rw [ey] at h
    clear hm ey r
    go_enter Try.func63, Try.ntmps63
    go_wp2_with (first | (go_at_call 72; (with_reducible refine (cdown_c _ 19 _ (by omega) (by omega) (by omega) (by omega)).mono ?_); rintro e w1 ⟨rfl, hg⟩) | (go_at_call 72; (with_reducible refine (cdown_c _ 25920 _ (by omega) (by omega) (by omega) (by omega)).mono ?_); rintro e w1 ⟨rfl, hg⟩) | (go_at_call 51; (with_reducible refine (mod_c _ 7 _ (by omega) (by omega) (by omega) (by omega)).mono ?_); rintro e w1 ⟨rfl, hg⟩))
    go_ret
    exact ⟨ret1 E.out, (by repeat (first | exact Gr.refl _ | refine Gr.setCell ?_ _ _ (by first | exact Nat.le_refl _ | (simp; omega) | (simp; done)) | refine Gr.grown ?_ _ _ | refine Gr.drewN ?_ _ | refine Gr.drew ?_ | refine Gr.alloc ?_ _ | refine Gr.grow ?_ _ | (refine Gr.trans ?_ (by assumption))))⟩
  · have E : RowKit.Hid (29 * m + (12084 + 13753 * m) / 25920 = yn y) := Lib.hid (by rw [yn_hi h, ey])
    rw [ey] at h
    clear hm ey r
    go_enter Try.func63, Try.ntmps63
    go_wp2_with (first | (go_at_call 72; (with_reducible refine (cdown_c _ 19 _ (by omega) (by omega) (by omega) (by omega)).mono ?_); rintro e w1 ⟨rfl, hg⟩) | (go_at_call 72; (with_reducible refine (cdown_c _ 25920 _ (by omega) (by omega) (by omega) (by omega)).mono ?_); rintro e w1 ⟨rfl, hg⟩) | (go_at_call 51; (with_reducible refine (mod_c _ 7 _ (by omega) (by omega) (by omega) (by omega)).mono ?_); rintro e w1 ⟨rfl, hg⟩))
    go_ret
    exact ⟨ret1 E.out, (by repeat (first | exact Gr.refl _ | refine Gr.setCell ?_ _ _ (by first | exact Nat.le_refl _ | (simp; omega) | (simp; done)) | refine Gr.grown ?_ _ _ | refine Gr.drewN ?_ _ | refine Gr.drew ?_ | refine Gr.alloc ?_ _ | refine Gr.grow ?_ _ | (refine Gr.trans ?_ (by assumption))))⟩
theorem cNearly_c (y : Int) (w : World) : Calls Try.prog 44 #[.int .i64 y] w fun e w' => e = .returned (.tuple #[.int .i64 (ynN y), .int .i64 (ynE y)]) ∧ Gr w w' := by
  unfold ynN ynE
  by_cases h : -1 ≤ y ∧ y ≤ 10002
  · obtain ⟨h0, h1⟩ := h
    rw [ynR_in h0 h1]
    go_enter Try.func44, Try.ntmps44
    go_wp2_with (go_at_call 63; (with_reducible refine (nearly_c y _ h0 h1).mono ?_); rintro e w1 ⟨rfl, hg⟩)
    go_ret2
    exact ⟨rfl, (by repeat (first | exact Gr.refl _ | refine Gr.setCell ?_ _ _ (by first | exact Nat.le_refl _ | (simp; omega) | (simp; done)) | refine Gr.grown ?_ _ _ | refine Gr.drewN ?_ _ | refine Gr.drew ?_ | refine Gr.alloc ?_ _ | refine Gr.grow ?_ _ | (refine Gr.trans ?_ (by assumption))))⟩
  · rw [ynR_out (by omega)]
    by_cases g : y < -1
    · clear h
      go_enter Try.func44, Try.ntmps44
      go_wp2
      go_ret2
      exact ⟨rfl, (by repeat (first | exact Gr.refl _ | refine Gr.setCell ?_ _ _ (by first | exact Nat.le_refl _ | (simp; omega) | (simp; done)) | refine Gr.grown ?_ _ _ | refine Gr.drewN ?_ _ | refine Gr.drew ?_ | refine Gr.alloc ?_ _ | refine Gr.grow ?_ _ | (refine Gr.trans ?_ (by assumption))))⟩
    · have g2 : 10002 < y := by omega
      clear h
      go_enter Try.func44, Try.ntmps44
      go_wp2
      go_ret2
      exact ⟨rfl, (by repeat (first | exact Gr.refl _ | refine Gr.setCell ?_ _ _ (by first | exact Nat.le_refl _ | (simp; omega) | (simp; done)) | refine Gr.grown ?_ _ _ | refine Gr.drewN ?_ _ | refine Gr.drew ?_ | refine Gr.alloc ?_ _ | refine Gr.grow ?_ _ | (refine Gr.trans ?_ (by assumption))))⟩
set_option maxHeartbeats 1000000 in
theorem cFirst_c (y : Int) (w : World) : Calls Try.prog 40 #[.int .i64 y] w fun e w' => e = .returned (.tuple #[.int .i64 (fyN y), .int .i64 (yE y)]) ∧ Gr w w' := by
  by_cases h : 0 ≤ y ∧ y ≤ 10001
  · obtain ⟨h0, h1⟩ := h
    rw [fyN_in h0 h1, yE_in h0 h1, ← cf_fy h0 h1]
    obtain ⟨a, ha⟩ : ∃ a, yn (y - 1) = a := ⟨_, rfl⟩
    obtain ⟨b, hb⟩ : ∃ a, yn y = a := ⟨_, rfl⟩
    obtain ⟨c, hc⟩ : ∃ a, yn (y + 1) = a := ⟨_, rfl⟩
    have ra := yn_range (y := y - 1) (by omega) (by omega)
    have rb := yn_range (y := y) (by omega) (by omega)
    have rc := yn_range (y := y + 1) (by omega) (by omega)
    rw [ha] at ra; rw [hb] at rb; rw [hc] at rc
    obtain ⟨ra0, ra1⟩ := ra
    obtain ⟨rb0, rb1⟩ := rb
    obtain ⟨rc0, rc1⟩ := rc
    by_cases g : c - b = 356
    · have gb : (c - b == 356) = true := beq_iff_eq.2 g
      have E : RowKit.Hid (b + 2 + -1373427 = cf y) := Lib.hid (by unfold cf; rw [hb, hc, if_pos g]; omega)
      clear g
      go_enter Try.func40, Try.ntmps40
      go_wp2_with (first | (go_at_call 63; (with_reducible refine (nearly_c y _ (by omega) (by omega)).mono ?_); rintro e w1 ⟨rfl, hg⟩) | (go_at_call 63; (with_reducible refine (nearly_c (y + 1) _ (by omega) (by omega)).mono ?_); rintro e w1 ⟨rfl, hg⟩))
      go_ret2
      exact ⟨ret2 E.out rfl, (by repeat (first | exact Gr.refl _ | refine Gr.setCell ?_ _ _ (by first | exact Nat.le_refl _ | (simp; omega) | (simp; done)) | refine Gr.grown ?_ _ _ | refine Gr.drewN ?_ _ | refine Gr.drew ?_ | refine Gr.alloc ?_ _ | refine Gr.grow ?_ _ | (refine Gr.trans ?_ (by assumption))))⟩
    · have gb : (c - b == 356) = false := beq_eq_false_iff_ne.2 g
      by_cases k : b - a = 382
      · have kb : (b - a == 382) = true := beq_iff_eq.2 k
        have E : RowKit.Hid (b + 1 + -1373427 = cf y) := Lib.hid (by unfold cf; rw [hb, hc, ha, if_neg g, if_pos k]; omega)
        clear g k
        go_enter Try.func40, Try.ntmps40
        go_wp2_with (first | (go_at_call 63; (with_reducible refine (nearly_c y _ (by omega) (by omega)).mono ?_); rintro e w1 ⟨rfl, hg⟩) | (go_at_call 63; (with_reducible refine (nearly_c (y + 1) _ (by omega) (by omega)).mono ?_); rintro e w1 ⟨rfl, hg⟩) | (go_at_call 63; (with_reducible refine (nearly_c (y - 1) _ (by omega) (by omega)).mono ?_); rintro e w1 ⟨rfl, hg⟩))
        go_ret2
        exact ⟨ret2 E.out rfl, (by repeat (first | exact Gr.refl _ | refine Gr.setCell ?_ _ _ (by first | exact Nat.le_refl _ | (simp; omega) | (simp; done)) | refine Gr.grown ?_ _ _ | refine Gr.drewN ?_ _ | refine Gr.drew ?_ | refine Gr.alloc ?_ _ | refine Gr.grow ?_ _ | (refine Gr.trans ?_ (by assumption))))⟩
      · have kb : (b - a == 382) = false := beq_eq_false_iff_ne.2 k
        have E : RowKit.Hid (b + -1373427 = cf y) := Lib.hid (by unfold cf; rw [hb, hc, ha, if_neg g, if_neg k]; omega)
        clear g k
        go_enter Try.func40, Try.ntmps40
        go_wp2_with (first | (go_at_call 63; (with_reducible refine (nearly_c y _ (by omega) (by omega)).mono ?_); rintro e w1 ⟨rfl, hg⟩) | (go_at_call 63; (with_reducible refine (nearly_c (y + 1) _ (by omega) (by omega)).mono ?_); rintro e w1 ⟨rfl, hg⟩) | (go_at_call 63; (with_reducible refine (nearly_c (y - 1) _ (by omega) (by omega)).mono ?_); rintro e w1 ⟨rfl, hg⟩))
        go_ret2
        exact ⟨ret2 E.out rfl, (by repeat (first | exact Gr.refl _ | refine Gr.setCell ?_ _ _ (by first | exact Nat.le_refl _ | (simp; omega) | (simp; done)) | refine Gr.grown ?_ _ _ | refine Gr.drewN ?_ _ | refine Gr.drew ?_ | refine Gr.alloc ?_ _ | refine Gr.grow ?_ _ | (refine Gr.trans ?_ (by assumption))))⟩
  · have h' : y < 0 ∨ 10001 < y := by omega
    rw [fyN_out h', yE_out h']
    by_cases g : y < 0
    · clear h h'
      go_enter Try.func40, Try.ntmps40
      go_wp2
      go_ret2
      exact ⟨rfl, (by repeat (first | exact Gr.refl _ | refine Gr.setCell ?_ _ _ (by first | exact Nat.le_refl _ | (simp; omega) | (simp; done)) | refine Gr.grown ?_ _ _ | refine Gr.drewN ?_ _ | refine Gr.drew ?_ | refine Gr.alloc ?_ _ | refine Gr.grow ?_ _ | (refine Gr.trans ?_ (by assumption))))⟩
    · have g2 : 10001 < y := by omega
      clear h h'
      go_enter Try.func40, Try.ntmps40
      go_wp2
      go_ret2
      exact ⟨rfl, (by repeat (first | exact Gr.refl _ | refine Gr.setCell ?_ _ _ (by first | exact Nat.le_refl _ | (simp; omega) | (simp; done)) | refine Gr.grown ?_ _ _ | refine Gr.drewN ?_ _ | refine Gr.drew ?_ | refine Gr.alloc ?_ _ | refine Gr.grow ?_ _ | (refine Gr.trans ?_ (by assumption))))⟩

/-! ### years of days -/
theorem begins_c (y : Int) (w : World) : Calls Try.prog 66 #[.int .i64 y] w fun e w' => e = .returned (.int .i64 (fyN y)) ∧ Gr w w' := by
  go_enter Try.func66, Try.ntmps66
  go_wp2_with (go_at_call 34; (with_reducible refine (first_c y _).mono ?_); rintro e w1 ⟨rfl, hg⟩)
  go_ret
  exact ⟨rfl, (by repeat (first | exact Gr.refl _ | refine Gr.setCell ?_ _ _ (by first | exact Nat.le_refl _ | (simp; omega) | (simp; done)) | refine Gr.grown ?_ _ _ | refine Gr.drewN ?_ _ | refine Gr.drew ?_ | refine Gr.alloc ?_ _ | refine Gr.grow ?_ _ | (refine Gr.trans ?_ (by assumption))))⟩
theorem last_c (w : World) : Calls Try.prog 48 #[] w fun e w' => e = .returned (.int .i64 2278650) ∧ Gr w w' := by
  have E : RowKit.Hid (fyN 10000 = 2278651) := Lib.hid (by rw [fyN_in (by omega) (by omega)]; have := lastD_is; unfold lastD at this; omega)
  go_enter Try.func48, Try.ntmps48
  go_wp2_with (go_at_call 66; (with_reducible refine (begins_c 10000 _).mono ?_); rintro e w1 ⟨rfl, hg⟩; rw [E.out])
  go_ret
  exact ⟨rfl, (by repeat (first | exact Gr.refl _ | refine Gr.setCell ?_ _ _ (by first | exact Nat.le_refl _ | (simp; omega) | (simp; done)) | refine Gr.grown ?_ _ _ | refine Gr.drewN ?_ _ | refine Gr.drew ?_ | refine Gr.alloc ?_ _ | refine Gr.grow ?_ _ | (refine Gr.trans ?_ (by assumption))))⟩

end Go.Proofs.Ytiadghpepnpbgaa.Walks
