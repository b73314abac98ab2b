/- Walks of greg.ToDay: a date's day. -/
import Derived.Test.YtgjgkldkdmohjaaGreg2
set_option linter.unusedVariables false
set_option linter.unusedSimpArgs false
namespace Go.Proofs.Ytgjgkldkdmohjaa.Walks
open Go Go.RowKit Go.Sort Go.Proofs.Ytgjgkldkdmohjaa.Base Go.Proofs.Ytgjgkldkdmohjaa.Plain Go.Proofs.Ytgjgkldkdmohjaa.Math

/-- Why a date has no day, and its day. -/
def tE (y m d : Int) : Int := if y < -4000 ∨ 7000 < y then 2 else if m < 1 ∨ 12 < m then 3 else if d < 1 ∨ gmd (gl y) m < d then 4 else if inD (gd y m.toNat d) = true then 0 else 2
def tN (y m d : Int) : Int := if tE y m d = 0 then gd y m.toNat d else 0

theorem tE_y {y m d : Int} (h : y < -4000 ∨ 7000 < y) : tE y m d = 2 := by unfold tE; rw [if_pos h]
theorem tE_m {y m d : Int} (h : ¬ (y < -4000 ∨ 7000 < y)) (g : m < 1 ∨ 12 < m) : tE y m d = 3 := by unfold tE; rw [if_neg h, if_pos g]
theorem tE_d {y m d : Int} (h : ¬ (y < -4000 ∨ 7000 < y)) (g : ¬ (m < 1 ∨ 12 < m)) (k : d < 1 ∨ gmd (gl y) m < d) : tE y m d = 4 := by unfold tE; rw [if_neg h, if_neg g, if_pos k]
theorem tE_n {y m d : Int} (h : ¬ (y < -4000 ∨ 7000 < y)) (g : ¬ (m < 1 ∨ 12 < m)) (k : ¬ (d < 1 ∨ gmd (gl y) m < d)) : tE y m d = if inD (gd y m.toNat d) = true then 0 else 2 := by unfold tE; rw [if_neg h, if_neg g, if_neg k]
theorem tN_no {y m d : Int} (h : tE y m d ≠ 0) : tN y m d = 0 := by unfold tN; rw [if_neg h]

set_option maxHeartbeats 4000000 in
theorem gto_ok (y d : Int) (M : Nat) (b : Bool) (G B : Int) (w : World) (h0 : -4000 ≤ y) (h1 : y ≤ 7000) (m0 : 1 ≤ M) (m1 : M ≤ 12) (d0 : 1 ≤ d) (d1 : d ≤ gmd (gl y) (M : Int)) (hB : gb y = B) (hG : gd y M d = G) (hb : inD G = b) :
    Calls Try.prog 11 #[.agg #[.int .i64 y, .int .i64 (M : Int), .int .i64 d]] w fun e w' => e = .returned (.tuple #[.int .i64 (if b = true then G else 0), .int .i64 (if b = true then 0 else 2)]) ∧ Gr w w' := by
  have dr := gmd_12 (gl y) (M : Int) (by omega) (by omega)
  have B0 : -3000000 ≤ B ∧ B ≤ 3000000 := by unfold gb at hB; omega
  obtain ⟨B0, B1⟩ := B0
  have CB : RowKit.Hid (∀ w, Calls Try.prog 21 #[.int .i64 y] w fun e w' => e = .returned (.int .i64 B) ∧ Gr w w') := Lib.hid fun w => by
    have := gbegins_c y w (by omega) (by omega); rwa [hB] at this
  have HG : RowKit.Hid (B + d + gc (gl y) M = G) := Lib.hid (by rw [← hG]; unfold gd; omega)
  have HGC : RowKit.Hid (∀ k : Nat, k ≤ M → 0 ≤ gc (gl y) k ∧ gc (gl y) k ≤ 366) := Lib.hid fun k hk => gc_le _ k (by omega)
  have CI : RowKit.Hid (∀ w, Calls Try.prog 19 #[.int .i64 G] w fun e w' => e = .returned (.bool b) ∧ Gr w w') := Lib.hid fun w => by
    have := gin_c G w; rwa [hb] at this
  obtain ⟨T, hT⟩ : ∃ T, gmd (gl y) (M : Int) = T := ⟨_, rfl⟩
  have CD : RowKit.Hid (∀ w, Calls Try.prog 10 #[.int .i64 y, .int .i64 (M : Int)] w fun e w' => e = .returned (.int .i64 T) ∧ w' = w) := Lib.hid fun w => by
    have := gdays_s y (M : Int) w; rwa [hT] at this
  rw [hT] at d1 dr
  have dr0 := dr.1
  have dr1 := dr.2
  have tz : (T == 0) = false := beq_eq_false_iff_ne.2 (by omega)
  clear hB hG hb hT dr
  go_enter Try.func11, Try.ntmps11
  go_wp2_with (go_at_call 10; (with_reducible refine (CD.out _).mono ?_); rintro e w1 ⟨rfl, rfl⟩)
  go_quiet ((go_at_call 10; exact Calls.quiet_of_same (CD.out _)))
  go_wp2
  have c0 : ((w.alloc (.cells #[.int .i64 y, .int .i64 (M : Int), .int .i64 d] 23)).drewN nq).cell? ⟨w.heap.size, 0, none⟩ = some (.int .i64 y) := by simp [go_sem]
  have c1 : ((w.alloc (.cells #[.int .i64 y, .int .i64 (M : Int), .int .i64 d] 23)).drewN nq).cell? ⟨w.heap.size, 1, none⟩ = some (.int .i64 (M : Int)) := by simp [go_sem]
  have c2 : ((w.alloc (.cells #[.int .i64 y, .int .i64 (M : Int), .int .i64 d] 23)).drewN nq).cell? ⟨w.heap.size, 2, none⟩ = some (.int .i64 d) := by simp [go_sem]
  have hg : Gr w ((w.alloc (.cells #[.int .i64 y, .int .i64 (M : Int), .int .i64 d] 23)).drewN nq) := (by repeat (first | exact Gr.refl _ | refine Gr.setCell ?_ _ _ (by first | exact Nat.le_refl _ | (simp; omega) | (simp; done)) | refine Gr.grown ?_ _ _ | refine Gr.drewN ?_ _ | refine Gr.drew ?_ | refine Gr.alloc ?_ _ | refine Gr.grow ?_ _ | (refine Gr.trans ?_ (by assumption))))
  have hlt : w.heap.size < ((w.alloc (.cells #[.int .i64 y, .int .i64 (M : Int), .int .i64 d] 23)).drewN nq).heap.size := ((Gr.refl _).drewN nq).lt (by simp)
  generalize (w.alloc (.cells #[.int .i64 y, .int .i64 (M : Int), .int .i64 d] 23)).drewN nq = W0 at *
  have k0 := gcell_in hlt c0
  have k1 := gcell_in hlt c1
  have k2 := gcell_in hlt c2
  (refine wp_region_quiet_grown mixed (by kernel_rfl) ?_; (repeat (first | go_big_quiet_step ((first | (go_at_call 21; exact gr_of (CB.out _)))) | quiet_step ((first | (go_at_call 21; exact gr_of (CB.out _)))))); refine wpQuiet_nil ?_; intro _ hw'; obtain ⟨⟨nq, osq⟩, hw''⟩ := hw'; subst hw'')
  replace c0 := k0 nq osq
  replace c1 := k1 nq osq
  replace hlt : w.heap.size < (grow (W0.drewN nq) osq).heap.size := ((Gr.refl W0).grown nq osq).lt hlt
  replace hg := hg.grown nq osq
  clear k0 k1 k2 c2
  generalize grow (W0.drewN nq) osq = W1 at *
  go_wp2
  go_loopg [4, 44] M (fun kx s4 s44 wr => ∃ k : Nat, k ≤ M ∧ M - k ≤ kx ∧ s4 = .int .i64 (B + d + gc (gl y) k) ∧ s44 = .int .i64 (k : Int) ∧ wr.cell? ⟨w.heap.size, 0, none⟩ = some (.int .i64 y) ∧ Gr w wr)
  case atStart => exact ⟨0, by omega, by omega, by simp [gc], rfl, c0, hg⟩
  case round =>
    obtain ⟨k, hk, hm, rfl, rfl, c0, hg⟩ := hrel
    clear c1
    have hgc := HGC.out k hk
    have hgc0 := hgc.1
    have hgc1 := hgc.2
    clear hgc
    by_cases e : k < M
    · have dk := gmd_range (gl y) (k : Int)
      have dk0 := dk.1
      have dk1 := dk.2
      clear dk
      go_wp2_with (go_at_call 10; (with_reducible refine (gdays_s y (k : Int) _).mono ?_); rintro e w1 ⟨rfl, rfl⟩)
      go_roundg (M - (k + 1))
      case measure => omega
      case rel => exact ⟨k + 1, by omega, Nat.le_refl _, by show _ = Value.int .i64 (B + d + (gc (gl y) k + gmd (gl y) (k : Int))); congr 1; omega, by go_num, c0, hg⟩
    · obtain rfl : k = M := by omega
      cases b
      · go_wp2_with ((rw [HG.out]); (go_at_call 19; (with_reducible refine (CI.out _).mono ?_); rintro e w1 ⟨rfl, hg⟩))
        go_ret2
        exact ⟨rfl, (by repeat (first | exact Gr.refl _ | refine Gr.setCell ?_ _ _ (by first | exact Nat.le_refl _ | (simp; omega) | (simp; done)) | refine Gr.grown ?_ _ _ | refine Gr.drewN ?_ _ | refine Gr.drew ?_ | refine Gr.alloc ?_ _ | refine Gr.grow ?_ _ | (refine Gr.trans ?_ (by assumption))))⟩
      · go_wp2_with ((rw [HG.out]); (go_at_call 19; (with_reducible refine (CI.out _).mono ?_); rintro e w1 ⟨rfl, hg⟩))
        go_ret2
        exact ⟨rfl, (by repeat (first | exact Gr.refl _ | refine Gr.setCell ?_ _ _ (by first | exact Nat.le_refl _ | (simp; omega) | (simp; done)) | refine Gr.grown ?_ _ _ | refine Gr.drewN ?_ _ | refine Gr.drew ?_ | refine Gr.alloc ?_ _ | refine Gr.grow ?_ _ | (refine Gr.trans ?_ (by assumption))))⟩

theorem gto_y (y m d : Int) (w : World) (h : y < -4000 ∨ 7000 < y) :
    Calls Try.prog 11 #[.agg #[.int .i64 y, .int .i64 m, .int .i64 d]] w fun e w' => e = .returned (.tuple #[.int .i64 0, .int .i64 2]) ∧ Gr w w' := by
  by_cases g : y < -4000
  · clear h
    go_enter Try.func11, Try.ntmps11
    go_wp2
    go_ret2
    exact ⟨rfl, (by repeat (first | exact Gr.refl _ | refine Gr.setCell ?_ _ _ (by first | exact Nat.le_refl _ | (simp; omega) | (simp; done)) | refine Gr.grown ?_ _ _ | refine Gr.drewN ?_ _ | refine Gr.drew ?_ | refine Gr.alloc ?_ _ | refine Gr.grow ?_ _ | (refine Gr.trans ?_ (by assumption))))⟩
  · have g2 : 7000 < y := by omega
    clear h
    go_enter Try.func11, Try.ntmps11
    go_wp2
    go_ret2
    exact ⟨rfl, (by repeat (first | exact Gr.refl _ | refine Gr.setCell ?_ _ _ (by first | exact Nat.le_refl _ | (simp; omega) | (simp; done)) | refine Gr.grown ?_ _ _ | refine Gr.drewN ?_ _ | refine Gr.drew ?_ | refine Gr.alloc ?_ _ | refine Gr.grow ?_ _ | (refine Gr.trans ?_ (by assumption))))⟩
theorem gto_m (y m d : Int) (w : World) (h0 : -4000 ≤ y) (h1 : y ≤ 7000) (h : m < 1 ∨ 12 < m) :
    Calls Try.prog 11 #[.agg #[.int .i64 y, .int .i64 m, .int .i64 d]] w fun e w' => e = .returned (.tuple #[.int .i64 0, .int .i64 3]) ∧ Gr w w' := by
  have CD : RowKit.Hid (∀ w, Calls Try.prog 10 #[.int .i64 y, .int .i64 m] w fun e w' => e = .returned (.int .i64 0) ∧ w' = w) := Lib.hid fun w => by
    have := gdays_s y m w; rwa [gmd_no _ m h] at this
  clear h
  go_enter Try.func11, Try.ntmps11
  go_wp2_with (go_at_call 10; (with_reducible refine (CD.out _).mono ?_); rintro e w1 ⟨rfl, rfl⟩)
  go_ret2
  exact ⟨rfl, (by repeat (first | exact Gr.refl _ | refine Gr.setCell ?_ _ _ (by first | exact Nat.le_refl _ | (simp; omega) | (simp; done)) | refine Gr.grown ?_ _ _ | refine Gr.drewN ?_ _ | refine Gr.drew ?_ | refine Gr.alloc ?_ _ | refine Gr.grow ?_ _ | (refine Gr.trans ?_ (by assumption))))⟩
theorem gto_d (y m d : Int) (w : World) (h0 : -4000 ≤ y) (h1 : y ≤ 7000) (m0 : 1 ≤ m) (m1 : m ≤ 12) (h : d < 1 ∨ gmd (gl y) m < d) :
    Calls Try.prog 11 #[.agg #[.int .i64 y, .int .i64 m, .int .i64 d]] w fun e w' => e = .returned (.tuple #[.int .i64 0, .int .i64 4]) ∧ Gr w w' := by
  have dr := gmd_12 (gl y) m (by omega) (by omega)
  obtain ⟨T, hT⟩ : ∃ T, gmd (gl y) m = T := ⟨_, rfl⟩
  have CD : RowKit.Hid (∀ w, Calls Try.prog 10 #[.int .i64 y, .int .i64 m] w fun e w' => e = .returned (.int .i64 T) ∧ w' = w) := Lib.hid fun w => by
    have := gdays_s y m w; rwa [hT] at this
  rw [hT] at h dr
  have dr0 := dr.1
  have dr1 := dr.2
  have tz : (T == 0) = false := beq_eq_false_iff_ne.2 (by omega)
  clear hT dr
  by_cases g : d < 1
  · clear h
    go_enter Try.func11, Try.ntmps11
    go_wp2_with (go_at_call 10; (with_reducible refine (CD.out _).mono ?_); rintro e w1 ⟨rfl, rfl⟩)
    go_quiet ((go_at_call 10; exact Calls.quiet_of_same (CD.out _)))
    go_wp2
    go_ret2
    exact ⟨rfl, (by repeat (first | exact Gr.refl _ | refine Gr.setCell ?_ _ _ (by first | exact Nat.le_refl _ | (simp; omega) | (simp; done)) | refine Gr.grown ?_ _ _ | refine Gr.drewN ?_ _ | refine Gr.drew ?_ | refine Gr.alloc ?_ _ | refine Gr.grow ?_ _ | (refine Gr.trans ?_ (by assumption))))⟩
  · have g2 : T < d := by omega
    clear h
    go_enter Try.func11, Try.ntmps11
    go_wp2_with (go_at_call 10; (with_reducible refine (CD.out _).mono ?_); rintro e w1 ⟨rfl, rfl⟩)
    go_quiet ((go_at_call 10; exact Calls.quiet_of_same (CD.out _)))
    go_wp2
    go_ret2
    exact ⟨rfl, (by repeat (first | exact Gr.refl _ | refine Gr.setCell ?_ _ _ (by first | exact Nat.le_refl _ | (simp; omega) | (simp; done)) | refine Gr.grown ?_ _ _ | refine Gr.drewN ?_ _ | refine Gr.drew ?_ | refine Gr.alloc ?_ _ | refine Gr.grow ?_ _ | (refine Gr.trans ?_ (by assumption))))⟩
theorem gto_c (y m d : Int) (w : World) :
    Calls Try.prog 11 #[.agg #[.int .i64 y, .int .i64 m, .int .i64 d]] w fun e w' => e = .returned (.tuple #[.int .i64 (tN y m d), .int .i64 (tE y m d)]) ∧ Gr w w' := by
  by_cases h : y < -4000 ∨ 7000 < y
  · rw [tN_no (by rw [tE_y h]; decide), tE_y h]; exact gto_y y m d w h
  · by_cases g : m < 1 ∨ 12 < m
    · rw [tN_no (by rw [tE_m h g]; decide), tE_m h g]; exact gto_m y m d w (by omega) (by omega) g
    · by_cases k : d < 1 ∨ gmd (gl y) m < d
      · rw [tN_no (by rw [tE_d h g k]; decide), tE_d h g k]; exact gto_d y m d w (by omega) (by omega) (by omega) (by omega) k
      · have e : m = ((m.toNat : Nat) : Int) := by omega
        have k2 : ¬ (d < 1 ∨ gmd (gl y) ((m.toNat : Nat) : Int) < d) := by rw [← e]; exact k
        have c := gto_ok y d m.toNat _ _ _ w (by omega) (by omega) (by omega) (by omega) (by omega) (by omega) rfl rfl rfl
        rw [← e] at c
        have t := tE_n h g k
        have n : tN y m d = if inD (gd y m.toNat d) = true then gd y m.toNat d else 0 := by
          unfold tN
          rw [t]
          cases inD (gd y m.toNat d) <;> rfl
        rw [n, t]
        exact c

end Go.Proofs.Ytgjgkldkdmohjaa.Walks
