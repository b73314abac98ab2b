/- Walks of the reference of layer 11: dates of days and days of dates. -/
import Derived.Test.YtgjgkldkdmohjaaRef11
set_option linter.unusedVariables false
set_option linter.unusedSimpArgs false
namespace Go.Proofs.Ytgjgkldkdmohjaa.Walks
open Go Go.RowKit Go.Sort Go.Proofs.Ytgjgkldkdmohjaa.Base Go.Proofs.Ytgjgkldkdmohjaa.Plain Go.Proofs.Ytgjgkldkdmohjaa.Math

theorem gc_1 (l : Bool) : gc l 1 = 0 := by cases l <;> decide

set_option maxHeartbeats 4000000 in
theorem rgto_ok (y d : Int) (M : Nat) (b : Bool) (G B : Int) (w : World) (h0 : -4000 ≤ y) (h1 : y ≤ 7000) (m0 : 1 ≤ M) (m1 : M ≤ 12) (d0 : 1 ≤ d) (d1 : d ≤ gmd (gl y) (M : Int)) (hB : gb y = B) (hG : gd y M d = G) (hb : inD G = b) :
    Calls Try.prog 12 #[.agg #[.int .i64 y, .int .i64 (M : Int), .int .i64 d]] w fun e w' => e = .returned (.tuple #[.int .i64 (if b = true then G else 0), .int .i64 (if b = true then 0 else 2)]) ∧ Gr w w' := by
  have dr := gmd_12 (gl y) (M : Int) (by omega) (by omega)
  have B0 : -3000000 ≤ B ∧ B ≤ 3000000 := by unfold gb at hB; omega
  obtain ⟨B0, B1⟩ := B0
  have CB : RowKit.Hid (∀ w, Calls Try.prog 23 #[.int .i64 y] w fun e w' => e = .returned (.int .i64 B) ∧ Gr w w') := Lib.hid fun w => by
    have := rahead_c y w (by omega) (by omega); rwa [hB] at this
  have HG : RowKit.Hid (B + d + gc (gl y) M = G) := Lib.hid (by rw [← hG]; unfold gd; omega)
  have HGC : RowKit.Hid (∀ k : Nat, k ≤ M → 0 ≤ gc (gl y) k ∧ gc (gl y) k ≤ 366) := Lib.hid fun k hk => gc_le _ k (by omega)
  have CI : RowKit.Hid (∀ w, Calls Try.prog 24 #[.int .i64 G] w fun e w' => e = .returned (.bool b) ∧ Gr w w') := Lib.hid fun w => by
    have := rgin_c G w; rwa [hb] at this
  obtain ⟨T, hT⟩ : ∃ T, gmd (gl y) (M : Int) = T := ⟨_, rfl⟩
  have CD : RowKit.Hid (∀ w, Calls Try.prog 16 #[.int .i64 y, .int .i64 (M : Int)] w fun e w' => e = .returned (.int .i64 T) ∧ Gr w w') := Lib.hid fun w => by
    have := rgdays_c y (M : Int) w; rwa [hT] at this
  rw [hT] at d1 dr
  have dr0 := dr.1
  have dr1 := dr.2
  clear hB hG hb hT dr
  go_enter Try.func12, Try.ntmps12
  go_wp2
  have k0 := gcell_in (w := w.alloc (.cells #[.int .i64 y, .int .i64 (M : Int), .int .i64 d] 23)) (b := w.heap.size) (o := 0) (v := .int .i64 y) (by simp) (by simp [go_sem])
  have k1 := gcell_in (w := w.alloc (.cells #[.int .i64 y, .int .i64 (M : Int), .int .i64 d] 23)) (b := w.heap.size) (o := 1) (v := .int .i64 (M : Int)) (by simp) (by simp [go_sem])
  have k2 := gcell_in (w := w.alloc (.cells #[.int .i64 y, .int .i64 (M : Int), .int .i64 d] 23)) (b := w.heap.size) (o := 2) (v := .int .i64 d) (by simp) (by simp [go_sem])
  have hlt : w.heap.size < (w.alloc (.cells #[.int .i64 y, .int .i64 (M : Int), .int .i64 d] 23)).heap.size := by simp
  have hg : Gr w (w.alloc (.cells #[.int .i64 y, .int .i64 (M : Int), .int .i64 d] 23)) := (by repeat (first | exact Gr.refl _ | refine Gr.setCell ?_ _ _ (by first | exact Nat.le_refl _ | (simp; omega) | (simp; done)) | refine Gr.grown ?_ _ _ | refine Gr.drewN ?_ _ | refine Gr.drew ?_ | refine Gr.alloc ?_ _ | refine Gr.grow ?_ _ | (refine Gr.trans ?_ (by assumption))))
  generalize w.alloc (.cells #[.int .i64 y, .int .i64 (M : Int), .int .i64 d] 23) = W0 at *
  (refine wp_region_quiet_grown mixed (by kernel_rfl) ?_; (repeat (first | go_big_quiet_step ((first | (go_at_call 16; exact gr_of (CD.out _)))) | quiet_step ((first | (go_at_call 16; exact gr_of (CD.out _)))))); refine wpQuiet_nil ?_; intro _ hw'; obtain ⟨⟨nq, osq⟩, hw''⟩ := hw'; subst hw'')
  have c0 := k0 nq osq
  have c1 := k1 nq osq
  have c2 := k2 nq osq
  replace hlt : w.heap.size < (grow (W0.drewN nq) osq).heap.size := ((Gr.refl W0).grown nq osq).lt hlt
  replace hg := hg.grown nq osq
  clear k0 k1 k2
  generalize grow (W0.drewN nq) osq = W1 at *
  go_wp2
  have k0 := gcell_in hlt c0
  have k1 := gcell_in hlt c1
  have k2 := gcell_in hlt c2
  (refine wp_region_quiet_grown mixed (by kernel_rfl) ?_; (repeat (first | go_big_quiet_step ((first | (go_at_call 23; exact gr_of (CB.out _)))) | quiet_step ((first | (go_at_call 23; exact gr_of (CB.out _)))))); refine wpQuiet_nil ?_; intro _ hw'; obtain ⟨⟨nq, osq⟩, hw''⟩ := hw'; subst hw'')
  replace c0 := k0 nq osq
  replace c1 := k1 nq osq
  replace hlt : w.heap.size < (grow (W1.drewN nq) osq).heap.size := ((Gr.refl W1).grown nq osq).lt hlt
  replace hg := hg.grown nq osq
  clear k0 k1 k2 c2
  generalize grow (W1.drewN nq) osq = W2 at *
  go_wp2
  go_loopg [4, 5] M (fun kx s4 s5 wr => ∃ k : Nat, 1 ≤ k ∧ k ≤ M ∧ M - k ≤ kx ∧ s4 = .int .i64 (B + d + gc (gl y) k) ∧ s5 = .int .i64 (k : Int) ∧ wr.cell? ⟨w.heap.size, 0, none⟩ = some (.int .i64 y) ∧ wr.cell? ⟨w.heap.size, 1, none⟩ = some (.int .i64 (M : Int)) ∧ w.heap.size < wr.heap.size ∧ Gr w wr)
  case atStart => exact ⟨1, Nat.le_refl _, m0, by omega, by rw [gc_1, Int.add_zero], rfl, c0, c1, hlt, hg⟩
  case round =>
    obtain ⟨k, hk0, hk, hm, rfl, rfl, c0, c1, hlt, hg0⟩ := hrel
    have hgc := HGC.out k hk
    have hgc0 := hgc.1
    have hgc1 := hgc.2
    clear hgc hg
    by_cases e : k < M
    · have dk := gmd_range (gl y) (k : Int)
      have dk0 := dk.1
      have dk1 := dk.2
      clear dk
      go_wp2_with (go_at_call 16; (with_reducible refine (rgdays_c y (k : Int) _).mono ?_); rintro e w1 ⟨rfl, hg⟩)
      go_roundg (M - (k + 1))
      case measure => omega
      case rel => exact ⟨k + 1, by omega, by omega, Nat.le_refl _, by show _ = Value.int .i64 (B + d + (gc (gl y) k + gmd (gl y) (k : Int))); congr 1; omega, by go_num, hg.keep hlt c0, hg.keep hlt c1, hg.lt hlt, hg0.trans hg⟩
    · obtain rfl : k = M := by omega
      cases b
      · go_wp2_with ((rw [HG.out]); (go_at_call 24; (with_reducible refine (CI.out _).mono ?_); rintro e w1 ⟨rfl, hg⟩))
        go_ret2
        exact ⟨rfl, (by repeat (first | exact Gr.refl _ | refine Gr.setCell ?_ _ _ (by first | exact Nat.le_refl _ | (simp; omega) | (simp; done)) | refine Gr.grown ?_ _ _ | refine Gr.drewN ?_ _ | refine Gr.drew ?_ | refine Gr.alloc ?_ _ | refine Gr.grow ?_ _ | (refine Gr.trans ?_ (by assumption))))⟩
      · go_wp2_with ((rw [HG.out]); (go_at_call 24; (with_reducible refine (CI.out _).mono ?_); rintro e w1 ⟨rfl, hg⟩))
        go_ret2
        exact ⟨rfl, (by repeat (first | exact Gr.refl _ | refine Gr.setCell ?_ _ _ (by first | exact Nat.le_refl _ | (simp; omega) | (simp; done)) | refine Gr.grown ?_ _ _ | refine Gr.drewN ?_ _ | refine Gr.drew ?_ | refine Gr.alloc ?_ _ | refine Gr.grow ?_ _ | (refine Gr.trans ?_ (by assumption))))⟩
theorem rgto_y (y m d : Int) (w : World) (h : y < -4000 ∨ 7000 < y) :
    Calls Try.prog 12 #[.agg #[.int .i64 y, .int .i64 m, .int .i64 d]] w fun e w' => e = .returned (.tuple #[.int .i64 0, .int .i64 2]) ∧ Gr w w' := by
  by_cases g : y < -4000
  · clear h
    go_enter Try.func12, Try.ntmps12
    go_wp2
    go_ret2
    exact ⟨rfl, (by repeat (first | exact Gr.refl _ | refine Gr.setCell ?_ _ _ (by first | exact Nat.le_refl _ | (simp; omega) | (simp; done)) | refine Gr.grown ?_ _ _ | refine Gr.drewN ?_ _ | refine Gr.drew ?_ | refine Gr.alloc ?_ _ | refine Gr.grow ?_ _ | (refine Gr.trans ?_ (by assumption))))⟩
  · have g2 : 7000 < y := by omega
    clear h
    go_enter Try.func12, Try.ntmps12
    go_wp2
    go_ret2
    exact ⟨rfl, (by repeat (first | exact Gr.refl _ | refine Gr.setCell ?_ _ _ (by first | exact Nat.le_refl _ | (simp; omega) | (simp; done)) | refine Gr.grown ?_ _ _ | refine Gr.drewN ?_ _ | refine Gr.drew ?_ | refine Gr.alloc ?_ _ | refine Gr.grow ?_ _ | (refine Gr.trans ?_ (by assumption))))⟩
theorem rgto_m (y m d : Int) (w : World) (h0 : -4000 ≤ y) (h1 : y ≤ 7000) (h : m < 1 ∨ 12 < m) :
    Calls Try.prog 12 #[.agg #[.int .i64 y, .int .i64 m, .int .i64 d]] w fun e w' => e = .returned (.tuple #[.int .i64 0, .int .i64 3]) ∧ Gr w w' := by
  by_cases g : m < 1
  · clear h
    go_enter Try.func12, Try.ntmps12
    go_wp2
    go_ret2
    exact ⟨rfl, (by repeat (first | exact Gr.refl _ | refine Gr.setCell ?_ _ _ (by first | exact Nat.le_refl _ | (simp; omega) | (simp; done)) | refine Gr.grown ?_ _ _ | refine Gr.drewN ?_ _ | refine Gr.drew ?_ | refine Gr.alloc ?_ _ | refine Gr.grow ?_ _ | (refine Gr.trans ?_ (by assumption))))⟩
  · have g2 : 12 < m := by omega
    clear h
    go_enter Try.func12, Try.ntmps12
    go_wp2
    go_ret2
    exact ⟨rfl, (by repeat (first | exact Gr.refl _ | refine Gr.setCell ?_ _ _ (by first | exact Nat.le_refl _ | (simp; omega) | (simp; done)) | refine Gr.grown ?_ _ _ | refine Gr.drewN ?_ _ | refine Gr.drew ?_ | refine Gr.alloc ?_ _ | refine Gr.grow ?_ _ | (refine Gr.trans ?_ (by assumption))))⟩
theorem rgto_d (y m d : Int) (w : World) (h0 : -4000 ≤ y) (h1 : y ≤ 7000) (m0 : 1 ≤ m) (m1 : m ≤ 12) (h : d < 1 ∨ gmd (gl y) m < d) :
    Calls Try.prog 12 #[.agg #[.int .i64 y, .int .i64 m, .int .i64 d]] w fun e w' => e = .returned (.tuple #[.int .i64 0, .int .i64 4]) ∧ Gr w w' := by
  have dr := gmd_12 (gl y) m (by omega) (by omega)
  obtain ⟨T, hT⟩ : ∃ T, gmd (gl y) m = T := ⟨_, rfl⟩
  have CD : RowKit.Hid (∀ w, Calls Try.prog 16 #[.int .i64 y, .int .i64 m] w fun e w' => e = .returned (.int .i64 T) ∧ Gr w w') := Lib.hid fun w => by
    have := rgdays_c y m w; rwa [hT] at this
  rw [hT] at h dr
  have dr0 := dr.1
  have dr1 := dr.2
  have k0 := gcell_in (w := w.alloc (.cells #[.int .i64 y, .int .i64 m, .int .i64 d] 23)) (b := w.heap.size) (o := 0) (v := .int .i64 y) (by simp) (by simp [go_sem])
  have k1 := gcell_in (w := w.alloc (.cells #[.int .i64 y, .int .i64 m, .int .i64 d] 23)) (b := w.heap.size) (o := 1) (v := .int .i64 m) (by simp) (by simp [go_sem])
  have k2 := gcell_in (w := w.alloc (.cells #[.int .i64 y, .int .i64 m, .int .i64 d] 23)) (b := w.heap.size) (o := 2) (v := .int .i64 d) (by simp) (by simp [go_sem])
  clear hT dr
  by_cases g : d < 1
  · clear h
    go_enter Try.func12, Try.ntmps12
    go_wp2
    (refine wp_region_quiet_grown mixed (by kernel_rfl) ?_; (repeat (first | go_big_quiet_step ((first | (go_at_call 16; exact gr_of (CD.out _)))) | quiet_step ((first | (go_at_call 16; exact gr_of (CD.out _)))))); refine wpQuiet_nil ?_; intro _ hw'; obtain ⟨⟨nq, osq⟩, hw''⟩ := hw'; subst hw'')
    go_wp2
    go_ret2
    exact ⟨rfl, (by repeat (first | exact Gr.refl _ | refine Gr.setCell ?_ _ _ (by first | exact Nat.le_refl _ | (simp; omega) | (simp; done)) | refine Gr.grown ?_ _ _ | refine Gr.drewN ?_ _ | refine Gr.drew ?_ | refine Gr.alloc ?_ _ | refine Gr.grow ?_ _ | (refine Gr.trans ?_ (by assumption))))⟩
  · have g2 : T < d := by omega
    clear h
    go_enter Try.func12, Try.ntmps12
    go_wp2
    (refine wp_region_quiet_grown mixed (by kernel_rfl) ?_; (repeat (first | go_big_quiet_step ((first | (go_at_call 16; exact gr_of (CD.out _)))) | quiet_step ((first | (go_at_call 16; exact gr_of (CD.out _)))))); refine wpQuiet_nil ?_; intro _ hw'; obtain ⟨⟨nq, osq⟩, hw''⟩ := hw'; subst hw'')
    go_wp2
    go_ret2
    exact ⟨rfl, (by repeat (first | exact Gr.refl _ | refine Gr.setCell ?_ _ _ (by first | exact Nat.le_refl _ | (simp; omega) | (simp; done)) | refine Gr.grown ?_ _ _ | refine Gr.drewN ?_ _ | refine Gr.drew ?_ | refine Gr.alloc ?_ _ | refine Gr.grow ?_ _ | (refine Gr.trans ?_ (by assumption))))⟩
theorem rgto_c (y m d : Int) (w : World) :
    Calls Try.prog 12 #[.agg #[.int .i64 y, .int .i64 m, .int .i64 d]] w fun e w' => e = .returned (.tuple #[.int .i64 (tN y m d), .int .i64 (tE y m d)]) ∧ Gr w w' := by
  by_cases h : y < -4000 ∨ 7000 < y
  · rw [tN_no (by rw [tE_y h]; decide), tE_y h]; exact rgto_y y m d w h
  · by_cases g : m < 1 ∨ 12 < m
    · rw [tN_no (by rw [tE_m h g]; decide), tE_m h g]; exact rgto_m y m d w (by omega) (by omega) g
    · by_cases k : d < 1 ∨ gmd (gl y) m < d
      · rw [tN_no (by rw [tE_d h g k]; decide), tE_d h g k]; exact rgto_d y m d w (by omega) (by omega) (by omega) (by omega) k
      · have e : m = ((m.toNat : Nat) : Int) := by omega
        have k2 : ¬ (d < 1 ∨ gmd (gl y) ((m.toNat : Nat) : Int) < d) := by rw [← e]; exact k
        have c := rgto_ok y d m.toNat _ _ _ w (by omega) (by omega) (by omega) (by omega) (by omega) (by omega) rfl rfl rfl
        rw [← e] at c
        have t := tE_n h g k
        have n : tN y m d = if inD (gd y m.toNat d) = true then gd y m.toNat d else 0 := by
          unfold tN
          rw [t]
          cases inD (gd y m.toNat d) <;> rfl
        rw [n, t]
        exact c

set_option maxHeartbeats 4000000 in
theorem rgfrom_in (n Y : Int) (M : Nat) (D : Int) (w : World) (n0 : -1373427 ≤ n) (n1 : n ≤ 2278650) (hY : gyr n = Y) (hok : gok Y M D) (hd : gd Y M D = n) :
    Calls Try.prog 13 #[.int .i64 n] w fun e w' => e = .returned (.tuple #[.agg #[.int .i64 Y, .int .i64 (M : Int), .int .i64 D], .int .i64 0]) ∧ Gr w w' := by
  have hin : RowKit.Hid (inD n = true) := Lib.hid (decide_eq_true ⟨n0, n1⟩)
  have hb := gd_in hok
  rw [hd] at hb
  have Y0 : -10000 ≤ Y ∧ Y ≤ 10000 := by obtain ⟨x, y⟩ := hb; unfold gb at x y; omega
  obtain ⟨Y0, Y1⟩ := Y0
  have HS : RowKit.Hid (n / 366 - 20 ≤ Y) := Lib.hid (by
    by_cases c : n / 366 - 20 ≤ Y
    · exact c
    · exfalso
      have h2 := gb_mono (a := Y + 1) (b := n / 366 - 20) (by omega)
      have h3 : gb (n / 366 - 20) < n := by unfold gb; omega
      omega)
  have HT : RowKit.Hid (∀ y : Int, y < Y → gb (y + 1) + 1 ≤ n) := Lib.hid fun y hy => by have := gb_mono (a := y + 1) (b := Y) (by omega); omega
  have HU : RowKit.Hid (¬ gb (Y + 1) + 1 ≤ n) := Lib.hid (by omega)
  have HR : RowKit.Hid (∀ y : Int, -20000 ≤ y → y ≤ 20000 → -10000000 ≤ gb y ∧ gb y ≤ 10000000) := Lib.hid fun y a b => by unfold gb; omega
  have HW : RowKit.Hid (Y - (n / 366 - 20) ≤ 100) := Lib.hid (by obtain ⟨x, y⟩ := hb; unfold gb at x y; omega)
  unfold gd at hd
  obtain ⟨m0, m1, d0, d1⟩ := hok
  have HD : RowKit.Hid (n - gb Y = gc (gl Y) M + D) := Lib.hid (by omega)
  have H1 : RowKit.Hid (∀ k : Nat, k + 1 ≤ M → 0 ≤ gc (gl Y) k ∧ gc (gl Y) (k + 1) ≤ gc (gl Y) M) := Lib.hid fun k hk => by
    have a := gc_mono (gl Y) (k + 1) (M - (k + 1))
    rw [show k + 1 + (M - (k + 1)) = M from by omega] at a
    exact ⟨(gc_le (gl Y) k (by omega)).1, a⟩
  have HM : RowKit.Hid (gc (gl Y) M ≤ 366) := Lib.hid (gc_le _ M (by omega)).2
  clear hd hb hY
  go_enter Try.func13, Try.ntmps13
  go_wp2_with (first | (go_at_call 24; (with_reducible refine (rgin_c n _).mono ?_); rintro e wA ⟨rfl, hgwA⟩; rw [hin.out]) | (go_at_call 25; (with_reducible refine (rdown_c n 366 _ (by omega) (by omega) (by omega) (by omega)).mono ?_); rintro e wB ⟨rfl, hgwB⟩))
  have hs : wB.cell? ⟨w.heap.size, 0, none⟩ = some (.int .i64 0) ∧ wB.cell? ⟨w.heap.size, 1, none⟩ = some (.int .i64 0) ∧ wB.cell? ⟨w.heap.size, 2, none⟩ = some (.int .i64 0) ∧ wB.frozen? ⟨w.heap.size, 0, none⟩ = false ∧ wB.frozen? ⟨w.heap.size, 1, none⟩ = false ∧ wB.frozen? ⟨w.heap.size, 2, none⟩ = false := by
    have l2 : w.heap.size < wA.heap.size := hgwA.lt (by simp)
    exact ⟨hgwB.keep l2 (hgwA.keep (by simp) (by simp [go_sem])), hgwB.keep l2 (hgwA.keep (by simp) (by simp [go_sem])), hgwB.keep l2 (hgwA.keep (by simp) (by simp [go_sem])), hgwB.thaw l2 (hgwA.thaw (by simp) (by simp [go_sem])), hgwB.thaw l2 (hgwA.thaw (by simp) (by simp [go_sem])), hgwB.thaw l2 (hgwA.thaw (by simp) (by simp [go_sem]))⟩
  have hlt : w.heap.size < wB.heap.size := hgwB.lt (hgwA.lt (by simp))
  have hG : Gr w wB := (by repeat (first | exact Gr.refl _ | refine Gr.setCell ?_ _ _ (by first | exact Nat.le_refl _ | (simp; omega) | (simp; done)) | refine Gr.grown ?_ _ _ | refine Gr.drewN ?_ _ | refine Gr.drew ?_ | refine Gr.alloc ?_ _ | refine Gr.grow ?_ _ | (refine Gr.trans ?_ (by assumption))))
  clear hgwA hgwB
  go_loopg [4] 100 (fun kx s4 wr => ∃ y : Int, n / 366 - 20 ≤ y ∧ y ≤ Y ∧ Y - y ≤ kx ∧ s4 = .int .i64 y ∧ Gr wB wr)
  case atStart => exact ⟨n / 366 - 20, by omega, HS.out, HW.out, rfl, Gr.refl _⟩
  case round =>
    obtain ⟨y, y0, y1, y2, rfl, hg0⟩ := hrel
    by_cases e : y < Y
    · have ht := HT.out y e
      have hr := HR.out (y + 1) (by omega) (by omega)
      have hr0 := hr.1
      have hr1 := hr.2
      clear hr
      go_wp2_with (go_at_call 23; (with_reducible refine (rahead_c (y + 1) _ (by omega) (by omega)).mono ?_); rintro e w1 ⟨rfl, hg⟩)
      go_roundg (Y - (y + 1)).toNat
      case measure => omega
      case rel => exact ⟨y + 1, by omega, by omega, by omega, rfl, hg0.trans hg⟩
    · obtain rfl : y = Y := by omega
      have ht := HU.out
      have hr := HR.out (y + 1) (by omega) (by omega)
      have hr0 := hr.1
      have hr1 := hr.2
      have hq := HR.out y (by omega) (by omega)
      have hq0 := hq.1
      have hq1 := hq.2
      clear hr hq
      go_wp2_with (first | (go_at_call 23; (with_reducible refine (rahead_c (y + 1) _ (by omega) (by omega)).mono ?_); rintro e wC ⟨rfl, hgwC⟩) | (go_at_call 23; (with_reducible refine (rahead_c y _ (by omega) (by omega)).mono ?_); rintro e wD ⟨rfl, hgwD⟩))
      rw [HD.out]
      have hgD : Gr wB wD := (hg0.trans hgwC).trans hgwD
      clear hgwC hgwD hg0
      go_loopg [5, 6] M (fun kx s5 s6 wr => ∃ k : Nat, 1 ≤ k ∧ k ≤ M ∧ M - k ≤ kx ∧ s5 = .int .i64 (gc (gl y) M + D - gc (gl y) k) ∧ s6 = .int .i64 (k : Int) ∧ Gr wB wr)
      case atStart => exact ⟨1, Nat.le_refl _, m0, by omega, by rw [gc_1, Int.sub_zero], rfl, hgD⟩
      case round =>
        obtain ⟨k, k0, k1, k2, rfl, rfl, hg0⟩ := hrel
        have hgm := HM.out
        have tr := gmd_range (gl y) (k : Int)
        have tr0 := tr.1
        have tr1 := tr.2
        have d2 : D ≤ 31 := by have := gmd_range (gl y) (M : Int); omega
        clear tr
        by_cases e : k < M
        · have hk2 := H1.out k (by omega)
          have hk3 : RowKit.Hid (gc (gl y) (k + 1) = gc (gl y) k + gmd (gl y) (k : Int)) := Lib.hid rfl
          have ht : gmd (gl y) (k : Int) < gc (gl y) M + D - gc (gl y) k := by have := hk3.out; omega
          have hk4 := hk2.1
          clear hk2
          go_wp2_with (go_at_call 16; (with_reducible refine (rgdays_c y (k : Int) _).mono ?_); rintro e w1 ⟨rfl, hg⟩)
          go_roundg (M - (k + 1))
          case measure => omega
          case rel => exact ⟨k + 1, by omega, by omega, Nat.le_refl _, by rw [hk3.out]; congr 1; omega, by go_num, (hg0.trans (by assumption)).trans hg⟩
        · obtain rfl : k = M := by omega
          rw [show gc (gl y) k + D - gc (gl y) k = D from by omega]
          have ht : ¬ gmd (gl y) (k : Int) < D := by omega
          go_wp2_with (go_at_call 16; (with_reducible refine (rgdays_c y (k : Int) _).mono ?_); rintro e wE ⟨rfl, hgwE⟩; obtain ⟨r0, r1, r2, g0, g1, g2⟩ := hs; have hgE := hg0.trans hgwE; replace r0 := hgE.keep hlt r0; replace r1 := hgE.keep hlt r1; replace r2 := hgE.keep hlt r2; replace g0 := hgE.thaw hlt g0; replace g1 := hgE.thaw hlt g1; replace g2 := hgE.thaw hlt g2)
          exact bodyPost_ret (v := .tuple #[.agg #[.int .i64 y, .int .i64 (k : Int), .int .i64 D], .int .i64 0]) (by simp [results, Try.results13, go_sem, *]) rfl ⟨rfl, (by repeat (first | exact Gr.refl _ | refine Gr.setCell ?_ _ _ (by first | exact Nat.le_refl _ | (simp; omega) | (simp; done)) | refine Gr.grown ?_ _ _ | refine Gr.drewN ?_ _ | refine Gr.drew ?_ | refine Gr.alloc ?_ _ | refine Gr.grow ?_ _ | (refine Gr.trans ?_ (by assumption))))⟩
theorem rgfrom_out (n : Int) (w : World) (h : n < -1373427 ∨ 2278650 < n) :
    Calls Try.prog 13 #[.int .i64 n] w fun e w' => e = .returned (.tuple #[.agg #[.int .i64 0, .int .i64 0, .int .i64 0], .int .i64 2]) ∧ Gr w w' := by
  have hin : RowKit.Hid (inD n = false) := Lib.hid (decide_eq_false (by omega))
  clear h
  go_enter Try.func13, Try.ntmps13
  go_wp2_with (first | (go_at_call 24; (with_reducible refine (rgin_c n _).mono ?_); rintro e wA ⟨rfl, hgwA⟩; rw [hin.out]; obtain ⟨hclwA, hfzwA, hszwA⟩ := gcell hgwA; (try simp [Nat.add_one_le_iff] at hszwA)))
  exact bodyPost_ret (v := .tuple #[.agg #[.int .i64 0, .int .i64 0, .int .i64 0], .int .i64 2]) (by simp [results, Try.results13, go_sem, *]) rfl ⟨rfl, (by repeat (first | exact Gr.refl _ | refine Gr.setCell ?_ _ _ (by first | exact Nat.le_refl _ | (simp; omega) | (simp; done)) | refine Gr.grown ?_ _ _ | refine Gr.drewN ?_ _ | refine Gr.drew ?_ | refine Gr.alloc ?_ _ | refine Gr.grow ?_ _ | (refine Gr.trans ?_ (by assumption))))⟩

end Go.Proofs.Ytgjgkldkdmohjaa.Walks
