/- Walks of package heb: whether a date may be, its day, the last day of a month, the date of a day, and which date stands ahead. -/
import Derived.Test.YtkiopgegdkeojaaGreatDoorHeb
set_option linter.unusedVariables false
set_option linter.unusedSimpArgs false
namespace Go.Proofs.YtkiopgegdkeojaaGreatDoor.Walks
open Go Go.RowKit Go.Sort Go.Proofs.YtkiopgegdkeojaaGreatDoor.Base Go.Proofs.YtkiopgegdkeojaaGreatDoor.Plain Go.Proofs.YtkiopgegdkeojaaGreatDoor.Math

set_option maxHeartbeats 1000000 in
theorem hcheck_of (y n d E p0 p1 p3 : Int) (c p2 : Bool) (w : World) (h : ∀ W, Gr w W → Calls Tryz.prog 40 #[.agg #[.int .i64 y, .int .i64 n, .bool c, .int .i64 d]] W fun e w' => e = .returned (.tuple #[.agg #[.int .i64 p0, .int .i64 p1, .bool p2, .int .i64 p3], .int .i64 E]) ∧ Gr W w') :
    Calls Tryz.prog 18 #[.agg #[.int .i64 y, .int .i64 n, .bool c, .int .i64 d]] w fun e w' => e = .returned (.int .i64 E) ∧ Gr w w' := by
  have C1 := Lib.hid h
  clear h
  go_enter Tryz.func18, Tryz.ntmps18
  go_wp2_with (first | (go_at_call 40; (with_reducible refine (C1.out _ ((by repeat (first | exact Gr.refl _ | refine Gr.setCell ?_ _ _ (by first | exact Nat.le_refl _ | (simp; omega) | (simp; done)) | refine Gr.grown ?_ _ _ | refine Gr.drewN ?_ _ | refine Gr.drew ?_ | refine Gr.alloc ?_ _ | refine Gr.grow ?_ _ | (refine Gr.trans ?_ (by assumption)))))).mono ?_); rintro e wA ⟨rfl, hgwA⟩; obtain ⟨hclwA, hfzwA, hszwA⟩ := gcell hgwA; (try simp [Nat.add_one_le_iff] at hszwA); have hlwA_w : w.heap.size < wA.heap.size := (by omega)))
  go_ret
  exact ⟨rfl, (by repeat (first | exact Gr.refl _ | refine Gr.setCell ?_ _ _ (by first | exact Nat.le_refl _ | (simp; omega) | (simp; done)) | refine Gr.grown ?_ _ _ | refine Gr.drewN ?_ _ | refine Gr.drew ?_ | refine Gr.alloc ?_ _ | refine Gr.grow ?_ _ | (refine Gr.trans ?_ (by assumption))))⟩
theorem hcheck_in (y : Int) (j : Nat) (d : Int) (w : World) (G : GT w) (h : HV y j d) :
    Calls Tryz.prog 18 #[.agg #[.int .i64 y, .int .i64 (cN (lp y) j), .bool (cL (lp y) j), .int .i64 d]] w fun e w' => e = .returned (.int .i64 0) ∧ Gr w w' :=
  hcheck_of _ _ _ _ _ _ _ _ _ w fun W hW => look_in y j d W (G.gr hW) h
set_option maxHeartbeats 1000000 in
theorem hlast_in (y : Int) (j : Nat) (w : World) (G : GT w) (h0 : 1 ≤ y) (h1 : y ≤ 9999) (hj : j < mct (lp y)) :
    Calls Tryz.prog 74 #[.int .i64 y, .agg #[.int .i64 (cN (lp y) j), .bool (cL (lp y) j)]] w fun e w' => e = .returned (.tuple #[.int .i64 (mlen (kk y) (lp y) j), .int .i64 0]) ∧ Gr w w' := by
  have C1 := Lib.hid fun w => find_in y j w h0 h1 hj
  have C2 := Lib.hid fun W (hW : Gr w W) => mdays_in (kb y) (kk y) (lp y) j W (G.gr hW) (by rw [mN_year h0 h1]; exact hj)
  obtain ⟨N, hN⟩ : ∃ N, cN (lp y) j = N := ⟨_, rfl⟩
  obtain ⟨C, hC⟩ : ∃ C, cL (lp y) j = C := ⟨_, rfl⟩
  obtain ⟨l, hl⟩ : ∃ l, lp y = l := ⟨_, rfl⟩
  obtain ⟨b, hb⟩ : ∃ b, kb y = b := ⟨_, rfl⟩
  obtain ⟨k, hk⟩ : ∃ k, kk y = k := ⟨_, rfl⟩
  rw [hN, hC, hl, hb, hk] at C1
  rw [hl, hb, hk] at C2
  rw [hN, hC, hl, hk]
  clear hN hC hl hb hk h0 h1 hj G
  go_enter Tryz.func74, Tryz.ntmps74
  go_wp2_with (first | (go_at_call 69; (with_reducible refine (C1.out _).mono ?_); rintro e wA ⟨rfl, hgwA⟩; obtain ⟨hclwA, hfzwA, hszwA⟩ := gcell hgwA; (try simp [Nat.add_one_le_iff] at hszwA); have hlwA_w : w.heap.size < wA.heap.size := (by omega)) | (go_at_call 70; (with_reducible refine (C2.out _ ((by repeat (first | exact Gr.refl _ | refine Gr.setCell ?_ _ _ (by first | exact Nat.le_refl _ | (simp; omega) | (simp; done)) | refine Gr.grown ?_ _ _ | refine Gr.drewN ?_ _ | refine Gr.drew ?_ | refine Gr.alloc ?_ _ | refine Gr.grow ?_ _ | (refine Gr.trans ?_ (by assumption)))))).mono ?_); rintro e wB ⟨rfl, hgwB⟩; obtain ⟨hclwB, hfzwB, hszwB⟩ := gcell hgwB; (try simp [Nat.add_one_le_iff] at hszwB); have hlwB_w : w.heap.size < wB.heap.size := (by omega)))
  go_ret2
  exact ⟨rfl, (by repeat (first | exact Gr.refl _ | refine Gr.setCell ?_ _ _ (by first | exact Nat.le_refl _ | (simp; omega) | (simp; done)) | refine Gr.grown ?_ _ _ | refine Gr.drewN ?_ _ | refine Gr.drew ?_ | refine Gr.alloc ?_ _ | refine Gr.grow ?_ _ | (refine Gr.trans ?_ (by assumption))))⟩
theorem hlast_e (y n E : Int) (c : Bool) (w : World) (hE : E ≠ 0) (h : ∀ w, Calls Tryz.prog 69 #[.int .i64 y, .agg #[.int .i64 n, .bool c]] w fun e w' => e = .returned (.tuple #[.agg #[.int .i64 0, .int .i64 0, .bool false, .int .i64 0], .int .i64 E]) ∧ Gr w w') :
    Calls Tryz.prog 74 #[.int .i64 y, .agg #[.int .i64 n, .bool c]] w fun e w' => e = .returned (.tuple #[.int .i64 0, .int .i64 E]) ∧ Gr w w' := by
  have C1 := Lib.hid h
  have q : (E == 0) = false := beq_eq_false_iff_ne.2 hE
  clear h hE
  go_enter Tryz.func74, Tryz.ntmps74
  go_wp2_with (first | (go_at_call 69; (with_reducible refine (C1.out _).mono ?_); rintro e wA ⟨rfl, hgwA⟩; obtain ⟨hclwA, hfzwA, hszwA⟩ := gcell hgwA; (try simp [Nat.add_one_le_iff] at hszwA); have hlwA_w : w.heap.size < wA.heap.size := (by omega)))
  go_ret2
  exact ⟨rfl, (by repeat (first | exact Gr.refl _ | refine Gr.setCell ?_ _ _ (by first | exact Nat.le_refl _ | (simp; omega) | (simp; done)) | refine Gr.grown ?_ _ _ | refine Gr.drewN ?_ _ | refine Gr.drew ?_ | refine Gr.alloc ?_ _ | refine Gr.grow ?_ _ | (refine Gr.trans ?_ (by assumption))))⟩
set_option maxHeartbeats 4000000 in
theorem htoday_in (y : Int) (j : Nat) (d : Int) (w : World) (G : GT w) (h : HV y j d) :
    Calls Tryz.prog 31 #[.agg #[.int .i64 y, .int .i64 (cN (lp y) j), .bool (cL (lp y) j), .int .i64 d]] w fun e w' => e = .returned (.tuple #[.int .i64 (hd y j d), .int .i64 0]) ∧ Gr w w' := by
  have hy0 := h.y0
  have hy1 := h.y1
  have C1 := Lib.hid fun W (hW : Gr w W) => look_in y j d W (G.gr hW) h
  have C2 := Lib.hid fun W (hW : Gr w W) => mahead_in (kb y) (kk y) (lp y) j W (G.gr hW) (by rw [mN_year h.y0 h.y1]; exact h.j1)
  have C3 := Lib.hid fun w => first_in y w (by omega) (by omega)
  have rA := fy_range (y := y) (by omega) (by omega)
  have rM := mah_range (kk y) (lp y) j
  have HD : RowKit.Hid (fy y + mah (kk y) (lp y) j + d - 1 = hd y j d) := Lib.hid rfl
  have d0 := h.d0
  have d1 : d ≤ 30 := by have := h.d1; have := mlen_range (kk y) (lp y) j; omega
  have hj := h.j1
  have m13 := mct_le (lp y)
  obtain ⟨R, hR⟩ : ∃ R, hd y j d = R := ⟨_, rfl⟩
  obtain ⟨N, hN⟩ : ∃ N, cN (lp y) j = N := ⟨_, rfl⟩
  obtain ⟨C, hC⟩ : ∃ C, cL (lp y) j = C := ⟨_, rfl⟩
  obtain ⟨S, hS⟩ : ∃ S, mah (kk y) (lp y) j = S := ⟨_, rfl⟩
  obtain ⟨l, hl⟩ : ∃ l, lp y = l := ⟨_, rfl⟩
  obtain ⟨b, hb⟩ : ∃ b, kb y = b := ⟨_, rfl⟩
  obtain ⟨k, hk⟩ : ∃ k, kk y = k := ⟨_, rfl⟩
  obtain ⟨A, hA⟩ : ∃ A, fy y = A := ⟨_, rfl⟩
  rw [hN, hC, hl, hb, hk] at C1
  rw [hS, hl, hb, hk] at C2
  rw [hA] at C3 rA
  rw [hS] at rM
  rw [hA, hS, hR] at HD
  rw [hN, hC, hR]
  obtain ⟨a0, a1⟩ := rA
  obtain ⟨s0, s1⟩ := rM
  have s2 : S ≤ 400 := by omega
  have s3 : 0 ≤ S := by omega
  clear hR hN hC hS hl hb hk hA h G m13 s0 s1 hj hy0 hy1
  go_enter Tryz.func31, Tryz.ntmps31
  go_wp2_with (first | ((go_at_call 40; (with_reducible refine (C1.out _ ((by repeat (first | exact Gr.refl _ | refine Gr.setCell ?_ _ _ (by first | exact Nat.le_refl _ | (simp; omega) | (simp; done)) | refine Gr.grown ?_ _ _ | refine Gr.drewN ?_ _ | refine Gr.drew ?_ | refine Gr.alloc ?_ _ | refine Gr.grow ?_ _ | (refine Gr.trans ?_ (by assumption)))))).mono ?_); rintro e wA ⟨rfl, hgwA⟩; obtain ⟨hclwA, hfzwA, hszwA⟩ := gcell hgwA; (try simp [Nat.add_one_le_iff] at hszwA); have hlwA_w : w.heap.size < wA.heap.size := (by omega)); have c0 := hgwA.keep (b := w.heap.size) (o := 0) (v := .int .i64 y) (by first | (simp; done) | (simp; omega)) (by simp [go_sem]); have c1 := hgwA.keep (b := w.heap.size) (o := 1) (v := .int .i64 N) (by first | (simp; done) | (simp; omega)) (by simp [go_sem]); have c2 := hgwA.keep (b := w.heap.size) (o := 2) (v := .bool C) (by first | (simp; done) | (simp; omega)) (by simp [go_sem]); have c3 := hgwA.keep (b := w.heap.size) (o := 3) (v := .int .i64 d) (by first | (simp; done) | (simp; omega)) (by simp [go_sem])) | (go_at_call 55; (with_reducible refine (C3.out _).mono ?_); rintro e wB ⟨rfl, hgwB⟩; obtain ⟨hclwB, hfzwB, hszwB⟩ := gcell hgwB; (try simp [Nat.add_one_le_iff] at hszwB); have hlwB_w : w.heap.size < wB.heap.size := (by omega); have hlwB_wA : wA.heap.size < wB.heap.size := (by omega)))
  have GAB : Gr (wA.alloc (.cells #[.int .i64 b, .int .i64 k, .bool l, .int .i64 ((j : Int) + 1)] 69)) wB := hgwB
  have k0 := GAB.keep (b := wA.heap.size) (o := 0) (v := .int .i64 b) (by first | (simp; done) | (simp; omega)) (by simp [go_sem]); have k1 := GAB.keep (b := wA.heap.size) (o := 1) (v := .int .i64 k) (by first | (simp; done) | (simp; omega)) (by simp [go_sem]); have k2 := GAB.keep (b := wA.heap.size) (o := 2) (v := .bool l) (by first | (simp; done) | (simp; omega)) (by simp [go_sem]); have k3 := GAB.keep (b := wA.heap.size) (o := 3) (v := .int .i64 ((j : Int) + 1)) (by first | (simp; done) | (simp; omega)) (by simp [go_sem])
  have G1 : Gr wA wB := (by repeat (first | exact Gr.refl _ | refine Gr.setCell ?_ _ _ (by first | exact Nat.le_refl _ | (simp; omega) | (simp; done)) | refine Gr.grown ?_ _ _ | refine Gr.drewN ?_ _ | refine Gr.drew ?_ | refine Gr.alloc ?_ _ | refine Gr.grow ?_ _ | (refine Gr.trans ?_ (by assumption))))
  have e0 := G1.keep hlwA_w c0; have e1 := G1.keep hlwA_w c1; have e2 := G1.keep hlwA_w c2; have e3 := G1.keep hlwA_w c3
  have x0 := gcell_in hlwB_w e0; have x1 := gcell_in hlwB_w e1; have x2 := gcell_in hlwB_w e2; have x3 := gcell_in hlwB_w e3
  have z0 := gcell_in hlwB_wA k0; have z1 := gcell_in hlwB_wA k1; have z2 := gcell_in hlwB_wA k2; have z3 := gcell_in hlwB_wA k3
  have GW : Gr w wB := (by repeat (first | exact Gr.refl _ | refine Gr.setCell ?_ _ _ (by first | exact Nat.le_refl _ | (simp; omega) | (simp; done)) | refine Gr.grown ?_ _ _ | refine Gr.drewN ?_ _ | refine Gr.drew ?_ | refine Gr.alloc ?_ _ | refine Gr.grow ?_ _ | (refine Gr.trans ?_ (by assumption))))
  clear GAB G1 hclwA hfzwA hszwA hclwB hfzwB hszwB hgwA hgwB c0 c1 c2 c3 k0 k1 k2 k3 e0 e1 e2 e3
  (refine wp_region_quiet_grown mixed (by kernel_rfl) ?_; (repeat (first | go_big_quiet_step ((first | (go_at_call 56; exact gr_of (C2.out _ ((by repeat (first | exact Gr.refl _ | refine Gr.setCell ?_ _ _ (by first | exact Nat.le_refl _ | (simp; omega) | (simp; done)) | refine Gr.grown ?_ _ _ | refine Gr.drewN ?_ _ | refine Gr.drew ?_ | refine Gr.alloc ?_ _ | refine Gr.grow ?_ _ | (refine Gr.trans ?_ (by assumption))))))))) | quiet_step ((first | (go_at_call 56; exact gr_of (C2.out _ ((by repeat (first | exact Gr.refl _ | refine Gr.setCell ?_ _ _ (by first | exact Nat.le_refl _ | (simp; omega) | (simp; done)) | refine Gr.grown ?_ _ _ | refine Gr.drewN ?_ _ | refine Gr.drew ?_ | refine Gr.alloc ?_ _ | refine Gr.grow ?_ _ | (refine Gr.trans ?_ (by assumption))))))))))); refine wpQuiet_nil ?_; intro _ hw'; obtain ⟨⟨nq, osq⟩, hw''⟩ := hw'; subst hw'')
  go_wp2
  go_ret2
  exact ⟨ret2 HD.out rfl, (by repeat (first | exact Gr.refl _ | refine Gr.setCell ?_ _ _ (by first | exact Nat.le_refl _ | (simp; omega) | (simp; done)) | refine Gr.grown ?_ _ _ | refine Gr.drewN ?_ _ | refine Gr.drew ?_ | refine Gr.alloc ?_ _ | refine Gr.grow ?_ _ | (refine Gr.trans ?_ (by assumption))))⟩
theorem htoday_e (y n d E : Int) (c : Bool) (w : World) (hE : E ≠ 0) (h : ∀ W, Gr w W → Calls Tryz.prog 40 #[.agg #[.int .i64 y, .int .i64 n, .bool c, .int .i64 d]] W fun e w' => e = .returned (.tuple #[.agg #[.int .i64 0, .int .i64 0, .bool false, .int .i64 0], .int .i64 E]) ∧ Gr W w') :
    Calls Tryz.prog 31 #[.agg #[.int .i64 y, .int .i64 n, .bool c, .int .i64 d]] w fun e w' => e = .returned (.tuple #[.int .i64 0, .int .i64 E]) ∧ Gr w w' := by
  have C1 := Lib.hid h
  have q : (E == 0) = false := beq_eq_false_iff_ne.2 hE
  clear h hE
  go_enter Tryz.func31, Tryz.ntmps31
  go_wp2_with (first | (go_at_call 40; (with_reducible refine (C1.out _ ((by repeat (first | exact Gr.refl _ | refine Gr.setCell ?_ _ _ (by first | exact Nat.le_refl _ | (simp; omega) | (simp; done)) | refine Gr.grown ?_ _ _ | refine Gr.drewN ?_ _ | refine Gr.drew ?_ | refine Gr.alloc ?_ _ | refine Gr.grow ?_ _ | (refine Gr.trans ?_ (by assumption)))))).mono ?_); rintro e wA ⟨rfl, hgwA⟩; obtain ⟨hclwA, hfzwA, hszwA⟩ := gcell hgwA; (try simp [Nat.add_one_le_iff] at hszwA); have hlwA_w : w.heap.size < wA.heap.size := (by omega)))
  go_ret2
  exact ⟨rfl, (by repeat (first | exact Gr.refl _ | refine Gr.setCell ?_ _ _ (by first | exact Nat.le_refl _ | (simp; omega) | (simp; done)) | refine Gr.grown ?_ _ _ | refine Gr.drewN ?_ _ | refine Gr.drew ?_ | refine Gr.alloc ?_ _ | refine Gr.grow ?_ _ | (refine Gr.trans ?_ (by assumption))))⟩

theorem mfind_w (b kd : Int) (l : Bool) (j : Nat) (r y : Int) (w : World) (G : GT w) (hj : j < mN b kd l) (h0 : mah kd l j < r) (h1 : r ≤ mah kd l (j + 1)) (hy : r - mah kd l j = y) :
    Calls Tryz.prog 80 #[.agg #[.int .i64 b, .int .i64 kd, .bool l], .int .i64 r] w fun e w' => e = .returned (.tuple #[.int .i64 ((j : Int) + 1), .int .i64 y, .bool true]) ∧ Gr w w' := by
  subst hy
  exact mfind_in b kd l j r w G hj h0 h1
set_option maxHeartbeats 4000000 in
theorem hfrom_in (y : Int) (j : Nat) (d n : Int) (w : World) (G : GT w) (h : HV y j d) (hn : hd y j d = n) :
    Calls Tryz.prog 44 #[.int .i64 n] w fun e w' => e = .returned (.tuple #[.agg #[.int .i64 y, .int .i64 (cN (lp y) j), .bool (cL (lp y) j), .int .i64 d], .int .i64 0]) ∧ Gr w w' := by
  have hy0 := h.y0
  have hy1 := h.y1
  have hr := hd_range h
  have hi := hd_in h
  rw [hn] at hr hi
  obtain ⟨n0, n1⟩ := hr
  have C0 := Lib.hid fun W => year_c n y W h.y0 h.y1 hi.1 hi.2
  have C1 := Lib.hid fun W => kof_in y W h.y0 h.y1
  have C2 := Lib.hid fun w => first_in y w (by omega) (by omega)
  have er : n - fy y + 1 = mah (kk y) (lp y) j + d := by rw [← hn]; unfold hd; omega
  have C3 : RowKit.Hid (∀ W, Gr w W → Calls Tryz.prog 80 #[.agg #[.int .i64 (kb y), .int .i64 (kk y), .bool (lp y)], .int .i64 (n - fy y + 1)] W fun e w' => e = .returned (.tuple #[.int .i64 ((j : Int) + 1), .int .i64 d, .bool true]) ∧ Gr W w') := Lib.hid fun W hW =>
    mfind_w _ _ _ j _ _ W (G.gr hW) (by rw [mN_year h.y0 h.y1]; exact h.j1) (by have := h.d0; omega) (by have := h.d1; simp only [mah]; omega) (by omega)
  have C4 := Lib.hid fun w => cof_in (lp y) j w h.j1
  have rA := fy_range (y := y) (by omega) (by omega)
  obtain ⟨N, hN⟩ : ∃ N, cN (lp y) j = N := ⟨_, rfl⟩
  obtain ⟨C, hC⟩ : ∃ C, cL (lp y) j = C := ⟨_, rfl⟩
  obtain ⟨l, hl⟩ : ∃ l, lp y = l := ⟨_, rfl⟩
  obtain ⟨b, hb⟩ : ∃ b, kb y = b := ⟨_, rfl⟩
  obtain ⟨k, hk⟩ : ∃ k, kk y = k := ⟨_, rfl⟩
  obtain ⟨A, hA⟩ : ∃ A, fy y = A := ⟨_, rfl⟩
  rw [hl, hb, hk] at C1
  rw [hA] at C2 rA
  rw [hl, hb, hk, hA] at C3
  rw [hN, hC, hl] at C4
  rw [hN, hC]
  obtain ⟨a0, a1⟩ := rA
  clear hN hC hl hb hk hA h G er hi hn hy0 hy1
  go_enter Tryz.func44, Tryz.ntmps44
  go_wp2_with (first | ((go_at_call 78; (with_reducible refine (C0.out _).mono ?_); rintro e wA ⟨rfl, hgwA⟩); have r0 := hgwA.keep (b := w.heap.size) (o := 0) (v := .int .i64 0) (by first | (simp; done) | (simp; omega)) (by simp [go_sem]); have r1 := hgwA.keep (b := w.heap.size) (o := 1) (v := .int .i64 0) (by first | (simp; done) | (simp; omega)) (by simp [go_sem]); have r2 := hgwA.keep (b := w.heap.size) (o := 2) (v := .bool false) (by first | (simp; done) | (simp; omega)) (by simp [go_sem]); have r3 := hgwA.keep (b := w.heap.size) (o := 3) (v := .int .i64 0) (by first | (simp; done) | (simp; omega)) (by simp [go_sem]); have rf0 := hgwA.thaw (b := w.heap.size) (o := 0) (v := false) (by first | (simp; done) | (simp; omega)) (by simp [go_sem]); have rf1 := hgwA.thaw (b := w.heap.size) (o := 1) (v := false) (by first | (simp; done) | (simp; omega)) (by simp [go_sem]); have rf2 := hgwA.thaw (b := w.heap.size) (o := 2) (v := false) (by first | (simp; done) | (simp; omega)) (by simp [go_sem]); have rf3 := hgwA.thaw (b := w.heap.size) (o := 3) (v := false) (by first | (simp; done) | (simp; omega)) (by simp [go_sem]); have hlA := hgwA.lt (b := w.heap.size) (by simp); have GA : Gr w wA := ((by repeat (first | exact Gr.refl _ | refine Gr.setCell ?_ _ _ (by first | exact Nat.le_refl _ | (simp; omega) | (simp; done)) | refine Gr.grown ?_ _ _ | refine Gr.drewN ?_ _ | refine Gr.drew ?_ | refine Gr.alloc ?_ _ | refine Gr.grow ?_ _ | (refine Gr.trans ?_ (by assumption))))); clear hgwA) | ((go_at_call 79; (with_reducible refine (C1.out _).mono ?_); rintro e wB ⟨rfl, hgwB⟩); have GAB : Gr wA wB := (by assumption); have s0 := GAB.keep hlA r0; have s1 := GAB.keep hlA r1; have s2 := GAB.keep hlA r2; have s3 := GAB.keep hlA r3; have sf0 := GAB.thaw hlA rf0; have sf1 := GAB.thaw hlA rf1; have sf2 := GAB.thaw hlA rf2; have sf3 := GAB.thaw hlA rf3; have hlB := GAB.lt hlA; have GB : Gr w wB := GA.trans GAB; clear hgwB r0 r1 r2 r3 rf0 rf1 rf2 rf3) | ((go_at_call 55; (with_reducible refine (C2.out _).mono ?_); rintro e wC ⟨rfl, hgwC⟩); have GBC : Gr wB wC := ((by repeat (first | exact Gr.refl _ | refine Gr.setCell ?_ _ _ (by first | exact Nat.le_refl _ | (simp; omega) | (simp; done)) | refine Gr.grown ?_ _ _ | refine Gr.drewN ?_ _ | refine Gr.drew ?_ | refine Gr.alloc ?_ _ | refine Gr.grow ?_ _ | (refine Gr.trans ?_ (by assumption))))); have t0 := GBC.keep hlB s0; have t1 := GBC.keep hlB s1; have t2 := GBC.keep hlB s2; have t3 := GBC.keep hlB s3; have tf0 := GBC.thaw hlB sf0; have tf1 := GBC.thaw hlB sf1; have tf2 := GBC.thaw hlB sf2; have tf3 := GBC.thaw hlB sf3; have hlC := GBC.lt hlB; have k0 := hgwC.keep (b := wB.heap.size) (o := 0) (v := .int .i64 b) (by first | (simp; done) | (simp; omega)) (by simp [go_sem]); have k1 := hgwC.keep (b := wB.heap.size) (o := 1) (v := .int .i64 k) (by first | (simp; done) | (simp; omega)) (by simp [go_sem]); have k2 := hgwC.keep (b := wB.heap.size) (o := 2) (v := .bool l) (by first | (simp; done) | (simp; omega)) (by simp [go_sem]); have hkC := hgwC.lt (b := wB.heap.size) (by simp); have GC : Gr w wC := GB.trans GBC; clear hgwC s0 s1 s2 s3 sf0 sf1 sf2 sf3) | ((go_at_call 80; (with_reducible refine (C3.out _ GC).mono ?_); rintro e wD ⟨rfl, hgwD⟩); have GCD : Gr wC wD := (by assumption); have u0 := GCD.keep hlC t0; have u1 := GCD.keep hlC t1; have u2 := GCD.keep hlC t2; have u3 := GCD.keep hlC t3; have uf0 := GCD.thaw hlC tf0; have uf1 := GCD.thaw hlC tf1; have uf2 := GCD.thaw hlC tf2; have uf3 := GCD.thaw hlC tf3; have hlD := GCD.lt hlC; have m0 := GCD.keep hkC k0; have m1 := GCD.keep hkC k1; have m2 := GCD.keep hkC k2; have hkD := GCD.lt hkC; have GD : Gr w wD := GC.trans GCD; clear hgwD t0 t1 t2 t3 tf0 tf1 tf2 tf3 k0 k1 k2) | ((go_at_call 77; (with_reducible refine (C4.out _).mono ?_); rintro e wE ⟨rfl, hgwE⟩); have GDE : Gr wD wE := (by assumption); have v0 := GDE.keep hlD u0; have v1 := GDE.keep hlD u1; have v2 := GDE.keep hlD u2; have v3 := GDE.keep hlD u3; have vf0 := GDE.thaw hlD uf0; have vf1 := GDE.thaw hlD uf1; have vf2 := GDE.thaw hlD uf2; have vf3 := GDE.thaw hlD uf3; have hlE := GDE.lt hlD; have GE : Gr w wE := GD.trans GDE; clear hgwE u0 u1 u2 u3 uf0 uf1 uf2 uf3 m0 m1 m2))
  exact bodyPost_ret (v := .tuple #[.agg #[.int .i64 y, .int .i64 N, .bool C, .int .i64 d], .int .i64 0]) (by simp [results, Tryz.results44, go_sem, *]) rfl ⟨rfl, (by repeat (first | exact Gr.refl _ | refine Gr.setCell ?_ _ _ (by first | exact Nat.le_refl _ | (simp; omega) | (simp; done)) | refine Gr.grown ?_ _ _ | refine Gr.drewN ?_ _ | refine Gr.drew ?_ | refine Gr.alloc ?_ _ | refine Gr.grow ?_ _ | (refine Gr.trans ?_ (by assumption))))⟩
set_option maxHeartbeats 1000000 in
theorem hfrom_out (n : Int) (w : World) (h : n < -1373427 ∨ 2278650 < n) :
    Calls Tryz.prog 44 #[.int .i64 n] w fun e w' => e = .returned (.tuple #[.agg #[.int .i64 0, .int .i64 0, .bool false, .int .i64 0], .int .i64 2]) ∧ Gr w w' := by
  have C0 := Lib.hid fun W => year_out n W h
  clear h
  go_enter Tryz.func44, Tryz.ntmps44
  go_wp2_with (first | ((go_at_call 78; (with_reducible refine (C0.out _).mono ?_); rintro e wA ⟨rfl, hgwA⟩); have r0 := hgwA.keep (b := w.heap.size) (o := 0) (v := .int .i64 0) (by first | (simp; done) | (simp; omega)) (by simp [go_sem]); have r1 := hgwA.keep (b := w.heap.size) (o := 1) (v := .int .i64 0) (by first | (simp; done) | (simp; omega)) (by simp [go_sem]); have r2 := hgwA.keep (b := w.heap.size) (o := 2) (v := .bool false) (by first | (simp; done) | (simp; omega)) (by simp [go_sem]); have r3 := hgwA.keep (b := w.heap.size) (o := 3) (v := .int .i64 0) (by first | (simp; done) | (simp; omega)) (by simp [go_sem]); have rf0 := hgwA.thaw (b := w.heap.size) (o := 0) (v := false) (by first | (simp; done) | (simp; omega)) (by simp [go_sem]); have rf1 := hgwA.thaw (b := w.heap.size) (o := 1) (v := false) (by first | (simp; done) | (simp; omega)) (by simp [go_sem]); have rf2 := hgwA.thaw (b := w.heap.size) (o := 2) (v := false) (by first | (simp; done) | (simp; omega)) (by simp [go_sem]); have rf3 := hgwA.thaw (b := w.heap.size) (o := 3) (v := false) (by first | (simp; done) | (simp; omega)) (by simp [go_sem]); have hlA := hgwA.lt (b := w.heap.size) (by simp); have GA : Gr w wA := ((by repeat (first | exact Gr.refl _ | refine Gr.setCell ?_ _ _ (by first | exact Nat.le_refl _ | (simp; omega) | (simp; done)) | refine Gr.grown ?_ _ _ | refine Gr.drewN ?_ _ | refine Gr.drew ?_ | refine Gr.alloc ?_ _ | refine Gr.grow ?_ _ | (refine Gr.trans ?_ (by assumption))))); clear hgwA))
  exact bodyPost_ret (v := .tuple #[.agg #[.int .i64 0, .int .i64 0, .bool false, .int .i64 0], .int .i64 2]) (by simp [results, Tryz.results44, go_sem, *]) rfl ⟨rfl, (by repeat (first | exact Gr.refl _ | refine Gr.setCell ?_ _ _ (by first | exact Nat.le_refl _ | (simp; omega) | (simp; done)) | refine Gr.grown ?_ _ _ | refine Gr.drewN ?_ _ | refine Gr.drew ?_ | refine Gr.alloc ?_ _ | refine Gr.grow ?_ _ | (refine Gr.trans ?_ (by assumption))))⟩

/-- One date ahead of another one. -/
def dLess (y n : Int) (c : Bool) (d y' n' : Int) (c' : Bool) (d' : Int) : Bool :=
  if y = y' then (if n = n' ∧ c = c' then decide (d < d') else cLt n c n' c') else decide (y < y')
theorem dLess_at {y : Int} {j : Nat} {d : Int} {y' : Int} {j' : Nat} {d' : Int} (h : HV y j d) (h' : HV y' j' d') :
    dLess y (cN (lp y) j) (cL (lp y) j) d y' (cN (lp y') j') (cL (lp y') j') d' = decide (y < y' ∨ (y = y' ∧ (j < j' ∨ (j = j' ∧ d < d')))) := by
  unfold dLess
  by_cases e : y = y'
  · subst e
    rw [if_pos rfl]
    by_cases g : j = j'
    · subst g
      rw [if_pos ⟨rfl, rfl⟩]
      simp
    · rw [if_neg (fun ⟨a, b⟩ => g (code_inj h.j1 h'.j1 a b)), cLt_at h.j1 h'.j1]
      simp [g]
  · rw [if_neg e]
    simp [e]

end Go.Proofs.YtkiopgegdkeojaaGreatDoor.Walks
