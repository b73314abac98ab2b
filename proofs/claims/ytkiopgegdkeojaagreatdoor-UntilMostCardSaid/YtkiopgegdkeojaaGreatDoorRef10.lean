/- Walks of almanackerref10: the last day of a month, whether a date may be, its day, the date of a day, and which date stands ahead. -/
import Derived.Test.YtkiopgegdkeojaaGreatDoorHeb2
import Derived.Test.YtkiopgegdkeojaaGreatDoorRef08b
import Derived.Test.YtkiopgegdkeojaaGreatDoorRef09
set_option linter.unusedVariables false
set_option linter.unusedSimpArgs false
namespace Go.Proofs.YtkiopgegdkeojaaGreatDoor.Walks
open Go Go.RowKit Go.Sort Go.Proofs.YtkiopgegdkeojaaGreatDoor.Base Go.Proofs.YtkiopgegdkeojaaGreatDoor.Plain Go.Proofs.YtkiopgegdkeojaaGreatDoor.Math

set_option maxHeartbeats 2000000 in
theorem r10last_in (y : Int) (j : Nat) (w : World) (h0 : 1 ≤ y) (h1 : y ≤ 9999) (hj : j < mct (lp y)) :
    Calls Tryz.prog 45 #[.int .i64 y, .agg #[.int .i64 (cN (lp y) j), .bool (cL (lp y) j)]] w fun e w' => e = .returned (.tuple #[.int .i64 (mlen (kk y) (lp y) j), .int .i64 0]) ∧ Gr w w' := by
  have C1 := Lib.hid fun w => rkof_in y w h0 h1
  have C2 := Lib.hid fun w => rplace9_in (lp y) j w hj
  have C3 := Lib.hid fun W => rdays_in (kb y) (kk y) (lp y) j W (by rw [mN_year h0 h1]; exact hj)
  obtain ⟨N, hN⟩ : ∃ N, cN (lp y) j = N := ⟨_, rfl⟩
  obtain ⟨C, hC⟩ : ∃ C, cL (lp y) j = C := ⟨_, rfl⟩
  obtain ⟨l, hl⟩ : ∃ l, lp y = l := ⟨_, rfl⟩
  obtain ⟨b, hb⟩ : ∃ b, kb y = b := ⟨_, rfl⟩
  obtain ⟨k, hk⟩ : ∃ k, kk y = k := ⟨_, rfl⟩
  rw [hl, hb, hk] at C1 C3
  rw [hN, hC, hl] at C2
  rw [hN, hC, hl, hk]
  clear hN hC hl hb hk h0 h1 hj
  go_enter Tryz.func45, Tryz.ntmps45
  go_wp2_with (first | (go_at_call 36; (with_reducible refine (C1.out _).mono ?_); rintro e wA ⟨rfl, hgwA⟩; obtain ⟨hclwA, hfzwA, hszwA⟩ := gcell hgwA; (try simp [Nat.add_one_le_iff] at hszwA); have hlwA_w : w.heap.size < wA.heap.size := (by omega)) | (go_at_call 37; (with_reducible refine (C2.out _).mono ?_); rintro e wB ⟨rfl, hgwB⟩; obtain ⟨hclwB, hfzwB, hszwB⟩ := gcell hgwB; (try simp [Nat.add_one_le_iff] at hszwB); have hlwB_w : w.heap.size < wB.heap.size := (by omega); have hlwB_wA : wA.heap.size < wB.heap.size := (by omega)) | (go_at_call 81; (with_reducible refine (C3.out _).mono ?_); rintro e wC ⟨rfl, hgwC⟩; obtain ⟨hclwC, hfzwC, hszwC⟩ := gcell hgwC; (try simp [Nat.add_one_le_iff] at hszwC); have hlwC_w : w.heap.size < wC.heap.size := (by omega)))
  go_ret2
  exact ⟨rfl, (by repeat (first | exact Gr.refl _ | refine Gr.setCell ?_ _ _ (by first | exact Nat.le_refl _ | (simp; omega) | (simp; done)) | refine Gr.grown ?_ _ _ | refine Gr.drewN ?_ _ | refine Gr.drew ?_ | refine Gr.alloc ?_ _ | refine Gr.grow ?_ _ | (refine Gr.trans ?_ (by assumption))))⟩
theorem r10last_y (y n : Int) (c : Bool) (w : World) (h : y < 1 ∨ 9999 < y) :
    Calls Tryz.prog 45 #[.int .i64 y, .agg #[.int .i64 n, .bool c]] w fun e w' => e = .returned (.tuple #[.int .i64 0, .int .i64 2]) ∧ Gr w w' := by
  have C1 := Lib.hid fun w => rkof_out y w h
  clear h
  go_enter Tryz.func45, Tryz.ntmps45
  go_wp2_with (first | (go_at_call 36; (with_reducible refine (C1.out _).mono ?_); rintro e wA ⟨rfl, hgwA⟩; obtain ⟨hclwA, hfzwA, hszwA⟩ := gcell hgwA; (try simp [Nat.add_one_le_iff] at hszwA); have hlwA_w : w.heap.size < wA.heap.size := (by omega)))
  go_ret2
  exact ⟨rfl, (by repeat (first | exact Gr.refl _ | refine Gr.setCell ?_ _ _ (by first | exact Nat.le_refl _ | (simp; omega) | (simp; done)) | refine Gr.grown ?_ _ _ | refine Gr.drewN ?_ _ | refine Gr.drew ?_ | refine Gr.alloc ?_ _ | refine Gr.grow ?_ _ | (refine Gr.trans ?_ (by assumption))))⟩
set_option maxHeartbeats 1000000 in
theorem r10last_m (y n : Int) (c : Bool) (w : World) (h0 : 1 ≤ y) (h1 : y ≤ 9999) (h : cHas (lp y) n c = false) :
    Calls Tryz.prog 45 #[.int .i64 y, .agg #[.int .i64 n, .bool c]] w fun e w' => e = .returned (.tuple #[.int .i64 0, .int .i64 3]) ∧ Gr w w' := by
  have C1 := Lib.hid fun w => rkof_in y w h0 h1
  have C2 := Lib.hid fun w => rplace9_out (lp y) n c w h
  obtain ⟨l, hl⟩ : ∃ l, lp y = l := ⟨_, rfl⟩
  rw [hl] at C1 C2
  clear hl h h0 h1
  go_enter Tryz.func45, Tryz.ntmps45
  go_wp2_with (first | (go_at_call 36; (with_reducible refine (C1.out _).mono ?_); rintro e wA ⟨rfl, hgwA⟩; obtain ⟨hclwA, hfzwA, hszwA⟩ := gcell hgwA; (try simp [Nat.add_one_le_iff] at hszwA); have hlwA_w : w.heap.size < wA.heap.size := (by omega)) | (go_at_call 37; (with_reducible refine (C2.out _).mono ?_); rintro e wB ⟨rfl, hgwB⟩; obtain ⟨hclwB, hfzwB, hszwB⟩ := gcell hgwB; (try simp [Nat.add_one_le_iff] at hszwB); have hlwB_w : w.heap.size < wB.heap.size := (by omega); have hlwB_wA : wA.heap.size < wB.heap.size := (by omega)))
  go_ret2
  exact ⟨rfl, (by repeat (first | exact Gr.refl _ | refine Gr.setCell ?_ _ _ (by first | exact Nat.le_refl _ | (simp; omega) | (simp; done)) | refine Gr.grown ?_ _ _ | refine Gr.drewN ?_ _ | refine Gr.drew ?_ | refine Gr.alloc ?_ _ | refine Gr.grow ?_ _ | (refine Gr.trans ?_ (by assumption))))⟩

set_option maxHeartbeats 1000000 in
theorem r10check_in (y : Int) (j : Nat) (d : Int) (w : World) (h : HV y j d) :
    Calls Tryz.prog 23 #[.agg #[.int .i64 y, .int .i64 (cN (lp y) j), .bool (cL (lp y) j), .int .i64 d]] w fun e w' => e = .returned (.int .i64 0) ∧ Gr w w' := by
  have C1 := Lib.hid fun w => r10last_in y j w h.y0 h.y1 h.j1
  have d0 := h.d0
  have d1 := h.d1
  obtain ⟨N, hN⟩ : ∃ N, cN (lp y) j = N := ⟨_, rfl⟩
  obtain ⟨C, hC⟩ : ∃ C, cL (lp y) j = C := ⟨_, rfl⟩
  obtain ⟨L, hL⟩ : ∃ L, mlen (kk y) (lp y) j = L := ⟨_, rfl⟩
  rw [hN, hC, hL] at C1
  rw [hL] at d1
  rw [hN, hC]
  clear hN hC hL h
  go_enter Tryz.func23, Tryz.ntmps23
  go_wp2_with (first | (go_at_call 45; (with_reducible refine (C1.out _).mono ?_); rintro e wA ⟨rfl, hgwA⟩; obtain ⟨hclwA, hfzwA, hszwA⟩ := gcell hgwA; (try simp [Nat.add_one_le_iff] at hszwA); have hlwA_w : w.heap.size < wA.heap.size := (by omega)))
  go_ret
  exact ⟨rfl, (by repeat (first | exact Gr.refl _ | refine Gr.setCell ?_ _ _ (by first | exact Nat.le_refl _ | (simp; omega) | (simp; done)) | refine Gr.grown ?_ _ _ | refine Gr.drewN ?_ _ | refine Gr.drew ?_ | refine Gr.alloc ?_ _ | refine Gr.grow ?_ _ | (refine Gr.trans ?_ (by assumption))))⟩
set_option maxHeartbeats 1000000 in
theorem r10check_d (y : Int) (j : Nat) (d : Int) (w : World) (h0 : 1 ≤ y) (h1 : y ≤ 9999) (hj : j < mct (lp y)) (hd : d < 1 ∨ mlen (kk y) (lp y) j < d) :
    Calls Tryz.prog 23 #[.agg #[.int .i64 y, .int .i64 (cN (lp y) j), .bool (cL (lp y) j), .int .i64 d]] w fun e w' => e = .returned (.int .i64 4) ∧ Gr w w' := by
  have C1 := Lib.hid fun w => r10last_in y j w h0 h1 hj
  obtain ⟨N, hN⟩ : ∃ N, cN (lp y) j = N := ⟨_, rfl⟩
  obtain ⟨C, hC⟩ : ∃ C, cL (lp y) j = C := ⟨_, rfl⟩
  obtain ⟨L, hL⟩ : ∃ L, mlen (kk y) (lp y) j = L := ⟨_, rfl⟩
  rw [hN, hC, hL] at C1
  rw [hL] at hd
  rw [hN, hC]
  clear hN hC hL hj h0 h1
  by_cases g : d < 1
  · clear hd
    go_enter Tryz.func23, Tryz.ntmps23
    go_wp2_with (first | (go_at_call 45; (with_reducible refine (C1.out _).mono ?_); rintro e wA ⟨rfl, hgwA⟩; obtain ⟨hclwA, hfzwA, hszwA⟩ := gcell hgwA; (try simp [Nat.add_one_le_iff] at hszwA); have hlwA_w : w.heap.size < wA.heap.size := (by omega)))
    go_ret
    exact ⟨rfl, (by repeat (first | exact Gr.refl _ | refine Gr.setCell ?_ _ _ (by first | exact Nat.le_refl _ | (simp; omega) | (simp; done)) | refine Gr.grown ?_ _ _ | refine Gr.drewN ?_ _ | refine Gr.drew ?_ | refine Gr.alloc ?_ _ | refine Gr.grow ?_ _ | (refine Gr.trans ?_ (by assumption))))⟩
  · have g2 : L < d := by omega
    clear hd
    go_enter Tryz.func23, Tryz.ntmps23
    go_wp2_with (first | (go_at_call 45; (with_reducible refine (C1.out _).mono ?_); rintro e wA ⟨rfl, hgwA⟩; obtain ⟨hclwA, hfzwA, hszwA⟩ := gcell hgwA; (try simp [Nat.add_one_le_iff] at hszwA); have hlwA_w : w.heap.size < wA.heap.size := (by omega)))
    go_ret
    exact ⟨rfl, (by repeat (first | exact Gr.refl _ | refine Gr.setCell ?_ _ _ (by first | exact Nat.le_refl _ | (simp; omega) | (simp; done)) | refine Gr.grown ?_ _ _ | refine Gr.drewN ?_ _ | refine Gr.drew ?_ | refine Gr.alloc ?_ _ | refine Gr.grow ?_ _ | (refine Gr.trans ?_ (by assumption))))⟩
theorem r10check_e (y n d E : Int) (c : Bool) (w : World) (hE : E ≠ 0) (h : ∀ w, Calls Tryz.prog 45 #[.int .i64 y, .agg #[.int .i64 n, .bool c]] w fun e w' => e = .returned (.tuple #[.int .i64 0, .int .i64 E]) ∧ Gr w w') :
    Calls Tryz.prog 23 #[.agg #[.int .i64 y, .int .i64 n, .bool c, .int .i64 d]] w fun e w' => e = .returned (.int .i64 E) ∧ Gr w w' := by
  have C1 := Lib.hid h
  have q : (E == 0) = false := beq_eq_false_iff_ne.2 hE
  clear h hE
  go_enter Tryz.func23, Tryz.ntmps23
  go_wp2_with (first | (go_at_call 45; (with_reducible refine (C1.out _).mono ?_); rintro e wA ⟨rfl, hgwA⟩; obtain ⟨hclwA, hfzwA, hszwA⟩ := gcell hgwA; (try simp [Nat.add_one_le_iff] at hszwA); have hlwA_w : w.heap.size < wA.heap.size := (by omega)))
  go_ret
  exact ⟨rfl, (by repeat (first | exact Gr.refl _ | refine Gr.setCell ?_ _ _ (by first | exact Nat.le_refl _ | (simp; omega) | (simp; done)) | refine Gr.grown ?_ _ _ | refine Gr.drewN ?_ _ | refine Gr.drew ?_ | refine Gr.alloc ?_ _ | refine Gr.grow ?_ _ | (refine Gr.trans ?_ (by assumption))))⟩

set_option maxHeartbeats 4000000 in
theorem r10today_in (y : Int) (j : Nat) (d : Int) (w : World) (h : HV y j d) :
    Calls Tryz.prog 17 #[.agg #[.int .i64 y, .int .i64 (cN (lp y) j), .bool (cL (lp y) j), .int .i64 d]] w fun e w' => e = .returned (.tuple #[.int .i64 (hd y j d), .int .i64 0]) ∧ Gr w w' := by
  have hy0 := h.y0
  have hy1 := h.y1
  have C0 := Lib.hid fun W => r10check_in y j d W h
  have C1 := Lib.hid fun w => rkof_in y w h.y0 h.y1
  have C2 := Lib.hid fun w => rplace9_in (lp y) j w h.j1
  have C3 := Lib.hid fun w => rfirst_in y w (by omega) (by omega)
  have C4 := Lib.hid fun W => rahead_in (kb y) (kk y) (lp y) j W (by rw [mN_year h.y0 h.y1]; exact h.j1)
  have rA := fy_range (y := y) (by omega) (by omega)
  have rM := mah_range (kk y) (lp y) j
  have HD : RowKit.Hid (fy y + mah (kk y) (lp y) j + d - 1 = hd y j d) := Lib.hid rfl
  have d0 := h.d0
  have d1 : d ≤ 30 := by have := h.d1; have := mlen_range (kk y) (lp y) j; omega
  have hj := h.j1
  have m13 := mct_le (lp y)
  obtain ⟨R, hR⟩ : ∃ R, hd y j d = R := ⟨_, rfl⟩
  obtain ⟨N, hN⟩ : ∃ N, cN (lp y) j = N := ⟨_, rfl⟩
  obtain ⟨C, hC⟩ : ∃ C, cL (lp y) j = C := ⟨_, rfl⟩
  obtain ⟨S, hS⟩ : ∃ S, mah (kk y) (lp y) j = S := ⟨_, rfl⟩
  obtain ⟨l, hl⟩ : ∃ l, lp y = l := ⟨_, rfl⟩
  obtain ⟨b, hb⟩ : ∃ b, kb y = b := ⟨_, rfl⟩
  obtain ⟨k, hk⟩ : ∃ k, kk y = k := ⟨_, rfl⟩
  obtain ⟨A, hA⟩ : ∃ A, fy y = A := ⟨_, rfl⟩
  rw [hN, hC] at C0
  rw [hl, hb, hk] at C1
  rw [hN, hC, hl] at C2
  rw [hA] at C3 rA
  rw [hS, hl, hb, hk] at C4
  rw [hS] at rM
  rw [hA, hS, hR] at HD
  rw [hN, hC, hR]
  obtain ⟨a0, a1⟩ := rA
  obtain ⟨s0, s1⟩ := rM
  have s2 : S ≤ 400 := by omega
  have s3 : 0 ≤ S := by omega
  clear hR hN hC hS hl hb hk hA h m13 s0 s1 hj hy0 hy1
  go_enter Tryz.func17, Tryz.ntmps17
  go_wp2_with (first | ((go_at_call 23; (with_reducible refine (C0.out _).mono ?_); rintro e wA ⟨rfl, hgwA⟩); have c0 := hgwA.keep (b := w.heap.size) (o := 0) (v := .int .i64 y) (by first | (simp; done) | (simp; omega)) (by simp [go_sem]); have c1 := hgwA.keep (b := w.heap.size) (o := 1) (v := .int .i64 N) (by first | (simp; done) | (simp; omega)) (by simp [go_sem]); have c2 := hgwA.keep (b := w.heap.size) (o := 2) (v := .bool C) (by first | (simp; done) | (simp; omega)) (by simp [go_sem]); have c3 := hgwA.keep (b := w.heap.size) (o := 3) (v := .int .i64 d) (by first | (simp; done) | (simp; omega)) (by simp [go_sem]); have hlA := hgwA.lt (b := w.heap.size) (by simp); have GA : Gr w wA := ((by repeat (first | exact Gr.refl _ | refine Gr.setCell ?_ _ _ (by first | exact Nat.le_refl _ | (simp; omega) | (simp; done)) | refine Gr.grown ?_ _ _ | refine Gr.drewN ?_ _ | refine Gr.drew ?_ | refine Gr.alloc ?_ _ | refine Gr.grow ?_ _ | (refine Gr.trans ?_ (by assumption))))); clear hgwA) | ((go_at_call 36; (with_reducible refine (C1.out _).mono ?_); rintro e wB ⟨rfl, hgwB⟩); have GAB : Gr wA wB := (by assumption); have e0 := GAB.keep hlA c0; have e1 := GAB.keep hlA c1; have e2 := GAB.keep hlA c2; have e3 := GAB.keep hlA c3; have hlB := GAB.lt hlA; have GB : Gr w wB := GA.trans GAB; clear hgwB c0 c1 c2 c3) | ((go_at_call 37; (with_reducible refine (C2.out _).mono ?_); rintro e wC ⟨rfl, hgwC⟩); have GBC : Gr wB wC := ((by repeat (first | exact Gr.refl _ | refine Gr.setCell ?_ _ _ (by first | exact Nat.le_refl _ | (simp; omega) | (simp; done)) | refine Gr.grown ?_ _ _ | refine Gr.drewN ?_ _ | refine Gr.drew ?_ | refine Gr.alloc ?_ _ | refine Gr.grow ?_ _ | (refine Gr.trans ?_ (by assumption))))); have f0 := GBC.keep hlB e0; have f1 := GBC.keep hlB e1; have f2 := GBC.keep hlB e2; have f3 := GBC.keep hlB e3; have hlC := GBC.lt hlB; have k0 := hgwC.keep (b := wB.heap.size) (o := 0) (v := .int .i64 b) (by first | (simp; done) | (simp; omega)) (by simp [go_sem]); have k1 := hgwC.keep (b := wB.heap.size) (o := 1) (v := .int .i64 k) (by first | (simp; done) | (simp; omega)) (by simp [go_sem]); have k2 := hgwC.keep (b := wB.heap.size) (o := 2) (v := .bool l) (by first | (simp; done) | (simp; omega)) (by simp [go_sem]); have hkC := hgwC.lt (b := wB.heap.size) (by simp); have GC : Gr w wC := GB.trans GBC; clear hgwC e0 e1 e2 e3) | ((go_at_call 38; (with_reducible refine (C3.out _).mono ?_); rintro e wD ⟨rfl, hgwD⟩); have GCD : Gr wC wD := (by assumption); have u0 := GCD.keep hlC f0; have u1 := GCD.keep hlC f1; have u2 := GCD.keep hlC f2; have u3 := GCD.keep hlC f3; have hlD := GCD.lt hlC; have m0 := GCD.keep hkC k0; have m1 := GCD.keep hkC k1; have m2 := GCD.keep hkC k2; have hkD := GCD.lt hkC; have GD : Gr w wD := GC.trans GCD; clear hgwD f0 f1 f2 f3 k0 k1 k2))
  have x0 := gcell_in hlD u0; have x1 := gcell_in hlD u1; have x2 := gcell_in hlD u2; have x3 := gcell_in hlD u3
  have z0 := gcell_in hkD m0; have z1 := gcell_in hkD m1; have z2 := gcell_in hkD m2
  clear u0 u1 u2 u3 m0 m1 m2 hlD hkD hlA hlB hlC hkC GAB GBC GCD GA GB GC
  (refine wp_region_quiet_grown mixed (by kernel_rfl) ?_; (repeat (first | go_big_quiet_step ((first | (go_at_call 39; exact gr_of (C4.out _)))) | quiet_step ((first | (go_at_call 39; exact gr_of (C4.out _)))))); refine wpQuiet_nil ?_; intro _ hw'; obtain ⟨⟨nq, osq⟩, hw''⟩ := hw'; subst hw'')
  go_wp2
  go_ret2
  exact ⟨ret2 HD.out rfl, (by repeat (first | exact Gr.refl _ | refine Gr.setCell ?_ _ _ (by first | exact Nat.le_refl _ | (simp; omega) | (simp; done)) | refine Gr.grown ?_ _ _ | refine Gr.drewN ?_ _ | refine Gr.drew ?_ | refine Gr.alloc ?_ _ | refine Gr.grow ?_ _ | (refine Gr.trans ?_ (by assumption))))⟩
theorem r10today_e (y n d E : Int) (c : Bool) (w : World) (hE : E ≠ 0) (h : ∀ w, Calls Tryz.prog 23 #[.agg #[.int .i64 y, .int .i64 n, .bool c, .int .i64 d]] w fun e w' => e = .returned (.int .i64 E) ∧ Gr w w') :
    Calls Tryz.prog 17 #[.agg #[.int .i64 y, .int .i64 n, .bool c, .int .i64 d]] w fun e w' => e = .returned (.tuple #[.int .i64 0, .int .i64 E]) ∧ Gr w w' := by
  have C1 := Lib.hid h
  have q : (E == 0) = false := beq_eq_false_iff_ne.2 hE
  clear h hE
  go_enter Tryz.func17, Tryz.ntmps17
  go_wp2_with (first | (go_at_call 23; (with_reducible refine (C1.out _).mono ?_); rintro e wA ⟨rfl, hgwA⟩; obtain ⟨hclwA, hfzwA, hszwA⟩ := gcell hgwA; (try simp [Nat.add_one_le_iff] at hszwA); have hlwA_w : w.heap.size < wA.heap.size := (by omega)))
  go_ret2
  exact ⟨rfl, (by repeat (first | exact Gr.refl _ | refine Gr.setCell ?_ _ _ (by first | exact Nat.le_refl _ | (simp; omega) | (simp; done)) | refine Gr.grown ?_ _ _ | refine Gr.drewN ?_ _ | refine Gr.drew ?_ | refine Gr.alloc ?_ _ | refine Gr.grow ?_ _ | (refine Gr.trans ?_ (by assumption))))⟩

theorem rfind_w (b kd : Int) (l : Bool) (j : Nat) (r y : Int) (w : World) (hj : j < mN b kd l) (h0 : mah kd l j < r) (h1 : r ≤ mah kd l (j + 1)) (hy : r - mah kd l j = y) :
    Calls Tryz.prog 53 #[.agg #[.int .i64 b, .int .i64 kd, .bool l], .int .i64 r] w fun e w' => e = .returned (.tuple #[.int .i64 ((j : Int) + 1), .int .i64 y, .bool true]) ∧ Gr w w' := by
  subst hy
  exact rfind_in b kd l j r w hj h0 h1
set_option maxHeartbeats 4000000 in
theorem r10from_in (y : Int) (j : Nat) (d n : Int) (w : World) (h : HV y j d) (hn : hd y j d = n) :
    Calls Tryz.prog 27 #[.int .i64 n] w fun e w' => e = .returned (.tuple #[.agg #[.int .i64 y, .int .i64 (cN (lp y) j), .bool (cL (lp y) j), .int .i64 d], .int .i64 0]) ∧ Gr w w' := by
  have hy0 := h.y0
  have hy1 := h.y1
  have hr := hd_range h
  have hi := hd_in h
  rw [hn] at hr hi
  obtain ⟨n0, n1⟩ := hr
  have C0 := Lib.hid fun W => ryear_c n y W h.y0 h.y1 hi.1 hi.2
  have C1 := Lib.hid fun W => rkof_in y W h.y0 h.y1
  have C2 := Lib.hid fun w => rfirst_in y w (by omega) (by omega)
  have er : n - fy y + 1 = mah (kk y) (lp y) j + d := by rw [← hn]; unfold hd; omega
  have C3 : RowKit.Hid (∀ W, Calls Tryz.prog 53 #[.agg #[.int .i64 (kb y), .int .i64 (kk y), .bool (lp y)], .int .i64 (n - fy y + 1)] W fun e w' => e = .returned (.tuple #[.int .i64 ((j : Int) + 1), .int .i64 d, .bool true]) ∧ Gr W w') := Lib.hid fun W =>
    rfind_w _ _ _ j _ _ W (by rw [mN_year h.y0 h.y1]; exact h.j1) (by have := h.d0; omega) (by have := h.d1; simp only [mah]; omega) (by omega)
  have C4 := Lib.hid fun w => rof9_in (lp y) j w h.j1
  have rA := fy_range (y := y) (by omega) (by omega)
  obtain ⟨N, hN⟩ : ∃ N, cN (lp y) j = N := ⟨_, rfl⟩
  obtain ⟨C, hC⟩ : ∃ C, cL (lp y) j = C := ⟨_, rfl⟩
  obtain ⟨l, hl⟩ : ∃ l, lp y = l := ⟨_, rfl⟩
  obtain ⟨b, hb⟩ : ∃ b, kb y = b := ⟨_, rfl⟩
  obtain ⟨k, hk⟩ : ∃ k, kk y = k := ⟨_, rfl⟩
  obtain ⟨A, hA⟩ : ∃ A, fy y = A := ⟨_, rfl⟩
  rw [hl, hb, hk] at C1
  rw [hA] at C2 rA
  rw [hl, hb, hk, hA] at C3
  rw [hN, hC, hl] at C4
  rw [hN, hC]
  obtain ⟨a0, a1⟩ := rA
  clear hN hC hl hb hk hA h er hi hn hy0 hy1
  go_enter Tryz.func27, Tryz.ntmps27
  go_wp2_with (first | ((go_at_call 52; (with_reducible refine (C0.out _).mono ?_); rintro e wA ⟨rfl, hgwA⟩); have r0 := hgwA.keep (b := w.heap.size) (o := 0) (v := .int .i64 0) (by first | (simp; done) | (simp; omega)) (by simp [go_sem]); have r1 := hgwA.keep (b := w.heap.size) (o := 1) (v := .int .i64 0) (by first | (simp; done) | (simp; omega)) (by simp [go_sem]); have r2 := hgwA.keep (b := w.heap.size) (o := 2) (v := .bool false) (by first | (simp; done) | (simp; omega)) (by simp [go_sem]); have r3 := hgwA.keep (b := w.heap.size) (o := 3) (v := .int .i64 0) (by first | (simp; done) | (simp; omega)) (by simp [go_sem]); have rf0 := hgwA.thaw (b := w.heap.size) (o := 0) (v := false) (by first | (simp; done) | (simp; omega)) (by simp [go_sem]); have rf1 := hgwA.thaw (b := w.heap.size) (o := 1) (v := false) (by first | (simp; done) | (simp; omega)) (by simp [go_sem]); have rf2 := hgwA.thaw (b := w.heap.size) (o := 2) (v := false) (by first | (simp; done) | (simp; omega)) (by simp [go_sem]); have rf3 := hgwA.thaw (b := w.heap.size) (o := 3) (v := false) (by first | (simp; done) | (simp; omega)) (by simp [go_sem]); have hlA := hgwA.lt (b := w.heap.size) (by simp); have GA : Gr w wA := ((by repeat (first | exact Gr.refl _ | refine Gr.setCell ?_ _ _ (by first | exact Nat.le_refl _ | (simp; omega) | (simp; done)) | refine Gr.grown ?_ _ _ | refine Gr.drewN ?_ _ | refine Gr.drew ?_ | refine Gr.alloc ?_ _ | refine Gr.grow ?_ _ | (refine Gr.trans ?_ (by assumption))))); clear hgwA) | ((go_at_call 36; (with_reducible refine (C1.out _).mono ?_); rintro e wB ⟨rfl, hgwB⟩); have GAB : Gr wA wB := (by assumption); have s0 := GAB.keep hlA r0; have s1 := GAB.keep hlA r1; have s2 := GAB.keep hlA r2; have s3 := GAB.keep hlA r3; have sf0 := GAB.thaw hlA rf0; have sf1 := GAB.thaw hlA rf1; have sf2 := GAB.thaw hlA rf2; have sf3 := GAB.thaw hlA rf3; have hlB := GAB.lt hlA; have GB : Gr w wB := GA.trans GAB; clear hgwB r0 r1 r2 r3 rf0 rf1 rf2 rf3) | ((go_at_call 38; (with_reducible refine (C2.out _).mono ?_); rintro e wC ⟨rfl, hgwC⟩); have GBC : Gr wB wC := ((by repeat (first | exact Gr.refl _ | refine Gr.setCell ?_ _ _ (by first | exact Nat.le_refl _ | (simp; omega) | (simp; done)) | refine Gr.grown ?_ _ _ | refine Gr.drewN ?_ _ | refine Gr.drew ?_ | refine Gr.alloc ?_ _ | refine Gr.grow ?_ _ | (refine Gr.trans ?_ (by assumption))))); have t0 := GBC.keep hlB s0; have t1 := GBC.keep hlB s1; have t2 := GBC.keep hlB s2; have t3 := GBC.keep hlB s3; have tf0 := GBC.thaw hlB sf0; have tf1 := GBC.thaw hlB sf1; have tf2 := GBC.thaw hlB sf2; have tf3 := GBC.thaw hlB sf3; have hlC := GBC.lt hlB; have k0 := hgwC.keep (b := wB.heap.size) (o := 0) (v := .int .i64 b) (by first | (simp; done) | (simp; omega)) (by simp [go_sem]); have k1 := hgwC.keep (b := wB.heap.size) (o := 1) (v := .int .i64 k) (by first | (simp; done) | (simp; omega)) (by simp [go_sem]); have k2 := hgwC.keep (b := wB.heap.size) (o := 2) (v := .bool l) (by first | (simp; done) | (simp; omega)) (by simp [go_sem]); have hkC := hgwC.lt (b := wB.heap.size) (by simp); have GC : Gr w wC := GB.trans GBC; clear hgwC s0 s1 s2 s3 sf0 sf1 sf2 sf3) | ((go_at_call 53; (with_reducible refine (C3.out _).mono ?_); rintro e wD ⟨rfl, hgwD⟩); have GCD : Gr wC wD := (by assumption); have u0 := GCD.keep hlC t0; have u1 := GCD.keep hlC t1; have u2 := GCD.keep hlC t2; have u3 := GCD.keep hlC t3; have uf0 := GCD.thaw hlC tf0; have uf1 := GCD.thaw hlC tf1; have uf2 := GCD.thaw hlC tf2; have uf3 := GCD.thaw hlC tf3; have hlD := GCD.lt hlC; have m0 := GCD.keep hkC k0; have m1 := GCD.keep hkC k1; have m2 := GCD.keep hkC k2; have hkD := GCD.lt hkC; have GD : Gr w wD := GC.trans GCD; clear hgwD t0 t1 t2 t3 tf0 tf1 tf2 tf3 k0 k1 k2) | ((go_at_call 51; (with_reducible refine (C4.out _).mono ?_); rintro e wE ⟨rfl, hgwE⟩); have GDE : Gr wD wE := (by assumption); have v0 := GDE.keep hlD u0; have v1 := GDE.keep hlD u1; have v2 := GDE.keep hlD u2; have v3 := GDE.keep hlD u3; have vf0 := GDE.thaw hlD uf0; have vf1 := GDE.thaw hlD uf1; have vf2 := GDE.thaw hlD uf2; have vf3 := GDE.thaw hlD uf3; have hlE := GDE.lt hlD; have GE : Gr w wE := GD.trans GDE; clear hgwE u0 u1 u2 u3 uf0 uf1 uf2 uf3 m0 m1 m2))
  exact bodyPost_ret (v := .tuple #[.agg #[.int .i64 y, .int .i64 N, .bool C, .int .i64 d], .int .i64 0]) (by simp [results, Tryz.results27, go_sem, *]) rfl ⟨rfl, (by repeat (first | exact Gr.refl _ | refine Gr.setCell ?_ _ _ (by first | exact Nat.le_refl _ | (simp; omega) | (simp; done)) | refine Gr.grown ?_ _ _ | refine Gr.drewN ?_ _ | refine Gr.drew ?_ | refine Gr.alloc ?_ _ | refine Gr.grow ?_ _ | (refine Gr.trans ?_ (by assumption))))⟩
set_option maxHeartbeats 1000000 in
theorem r10from_out (n : Int) (w : World) (h : n < -1373427 ∨ 2278650 < n) :
    Calls Tryz.prog 27 #[.int .i64 n] w fun e w' => e = .returned (.tuple #[.agg #[.int .i64 0, .int .i64 0, .bool false, .int .i64 0], .int .i64 2]) ∧ Gr w w' := by
  have C0 := Lib.hid fun W => ryear_out n W h
  clear h
  go_enter Tryz.func27, Tryz.ntmps27
  go_wp2_with (first | ((go_at_call 52; (with_reducible refine (C0.out _).mono ?_); rintro e wA ⟨rfl, hgwA⟩); have r0 := hgwA.keep (b := w.heap.size) (o := 0) (v := .int .i64 0) (by first | (simp; done) | (simp; omega)) (by simp [go_sem]); have r1 := hgwA.keep (b := w.heap.size) (o := 1) (v := .int .i64 0) (by first | (simp; done) | (simp; omega)) (by simp [go_sem]); have r2 := hgwA.keep (b := w.heap.size) (o := 2) (v := .bool false) (by first | (simp; done) | (simp; omega)) (by simp [go_sem]); have r3 := hgwA.keep (b := w.heap.size) (o := 3) (v := .int .i64 0) (by first | (simp; done) | (simp; omega)) (by simp [go_sem]); have rf0 := hgwA.thaw (b := w.heap.size) (o := 0) (v := false) (by first | (simp; done) | (simp; omega)) (by simp [go_sem]); have rf1 := hgwA.thaw (b := w.heap.size) (o := 1) (v := false) (by first | (simp; done) | (simp; omega)) (by simp [go_sem]); have rf2 := hgwA.thaw (b := w.heap.size) (o := 2) (v := false) (by first | (simp; done) | (simp; omega)) (by simp [go_sem]); have rf3 := hgwA.thaw (b := w.heap.size) (o := 3) (v := false) (by first | (simp; done) | (simp; omega)) (by simp [go_sem]); have hlA := hgwA.lt (b := w.heap.size) (by simp); have GA : Gr w wA := ((by repeat (first | exact Gr.refl _ | refine Gr.setCell ?_ _ _ (by first | exact Nat.le_refl _ | (simp; omega) | (simp; done)) | refine Gr.grown ?_ _ _ | refine Gr.drewN ?_ _ | refine Gr.drew ?_ | refine Gr.alloc ?_ _ | refine Gr.grow ?_ _ | (refine Gr.trans ?_ (by assumption))))); clear hgwA))
  exact bodyPost_ret (v := .tuple #[.agg #[.int .i64 0, .int .i64 0, .bool false, .int .i64 0], .int .i64 2]) (by simp [results, Tryz.results27, go_sem, *]) rfl ⟨rfl, (by repeat (first | exact Gr.refl _ | refine Gr.setCell ?_ _ _ (by first | exact Nat.le_refl _ | (simp; omega) | (simp; done)) | refine Gr.grown ?_ _ _ | refine Gr.drewN ?_ _ | refine Gr.drew ?_ | refine Gr.alloc ?_ _ | refine Gr.grow ?_ _ | (refine Gr.trans ?_ (by assumption))))⟩


end Go.Proofs.YtkiopgegdkeojaaGreatDoor.Walks
