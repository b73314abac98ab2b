/- Walks of almanackerref17: one test, how many fit. -/
import Derived.Test.YtkiopgegdkeojaaGreatDoorUntilA
import Derived.Test.YtkiopgegdkeojaaGreatDoorRef16n
set_option linter.unusedVariables false
set_option linter.unusedSimpArgs false
namespace Go.Proofs.YtkiopgegdkeojaaGreatDoor.Walks
open Go Go.RowKit Go.Sort Go.Proofs.YtkiopgegdkeojaaGreatDoor.Base Go.Proofs.YtkiopgegdkeojaaGreatDoor.Plain Go.Proofs.YtkiopgegdkeojaaGreatDoor.Math

theorem rwith_y (p q r z k : Int) (w : World) : Calls Tryz.prog 61 #[.agg #[.int .i64 p, .int .i64 q, .int .i64 r, .int .i64 z], .int .i64 3, .int .i64 k] w fun e w' => e = .returned (.agg #[.int .i64 k, .int .i64 q, .int .i64 r, .int .i64 z]) ∧ Gr w w' := by
  go_enter Tryz.func61, Tryz.ntmps61
  go_wp2
  exact bodyPost_ret (v := .agg #[.int .i64 k, .int .i64 q, .int .i64 r, .int .i64 z]) (by simp [results, Tryz.results61, go_sem, *]) rfl ⟨rfl, (by repeat (first | exact Gr.refl _ | refine Gr.setCell ?_ _ _ (by first | exact Nat.le_refl _ | (simp; omega) | (simp; done) | (show (_ : Nat) ≤ _; omega)) | refine Gr.grown ?_ _ _ | refine Gr.drewN ?_ _ | refine Gr.drew ?_ | refine Gr.alloc ?_ _ | refine Gr.grow ?_ _ | (refine Gr.trans ?_ (by assumption))))⟩
theorem rwith_m (p q r z k : Int) (w : World) : Calls Tryz.prog 61 #[.agg #[.int .i64 p, .int .i64 q, .int .i64 r, .int .i64 z], .int .i64 2, .int .i64 k] w fun e w' => e = .returned (.agg #[.int .i64 p, .int .i64 k, .int .i64 r, .int .i64 z]) ∧ Gr w w' := by
  go_enter Tryz.func61, Tryz.ntmps61
  go_wp2
  exact bodyPost_ret (v := .agg #[.int .i64 p, .int .i64 k, .int .i64 r, .int .i64 z]) (by simp [results, Tryz.results61, go_sem, *]) rfl ⟨rfl, (by repeat (first | exact Gr.refl _ | refine Gr.setCell ?_ _ _ (by first | exact Nat.le_refl _ | (simp; omega) | (simp; done) | (show (_ : Nat) ≤ _; omega)) | refine Gr.grown ?_ _ _ | refine Gr.drewN ?_ _ | refine Gr.drew ?_ | refine Gr.alloc ?_ _ | refine Gr.grow ?_ _ | (refine Gr.trans ?_ (by assumption))))⟩
set_option maxHeartbeats 4000000 in
theorem beyond_no (y n d t s p q E : Int) (c : Bool) (w : World) (hE : E ≠ 0)
    (c1 : ∀ W, Calls Tryz.prog 8 #[.agg #[.int .i64 y, .int .i64 n, .bool c, .int .i64 d], .agg #[.int .i64 p, .int .i64 q, .int .i64 0, .int .i64 0], .int .i64 0] W fun e w' => e = .returned (.tuple #[.agg #[.int .i64 0, .int .i64 0, .bool false, .int .i64 0], .int .i64 E]) ∧ Gr W w') :
    Calls Tryz.prog 60 #[.agg #[.int .i64 y, .int .i64 n, .bool c, .int .i64 d], .agg #[.int .i64 p, .int .i64 q, .int .i64 0, .int .i64 0], .int .i64 t, .int .i64 s] w fun e w' => e = .returned (.bool true) ∧ Gr w w' := by
  have C1 := Lib.hid c1
  have e1 : (E == 0) = false := beq_eq_false_iff_ne.2 hE
  have e2 : (E != 0) = true := by simp [bne_iff_ne, hE]
  clear c1
  go_enter Tryz.func60, Tryz.ntmps60
  go_wp2_with (first | (go_at_call 8; (with_reducible refine (C1.out _).mono ?_); rintro e wA ⟨rfl, hgwA⟩))
  go_ret
  exact ⟨rfl, (by repeat (first | exact Gr.refl _ | refine Gr.setCell ?_ _ _ (by first | exact Nat.le_refl _ | (simp; omega) | (simp; done)) | refine Gr.grown ?_ _ _ | refine Gr.drewN ?_ _ | refine Gr.drew ?_ | refine Gr.alloc ?_ _ | refine Gr.grow ?_ _ | (refine Gr.trans ?_ (by assumption))))⟩
set_option maxRecDepth 20000 in
set_option maxHeartbeats 4000000 in
theorem beyond_in (y n d t s p q R1 R2 R4 X : Int) (c R3 B : Bool) (w : World) (hs : s = 1 ∨ s = -1) (t0 : -1500000 ≤ t) (t1 : t ≤ 2300000) (x0 : -1500000 ≤ X) (x1 : X ≤ 2300000) (hB : decide (0 < s * (X - t)) = B)
    (c1 : ∀ W, Calls Tryz.prog 8 #[.agg #[.int .i64 y, .int .i64 n, .bool c, .int .i64 d], .agg #[.int .i64 p, .int .i64 q, .int .i64 0, .int .i64 0], .int .i64 0] W fun e w' => e = .returned (.tuple #[.agg #[.int .i64 R1, .int .i64 R2, .bool R3, .int .i64 R4], .int .i64 0]) ∧ Gr W w')
    (c2 : ∀ W, Calls Tryz.prog 17 #[.agg #[.int .i64 R1, .int .i64 R2, .bool R3, .int .i64 R4]] W fun e w' => e = .returned (.tuple #[.int .i64 X, .int .i64 0]) ∧ Gr W w') :
    Calls Tryz.prog 60 #[.agg #[.int .i64 y, .int .i64 n, .bool c, .int .i64 d], .agg #[.int .i64 p, .int .i64 q, .int .i64 0, .int .i64 0], .int .i64 t, .int .i64 s] w fun e w' => e = .returned (.bool B) ∧ Gr w w' := by
  have C1 := Lib.hid c1
  have C2 := Lib.hid c2
  have hW : IntKind.i64.wrap ((X - t) * s) = (X - t) * s := by rw [IntKind.wrap_i64]; rcases hs with rfl | rfl <;> omega
  have hB2 : decide (0 < (X - t) * s) = B := by rw [Int.mul_comm]; exact hB
  clear c1 c2 hB
  go_enter Tryz.func60, Tryz.ntmps60
  go_wp2_with (first | (go_at_call 8; (with_reducible refine (C1.out _).mono ?_); rintro e wA ⟨rfl, hgwA⟩; obtain ⟨hclwA, hfzwA, hszwA⟩ := gcell hgwA; (try simp [Nat.add_one_le_iff] at hszwA); have hlwA_w : w.heap.size < wA.heap.size := (by omega)) | (go_at_call 17; (with_reducible refine (C2.out _).mono ?_); rintro e wB ⟨rfl, hgwB⟩; obtain ⟨hclwB, hfzwB, hszwB⟩ := gcell hgwB; (try simp [Nat.add_one_le_iff] at hszwB); have hlwB_w : w.heap.size < wB.heap.size := (by omega); have hlwB_wA : wA.heap.size < wB.heap.size := (by omega)))
  go_ret
  refine ⟨by simp [hW, hB2], (by repeat (first | exact Gr.refl _ | refine Gr.setCell ?_ _ _ (by first | exact Nat.le_refl _ | (simp; omega) | (simp; done)) | refine Gr.grown ?_ _ _ | refine Gr.drewN ?_ _ | refine Gr.drew ?_ | refine Gr.alloc ?_ _ | refine Gr.grow ?_ _ | (refine Gr.trans ?_ (by assumption))))⟩
theorem rmost_new (w : World) (y n d p q : Int) (c : Bool) : ∃ W, W = ((w.alloc (.cells #[.int .i64 y, .int .i64 n, .bool c, .int .i64 d] 25)).alloc (.cells #[.int .i64 p, .int .i64 q, .int .i64 0, .int .i64 0] 27)).alloc (.cells #[.int .i64 0, .int .i64 0, .int .i64 0, .int .i64 0] 27) ∧
    D5 W w.heap.size y n c d ∧ S5 W (w.heap.size + 1) p q 0 0 ∧ S5 W (w.heap.size + 1 + 1) 0 0 0 0 ∧ Gr w W := by
  refine ⟨_, rfl, ?_, ?_, S5.at (by simp) 0 0 0 0, (((Gr.refl _).alloc _).alloc _).alloc _⟩
  · exact (D5.at rfl y n d c).gr (((Gr.refl _).alloc _).alloc _)
  · exact (S5.at (by simp) p q 0 0).gr ((Gr.refl _).alloc _)
set_option maxRecDepth 20000 in
set_option maxHeartbeats 8000000 in
theorem rmost_c (y n d t s p q u tp M : Int) (P Q : Int → Int) (c : Bool) (top N : Nat) (w : World) (hs : s = 1 ∨ s = -1) (ht : (top : Int) = tp) (h1 : top ≤ 200000) (hN : N < top) (hM : s * (N : Int) = M)
    (cw : ∀ W k, Calls Tryz.prog 61 #[.agg #[.int .i64 p, .int .i64 q, .int .i64 0, .int .i64 0], .int .i64 u, .int .i64 k] W fun e w' => e = .returned (.agg #[.int .i64 (P k), .int .i64 (Q k), .int .i64 0, .int .i64 0]) ∧ Gr W w')
    (cp : ∀ W (k : Nat), 1 ≤ k → k < top → Calls Tryz.prog 60 #[.agg #[.int .i64 y, .int .i64 n, .bool c, .int .i64 d], .agg #[.int .i64 (P (s * (k : Int))), .int .i64 (Q (s * (k : Int))), .int .i64 0, .int .i64 0], .int .i64 t, .int .i64 s] W fun e w' => e = .returned (.bool (decide (N < k))) ∧ Gr W w') :
    Calls Tryz.prog 35 #[.agg #[.int .i64 y, .int .i64 n, .bool c, .int .i64 d], .agg #[.int .i64 p, .int .i64 q, .int .i64 0, .int .i64 0], .int .i64 u, .int .i64 t, .int .i64 s, .int .i64 tp] w fun e w' => e = .returned (.agg #[.int .i64 (P M), .int .i64 (Q M), .int .i64 0, .int .i64 0]) ∧ Gr w w' := by
  have CW := Lib.hid cw
  have CP := Lib.hid cp
  have HW := Lib.hid (fun i : Nat => fun (h : i < top) => show IntKind.i64.wrap (s * (i : Int)) = s * (i : Int) by rw [IntKind.wrap_i64]; rcases hs with rfl | rfl <;> omega)
  have hM2 : IntKind.i64.wrap (s * (N : Int)) = M := by rw [IntKind.wrap_i64]; rcases hs with rfl | rfl <;> omega
  have hM3 : wrap64 M = M := by unfold wrap64; rw [← hM]; rcases hs with rfl | rfl <;> omega
  have HM := Lib.hid hM
  subst ht
  clear cw cp hs hM
  go_enter Tryz.func35, Tryz.ntmps35
  go_wp2
  obtain ⟨W0, hW0, DA, SA, SR, G0⟩ := rmost_new w y n d p q c
  rw [← hW0]
  clear hW0
  obtain ⟨a0, ha0⟩ : ∃ b, b = w.heap.size := ⟨_, rfl⟩
  obtain ⟨b0, hb0⟩ : ∃ b, b = w.heap.size + 1 := ⟨_, rfl⟩
  obtain ⟨r0, hr0⟩ : ∃ b, b = w.heap.size + 1 + 1 := ⟨_, rfl⟩
  have lr0 : w.heap.size ≤ r0 := by omega
  rw [← hr0] at SR ⊢
  rw [← hb0] at SA ⊢
  rw [← ha0] at DA ⊢
  clear hr0 hb0 ha0
  go_loopg [13, 14] top (fun kx s13 s14 wr => ∃ (lo hi : Nat), s13 = .int .i64 lo ∧ s14 = .int .i64 hi ∧ lo ≤ N ∧ N < hi ∧ hi ≤ top ∧ hi - lo ≤ kx ∧ Gr W0 wr)
  case atStart => exact ⟨0, top, rfl, rfl, Nat.zero_le _, hN, Nat.le_refl _, by omega, Gr.refl _⟩
  case round =>
    obtain ⟨lo, hi, rfl, rfl, h2, h3, h4, h5, hg0⟩ := hrel
    by_cases hlt : lo + 1 < hi
    · have q1 : (((lo + hi) / 2 : Nat) : Int) = ((lo : Int) + (hi : Int)) / 2 := by omega
      have q2 := HW.out ((lo + hi) / 2) (by omega)
      have hc := fun W => CP.out W ((lo + hi) / 2) (by omega) (by omega)
      have hw := fun W => CW.out W (s * (((lo : Int) + (hi : Int)) / 2))
      rw [q1] at q2 hc
      have DB := DA.gr hg0
      have SC := SA.gr hg0
      have k0 := gcell_in DB.lt DB.c0
      have k1 := gcell_in DB.lt DB.c1
      have k2 := gcell_in DB.lt DB.c2
      have k3 := gcell_in DB.lt DB.c3
      have m0 := gcell_in SC.lt SC.c0
      have m1 := gcell_in SC.lt SC.c1
      have m2 := gcell_in SC.lt SC.c2
      have m3 := gcell_in SC.lt SC.c3
      clear DB SC
      by_cases hp : N < (lo + hi) / 2
      · rw [decide_eq_true hp] at hc
        have HC := Lib.hid hc
        have HV_ := Lib.hid hw
        clear hc hw
        go_wp2
        (refine wp_region_quiet_grown mixed (by kernel_rfl) ?_; (repeat (first | go_big_quiet_step ((first | (go_at_call 61; exact gr_of (HV_.out _)) | (go_at_call 60; exact gr_of (HC.out _)))) | quiet_step ((first | (go_at_call 61; exact gr_of (HV_.out _)) | (go_at_call 60; exact gr_of (HC.out _)))))); refine wpQuiet_nil ?_; intro _ hw'; obtain ⟨⟨nq, osq⟩, hw''⟩ := hw'; subst hw'')
        go_wp2
        go_roundg ((lo + hi) / 2 - lo)
        case measure => omega
        case rel => exact ⟨lo, (lo + hi) / 2, rfl, by rw [q1], h2, hp, by omega, Nat.le_refl _, hg0.trans ((by repeat (first | exact Gr.refl _ | refine Gr.setCell ?_ _ _ (by first | exact Nat.le_refl _ | (simp; omega) | (simp; done)) | refine Gr.grown ?_ _ _ | refine Gr.drewN ?_ _ | refine Gr.drew ?_ | refine Gr.alloc ?_ _ | refine Gr.grow ?_ _ | (refine Gr.trans ?_ (by assumption)))))⟩
      · rw [decide_eq_false hp] at hc
        have HC := Lib.hid hc
        have HV_ := Lib.hid hw
        clear hc hw
        go_wp2
        (refine wp_region_quiet_grown mixed (by kernel_rfl) ?_; (repeat (first | go_big_quiet_step ((first | (go_at_call 61; exact gr_of (HV_.out _)) | (go_at_call 60; exact gr_of (HC.out _)))) | quiet_step ((first | (go_at_call 61; exact gr_of (HV_.out _)) | (go_at_call 60; exact gr_of (HC.out _)))))); refine wpQuiet_nil ?_; intro _ hw'; obtain ⟨⟨nq, osq⟩, hw''⟩ := hw'; subst hw'')
        go_wp2
        go_roundg (hi - (lo + hi) / 2)
        case measure => omega
        case rel => exact ⟨(lo + hi) / 2, hi, by rw [q1], rfl, by omega, h3, h4, Nat.le_refl _, hg0.trans ((by repeat (first | exact Gr.refl _ | refine Gr.setCell ?_ _ _ (by first | exact Nat.le_refl _ | (simp; omega) | (simp; done)) | refine Gr.grown ?_ _ _ | refine Gr.drewN ?_ _ | refine Gr.drew ?_ | refine Gr.alloc ?_ _ | refine Gr.grow ?_ _ | (refine Gr.trans ?_ (by assumption)))))⟩
    · obtain rfl : lo = N := by omega
      have hw := fun W => CW.out W M
      have HV_ := Lib.hid hw
      clear hw
      have SB := SR.gr hg0
      have GB := G0.trans hg0
      obtain ⟨la, m0, m1, m2, m3, v0, v1, v2, v3⟩ := SA.gr hg0
      clear SR SA DA
      go_wp2_with (first | ((go_at_call 61; (with_reducible refine (HV_.out _).mono ?_); rintro e wX ⟨rfl, hgwX⟩); have SX := SB.gr hgwX; obtain ⟨lx, x0, x1, x2, x3, f0, f1, f2, f3⟩ := SX))
      exact bodyPost_ret (v := .agg #[.int .i64 (P M), .int .i64 (Q M), .int .i64 0, .int .i64 0]) (by simp [results, Tryz.results35, go_sem, *]) rfl ⟨rfl, (by repeat (first | exact Gr.refl _ | refine Gr.setCell ?_ _ _ (by first | exact Nat.le_refl _ | (simp; omega) | (simp; done) | (show (_ : Nat) ≤ _; omega)) | refine Gr.grown ?_ _ _ | refine Gr.drewN ?_ _ | refine Gr.drew ?_ | refine Gr.alloc ?_ _ | refine Gr.grow ?_ _ | (refine Gr.trans ?_ (by assumption))))⟩

end Go.Proofs.YtkiopgegdkeojaaGreatDoor.Walks

/- The walk of almanackerref17.Date. -/
namespace Go.Proofs.YtkiopgegdkeojaaGreatDoor.Walks
open Go Go.RowKit Go.Sort Go.Proofs.YtkiopgegdkeojaaGreatDoor.Base Go.Proofs.YtkiopgegdkeojaaGreatDoor.Plain Go.Proofs.YtkiopgegdkeojaaGreatDoor.Math

set_option maxRecDepth 20000 in
set_option maxHeartbeats 8000000 in
theorem rudate_unit (y n d y' n' d' u : Int) (c c' : Bool) (w : World) (h : u < 0 ∨ 3 < u) :
    Calls Tryz.prog 15 #[.agg #[.int .i64 y, .int .i64 n, .bool c, .int .i64 d], .agg #[.int .i64 y', .int .i64 n', .bool c', .int .i64 d'], .int .i64 u] w fun e w' => e = .returned (.tuple #[.agg #[.int .i64 0, .int .i64 0, .int .i64 0, .int .i64 0], .int .i64 1]) ∧ Gr w w' := by
  by_cases h0 : u < 0
  · clear h
    go_enter Tryz.func15, Tryz.ntmps15
    go_wp2
    exact bodyPost_ret (v := .tuple #[.agg #[.int .i64 0, .int .i64 0, .int .i64 0, .int .i64 0], .int .i64 1]) (by simp [results, Tryz.results15, go_sem, *]) rfl ⟨rfl, (by repeat (first | exact Gr.refl _ | refine Gr.setCell ?_ _ _ (by first | exact Nat.le_refl _ | (simp; omega) | (simp; done)) | refine Gr.grown ?_ _ _ | refine Gr.drewN ?_ _ | refine Gr.drew ?_ | refine Gr.alloc ?_ _ | refine Gr.grow ?_ _ | (refine Gr.trans ?_ (by assumption))))⟩
  · have h1 : 3 < u := by omega
    clear h
    go_enter Tryz.func15, Tryz.ntmps15
    go_wp2
    exact bodyPost_ret (v := .tuple #[.agg #[.int .i64 0, .int .i64 0, .int .i64 0, .int .i64 0], .int .i64 1]) (by simp [results, Tryz.results15, go_sem, *]) rfl ⟨rfl, (by repeat (first | exact Gr.refl _ | refine Gr.setCell ?_ _ _ (by first | exact Nat.le_refl _ | (simp; omega) | (simp; done)) | refine Gr.grown ?_ _ _ | refine Gr.drewN ?_ _ | refine Gr.drew ?_ | refine Gr.alloc ?_ _ | refine Gr.grow ?_ _ | (refine Gr.trans ?_ (by assumption))))⟩
set_option maxRecDepth 20000 in
set_option maxHeartbeats 8000000 in
theorem rudate_a (y n d y' n' d' u E : Int) (c c' : Bool) (w : World) (u0 : 0 ≤ u) (u1 : u ≤ 3) (hE : E ≠ 0)
    (c1 : ∀ W, Gr w W → Calls Tryz.prog 17 #[.agg #[.int .i64 y, .int .i64 n, .bool c, .int .i64 d]] W fun e w' => e = .returned (.tuple #[.int .i64 0, .int .i64 E]) ∧ Gr W w') :
    Calls Tryz.prog 15 #[.agg #[.int .i64 y, .int .i64 n, .bool c, .int .i64 d], .agg #[.int .i64 y', .int .i64 n', .bool c', .int .i64 d'], .int .i64 u] w fun e w' => e = .returned (.tuple #[.agg #[.int .i64 0, .int .i64 0, .int .i64 0, .int .i64 0], .int .i64 E]) ∧ Gr w w' := by
  have C1 := Lib.hid c1
  have e1 : (E == 0) = false := beq_eq_false_iff_ne.2 hE
  have e2 : (E != 0) = true := by simp [bne_iff_ne, hE]
  clear c1
  go_enter Tryz.func15, Tryz.ntmps15
  go_wp2_with (first | (go_at_call 17; fail))
  obtain ⟨W0, hW0, DA, DB, SR, G0⟩ := udate_new w y n d y' n' d' c c'
  rw [← hW0]
  clear hW0
  obtain ⟨a0, ha0⟩ : ∃ b, b = w.heap.size := ⟨_, rfl⟩
  obtain ⟨b0, hb0⟩ : ∃ b, b = w.heap.size + 1 := ⟨_, rfl⟩
  obtain ⟨r0, hr0⟩ : ∃ b, b = w.heap.size + 1 + 1 := ⟨_, rfl⟩
  have lr0 : w.heap.size ≤ r0 := by omega
  rw [← hr0] at SR ⊢
  rw [← hb0] at DB ⊢
  rw [← ha0] at DA ⊢
  clear hr0 hb0 ha0
  refine (C1.out W0 G0).mono ?_
  rintro e wA ⟨rfl, hgA⟩
  have DA := DA.gr hgA
  have DB := DB.gr hgA
  have SR := SR.gr hgA
  have GA := G0.trans hgA
  clear hgA
  obtain ⟨lr, r0', r1, r2, r3, f0, f1, f2, f3⟩ := SR
  go_wp2
  exact bodyPost_ret (v := .tuple #[.agg #[.int .i64 0, .int .i64 0, .int .i64 0, .int .i64 0], .int .i64 E]) (by simp [results, Tryz.results15, go_sem, *]) rfl ⟨rfl, (by repeat (first | exact Gr.refl _ | refine Gr.setCell ?_ _ _ (by first | exact Nat.le_refl _ | (simp; omega) | (simp; done) | (show (_ : Nat) ≤ _; omega)) | refine Gr.grown ?_ _ _ | refine Gr.drewN ?_ _ | refine Gr.drew ?_ | refine Gr.alloc ?_ _ | refine Gr.grow ?_ _ | (refine Gr.trans ?_ (by assumption))))⟩
set_option maxRecDepth 20000 in
set_option maxHeartbeats 8000000 in
theorem rudate_b (y n d y' n' d' u E X : Int) (c c' : Bool) (w : World) (u0 : 0 ≤ u) (u1 : u ≤ 3) (hE : E ≠ 0)
    (c1 : ∀ W, Gr w W → Calls Tryz.prog 17 #[.agg #[.int .i64 y, .int .i64 n, .bool c, .int .i64 d]] W fun e w' => e = .returned (.tuple #[.int .i64 X, .int .i64 0]) ∧ Gr W w')
    (c2 : ∀ W, Gr w W → Calls Tryz.prog 17 #[.agg #[.int .i64 y', .int .i64 n', .bool c', .int .i64 d']] W fun e w' => e = .returned (.tuple #[.int .i64 0, .int .i64 E]) ∧ Gr W w') :
    Calls Tryz.prog 15 #[.agg #[.int .i64 y, .int .i64 n, .bool c, .int .i64 d], .agg #[.int .i64 y', .int .i64 n', .bool c', .int .i64 d'], .int .i64 u] w fun e w' => e = .returned (.tuple #[.agg #[.int .i64 0, .int .i64 0, .int .i64 0, .int .i64 0], .int .i64 E]) ∧ Gr w w' := by
  have C1 := Lib.hid c1
  have C2 := Lib.hid c2
  have e1 : (E == 0) = false := beq_eq_false_iff_ne.2 hE
  have e2 : (E != 0) = true := by simp [bne_iff_ne, hE]
  clear c1 c2
  go_enter Tryz.func15, Tryz.ntmps15
  go_wp2_with (first | (go_at_call 17; fail))
  obtain ⟨W0, hW0, DA, DB, SR, G0⟩ := udate_new w y n d y' n' d' c c'
  rw [← hW0]
  clear hW0
  obtain ⟨a0, ha0⟩ : ∃ b, b = w.heap.size := ⟨_, rfl⟩
  obtain ⟨b0, hb0⟩ : ∃ b, b = w.heap.size + 1 := ⟨_, rfl⟩
  obtain ⟨r0, hr0⟩ : ∃ b, b = w.heap.size + 1 + 1 := ⟨_, rfl⟩
  have lr0 : w.heap.size ≤ r0 := by omega
  rw [← hr0] at SR ⊢
  rw [← hb0] at DB ⊢
  rw [← ha0] at DA ⊢
  clear hr0 hb0 ha0
  refine (C1.out W0 G0).mono ?_
  rintro e wA ⟨rfl, hgA⟩
  have DA := DA.gr hgA
  have DB := DB.gr hgA
  have SR := SR.gr hgA
  have GA := G0.trans hgA
  clear hgA
  obtain ⟨lb, x0, x1, x2, x3, z0, z1, z2, z3⟩ := DB
  go_wp2_with (first | ((go_at_call 17; (with_reducible refine (C2.out _ ((by repeat (first | exact Gr.refl _ | refine Gr.setCell ?_ _ _ (by first | exact Nat.le_refl _ | (simp; omega) | (simp; done)) | refine Gr.grown ?_ _ _ | refine Gr.drewN ?_ _ | refine Gr.drew ?_ | refine Gr.alloc ?_ _ | refine Gr.grow ?_ _ | (refine Gr.trans ?_ (by assumption)))))).mono ?_); rintro e wB ⟨rfl, hgwB⟩); have DA := DA.gr hgwB; have SR := SR.gr hgwB; have GB := GA.trans hgwB; clear hgwB lb x0 x1 x2 x3 z0 z1 z2 z3 GA; obtain ⟨lr, r0', r1, r2, r3, f0, f1, f2, f3⟩ := SR))
  exact bodyPost_ret (v := .tuple #[.agg #[.int .i64 0, .int .i64 0, .int .i64 0, .int .i64 0], .int .i64 E]) (by simp [results, Tryz.results15, go_sem, *]) rfl ⟨rfl, (by repeat (first | exact Gr.refl _ | refine Gr.setCell ?_ _ _ (by first | exact Nat.le_refl _ | (simp; omega) | (simp; done) | (show (_ : Nat) ≤ _; omega)) | refine Gr.grown ?_ _ _ | refine Gr.drewN ?_ _ | refine Gr.drew ?_ | refine Gr.alloc ?_ _ | refine Gr.grow ?_ _ | (refine Gr.trans ?_ (by assumption))))⟩
set_option maxRecDepth 20000 in
set_option maxHeartbeats 8000000 in
theorem rudate_1 (y n d y' n' d' X T Q R : Int) (c c' : Bool) (w : World) (X0 : -1500000 ≤ X) (X1 : X ≤ 2300000) (T0 : -1500000 ≤ T) (T1 : T ≤ 2300000) (hQ : (T - X).tdiv 7 = Q) (hR : (T - X).tmod 7 = R)
    (c1 : ∀ W, Gr w W → Calls Tryz.prog 17 #[.agg #[.int .i64 y, .int .i64 n, .bool c, .int .i64 d]] W fun e w' => e = .returned (.tuple #[.int .i64 X, .int .i64 0]) ∧ Gr W w')
    (c2 : ∀ W, Gr w W → Calls Tryz.prog 17 #[.agg #[.int .i64 y', .int .i64 n', .bool c', .int .i64 d']] W fun e w' => e = .returned (.tuple #[.int .i64 T, .int .i64 0]) ∧ Gr W w') :
    Calls Tryz.prog 15 #[.agg #[.int .i64 y, .int .i64 n, .bool c, .int .i64 d], .agg #[.int .i64 y', .int .i64 n', .bool c', .int .i64 d'], .int .i64 1] w fun e w' => e = .returned (.tuple #[.agg #[.int .i64 0, .int .i64 0, .int .i64 Q, .int .i64 R], .int .i64 0]) ∧ Gr w w' := by
  have C1 := Lib.hid c1
  have C2 := Lib.hid c2
  clear c1 c2
  have hQ3 : wrap64 Q = Q := by have := tdiv7 (T - X); rw [hQ, hR] at this; unfold wrap64; omega
  rcases Int.lt_or_le T X with hX | hX
  · skip
    go_enter Tryz.func15, Tryz.ntmps15
    go_wp2_with (first | (go_at_call 17; fail))
    obtain ⟨W0, hW0, DA, DB, SR, G0⟩ := udate_new w y n d y' n' d' c c'
    rw [← hW0]
    clear hW0
    obtain ⟨a0, ha0⟩ : ∃ b, b = w.heap.size := ⟨_, rfl⟩
    obtain ⟨b0, hb0⟩ : ∃ b, b = w.heap.size + 1 := ⟨_, rfl⟩
    obtain ⟨r0, hr0⟩ : ∃ b, b = w.heap.size + 1 + 1 := ⟨_, rfl⟩
    have lr0 : w.heap.size ≤ r0 := by omega
    rw [← hr0] at SR ⊢
    rw [← hb0] at DB ⊢
    rw [← ha0] at DA ⊢
    clear hr0 hb0 ha0
    refine (C1.out W0 G0).mono ?_
    rintro e wA ⟨rfl, hgA⟩
    have DA := DA.gr hgA
    have DB := DB.gr hgA
    have SR := SR.gr hgA
    have GA := G0.trans hgA
    clear hgA
    obtain ⟨lb, x0, x1, x2, x3, z0, z1, z2, z3⟩ := DB
    go_wp2_with (first | ((go_at_call 17; (with_reducible refine (C2.out _ ((by repeat (first | exact Gr.refl _ | refine Gr.setCell ?_ _ _ (by first | exact Nat.le_refl _ | (simp; omega) | (simp; done)) | refine Gr.grown ?_ _ _ | refine Gr.drewN ?_ _ | refine Gr.drew ?_ | refine Gr.alloc ?_ _ | refine Gr.grow ?_ _ | (refine Gr.trans ?_ (by assumption)))))).mono ?_); rintro e wB ⟨rfl, hgwB⟩); have DA := DA.gr hgwB; have SR := SR.gr hgwB; have GB := GA.trans hgwB; clear hgwB lb x0 x1 x2 x3 z0 z1 z2 z3 GA; obtain ⟨lr, r0', r1, r2, r3, f0, f1, f2, f3⟩ := SR; obtain ⟨la, y0, y1, y2, y3, v0, v1, v2, v3⟩ := DA))
    exact bodyPost_ret (v := .tuple #[.agg #[.int .i64 0, .int .i64 0, .int .i64 Q, .int .i64 R], .int .i64 0]) (by simp [results, Tryz.results15, go_sem, *]) rfl ⟨rfl, (by repeat (first | exact Gr.refl _ | refine Gr.setCell ?_ _ _ (by first | exact Nat.le_refl _ | (simp; omega) | (simp; done) | (show (_ : Nat) ≤ _; omega)) | refine Gr.grown ?_ _ _ | refine Gr.drewN ?_ _ | refine Gr.drew ?_ | refine Gr.alloc ?_ _ | refine Gr.grow ?_ _ | (refine Gr.trans ?_ (by assumption))))⟩
  · have hQ2 : (T - X) / 7 = Q := by rw [← hQ]; exact (Int.tdiv_eq_ediv_of_nonneg (by omega)).symm
    have hR2 : (T - X) % 7 = R := by rw [← hR]; exact (Int.tmod_eq_emod_of_nonneg (by omega)).symm
    go_enter Tryz.func15, Tryz.ntmps15
    go_wp2_with (first | (go_at_call 17; fail))
    obtain ⟨W0, hW0, DA, DB, SR, G0⟩ := udate_new w y n d y' n' d' c c'
    rw [← hW0]
    clear hW0
    obtain ⟨a0, ha0⟩ : ∃ b, b = w.heap.size := ⟨_, rfl⟩
    obtain ⟨b0, hb0⟩ : ∃ b, b = w.heap.size + 1 := ⟨_, rfl⟩
    obtain ⟨r0, hr0⟩ : ∃ b, b = w.heap.size + 1 + 1 := ⟨_, rfl⟩
    have lr0 : w.heap.size ≤ r0 := by omega
    rw [← hr0] at SR ⊢
    rw [← hb0] at DB ⊢
    rw [← ha0] at DA ⊢
    clear hr0 hb0 ha0
    refine (C1.out W0 G0).mono ?_
    rintro e wA ⟨rfl, hgA⟩
    have DA := DA.gr hgA
    have DB := DB.gr hgA
    have SR := SR.gr hgA
    have GA := G0.trans hgA
    clear hgA
    obtain ⟨lb, x0, x1, x2, x3, z0, z1, z2, z3⟩ := DB
    go_wp2_with (first | ((go_at_call 17; (with_reducible refine (C2.out _ ((by repeat (first | exact Gr.refl _ | refine Gr.setCell ?_ _ _ (by first | exact Nat.le_refl _ | (simp; omega) | (simp; done)) | refine Gr.grown ?_ _ _ | refine Gr.drewN ?_ _ | refine Gr.drew ?_ | refine Gr.alloc ?_ _ | refine Gr.grow ?_ _ | (refine Gr.trans ?_ (by assumption)))))).mono ?_); rintro e wB ⟨rfl, hgwB⟩); have DA := DA.gr hgwB; have SR := SR.gr hgwB; have GB := GA.trans hgwB; clear hgwB lb x0 x1 x2 x3 z0 z1 z2 z3 GA; obtain ⟨lr, r0', r1, r2, r3, f0, f1, f2, f3⟩ := SR; obtain ⟨la, y0, y1, y2, y3, v0, v1, v2, v3⟩ := DA))
    exact bodyPost_ret (v := .tuple #[.agg #[.int .i64 0, .int .i64 0, .int .i64 Q, .int .i64 R], .int .i64 0]) (by simp [results, Tryz.results15, go_sem, *]) rfl ⟨rfl, (by repeat (first | exact Gr.refl _ | refine Gr.setCell ?_ _ _ (by first | exact Nat.le_refl _ | (simp; omega) | (simp; done) | (show (_ : Nat) ≤ _; omega)) | refine Gr.grown ?_ _ _ | refine Gr.drewN ?_ _ | refine Gr.drew ?_ | refine Gr.alloc ?_ _ | refine Gr.grow ?_ _ | (refine Gr.trans ?_ (by assumption))))⟩

set_option maxRecDepth 20000 in
set_option maxHeartbeats 8000000 in
theorem rudate_0 (y n d y' n' d' X T s Y R1 R2 R4 : Int) (c c' R3 : Bool) (w : World) (X0 : -1500000 ≤ X) (X1 : X ≤ 2300000) (T0 : -1500000 ≤ T) (T1 : T ≤ 2300000) (Y0 : -1500000 ≤ Y) (Y1 : Y ≤ 2300000) (hs : (s = 1 ∧ X ≤ T) ∨ (s = -1 ∧ T < X))
    (c1 : ∀ W, Gr w W → Calls Tryz.prog 17 #[.agg #[.int .i64 y, .int .i64 n, .bool c, .int .i64 d]] W fun e w' => e = .returned (.tuple #[.int .i64 X, .int .i64 0]) ∧ Gr W w')
    (c2 : ∀ W, Gr w W → Calls Tryz.prog 17 #[.agg #[.int .i64 y', .int .i64 n', .bool c', .int .i64 d']] W fun e w' => e = .returned (.tuple #[.int .i64 T, .int .i64 0]) ∧ Gr W w')
    (c4 : ∀ W, Gr w W → Calls Tryz.prog 8 #[.agg #[.int .i64 y, .int .i64 n, .bool c, .int .i64 d], .agg #[.int .i64 0, .int .i64 0, .int .i64 0, .int .i64 0], .int .i64 0] W fun e w' => e = .returned (.tuple #[.agg #[.int .i64 R1, .int .i64 R2, .bool R3, .int .i64 R4], .int .i64 0]) ∧ Gr W w')
    (c6 : ∀ W, Gr w W → Calls Tryz.prog 17 #[.agg #[.int .i64 R1, .int .i64 R2, .bool R3, .int .i64 R4]] W fun e w' => e = .returned (.tuple #[.int .i64 Y, .int .i64 0]) ∧ Gr W w') :
    Calls Tryz.prog 15 #[.agg #[.int .i64 y, .int .i64 n, .bool c, .int .i64 d], .agg #[.int .i64 y', .int .i64 n', .bool c', .int .i64 d'], .int .i64 0] w fun e w' => e = .returned (.tuple #[.agg #[.int .i64 0, .int .i64 0, .int .i64 0, .int .i64 (T - Y)], .int .i64 0]) ∧ Gr w w' := by
  have C1 := Lib.hid c1
  have C2 := Lib.hid c2
  have C4 := Lib.hid c4
  have C6 := Lib.hid c6
  clear c1 c2 c4 c6
  rcases hs with ⟨rfl, hX⟩ | ⟨rfl, hX⟩
  · skip
    go_enter Tryz.func15, Tryz.ntmps15
    go_wp2_with (first | (go_at_call 17; fail))
    obtain ⟨W0, hW0, DA, DB, SR, G0⟩ := udate_new w y n d y' n' d' c c'
    rw [← hW0]
    clear hW0
    obtain ⟨a0, ha0⟩ : ∃ b, b = w.heap.size := ⟨_, rfl⟩
    obtain ⟨b0, hb0⟩ : ∃ b, b = w.heap.size + 1 := ⟨_, rfl⟩
    obtain ⟨r0, hr0⟩ : ∃ b, b = w.heap.size + 1 + 1 := ⟨_, rfl⟩
    have lr0 : w.heap.size ≤ r0 := by omega
    rw [← hr0] at SR ⊢
    rw [← hb0] at DB ⊢
    rw [← ha0] at DA ⊢
    clear hr0 hb0 ha0
    refine (C1.out W0 G0).mono ?_
    rintro e wA ⟨rfl, hgA⟩
    have DA := DA.gr hgA
    have DB := DB.gr hgA
    have SR := SR.gr hgA
    have GA := G0.trans hgA
    clear hgA
    obtain ⟨lb, x0, x1, x2, x3, z0, z1, z2, z3⟩ := DB
    go_wp2_with (first | ((go_at_call 17; (with_reducible refine (C2.out _ ((by repeat (first | exact Gr.refl _ | refine Gr.setCell ?_ _ _ (by first | exact Nat.le_refl _ | (simp; omega) | (simp; done)) | refine Gr.grown ?_ _ _ | refine Gr.drewN ?_ _ | refine Gr.drew ?_ | refine Gr.alloc ?_ _ | refine Gr.grow ?_ _ | (refine Gr.trans ?_ (by assumption)))))).mono ?_); rintro e wB ⟨rfl, hgwB⟩); have DA := DA.gr hgwB; have SR := SR.gr hgwB; have GB := GA.trans hgwB; clear hgwB lb x0 x1 x2 x3 z0 z1 z2 z3 GA; have SRB := SR; have DAB := DA; obtain ⟨lr, r0', r1, r2, r3, f0, f1, f2, f3⟩ := SR; obtain ⟨la, y0, y1, y2, y3, v0, v1, v2, v3⟩ := DA))
    obtain ⟨W, hW⟩ : ∃ W, W = wB.alloc (.cells #[.int .i64 0, .int .i64 0, .int .i64 0, .int .i64 0] 27) := ⟨_, rfl⟩
    have S : S5 W wB.heap.size 0 0 0 0 := by rw [hW]; exact S5.at rfl 0 0 0 0
    have gB : Gr wB W := by rw [hW]; exact (Gr.refl _).alloc _
    rw [← hW]
    clear hW lr r0' r1 r2 r3 f0 f1 f2 f3 la y0 y1 y2 y3 v0 v1 v2 v3
    obtain ⟨sb, hsb⟩ : ∃ b, b = wB.heap.size := ⟨_, rfl⟩
    have lsb : wB.heap.size ≤ sb := by omega
    have lsw : w.heap.size ≤ sb := by have := GB.size; omega
    rw [← hsb] at S ⊢
    clear hsb
    refine (C4.out _ (GB.trans gB)).mono ?_
    rintro e wE ⟨rfl, hgE⟩
    have SS := S.gr hgE
    have gE := gB.trans hgE
    clear gB S hgE
    go_wp2_with (first | (go_at_call 17; fail))
    obtain ⟨WF, hWF⟩ : ∃ WF, WF = wE.alloc (.cells #[.int .i64 R1, .int .i64 R2, .bool R3, .int .i64 R4] 25) := ⟨_, rfl⟩
    rw [← hWF]
    have gF : Gr wE WF := by rw [hWF]; exact (Gr.refl _).alloc _
    have SS := SS.gr gF
    have gE := gE.trans gF
    clear hWF gF
    refine (C6.out WF (GB.trans gE)).mono ?_
    rintro e wG ⟨rfl, hgG⟩
    have SS := SS.gr hgG
    have gG := gE.trans hgG
    have SR := SRB.gr gG
    have GG := GB.trans gG
    have nr : r0 ≠ sb := by have := SRB.lt; omega
    clear hgG gE gG SRB DAB GB lsb
    obtain ⟨ls, s0, s1, s2, s3, t0, t1, t2, t3⟩ := SS
    obtain ⟨lr, r0', r1, r2, r3, f0, f1, f2, f3⟩ := SR
    go_wp2
    exact bodyPost_ret (v := .tuple #[.agg #[.int .i64 0, .int .i64 0, .int .i64 0, .int .i64 (T - Y)], .int .i64 0]) (by simp [results, Tryz.results15, go_sem, *]) rfl ⟨rfl, (by repeat (first | exact Gr.refl _ | refine Gr.setCell ?_ _ _ (by first | exact Nat.le_refl _ | (simp; omega) | (simp; done) | (show (_ : Nat) ≤ _; omega)) | refine Gr.grown ?_ _ _ | refine Gr.drewN ?_ _ | refine Gr.drew ?_ | refine Gr.alloc ?_ _ | refine Gr.grow ?_ _ | (refine Gr.trans ?_ (by assumption))))⟩

  · skip
    go_enter Tryz.func15, Tryz.ntmps15
    go_wp2_with (first | (go_at_call 17; fail))
    obtain ⟨W0, hW0, DA, DB, SR, G0⟩ := udate_new w y n d y' n' d' c c'
    rw [← hW0]
    clear hW0
    obtain ⟨a0, ha0⟩ : ∃ b, b = w.heap.size := ⟨_, rfl⟩
    obtain ⟨b0, hb0⟩ : ∃ b, b = w.heap.size + 1 := ⟨_, rfl⟩
    obtain ⟨r0, hr0⟩ : ∃ b, b = w.heap.size + 1 + 1 := ⟨_, rfl⟩
    have lr0 : w.heap.size ≤ r0 := by omega
    rw [← hr0] at SR ⊢
    rw [← hb0] at DB ⊢
    rw [← ha0] at DA ⊢
    clear hr0 hb0 ha0
    refine (C1.out W0 G0).mono ?_
    rintro e wA ⟨rfl, hgA⟩
    have DA := DA.gr hgA
    have DB := DB.gr hgA
    have SR := SR.gr hgA
    have GA := G0.trans hgA
    clear hgA
    obtain ⟨lb, x0, x1, x2, x3, z0, z1, z2, z3⟩ := DB
    go_wp2_with (first | ((go_at_call 17; (with_reducible refine (C2.out _ ((by repeat (first | exact Gr.refl _ | refine Gr.setCell ?_ _ _ (by first | exact Nat.le_refl _ | (simp; omega) | (simp; done)) | refine Gr.grown ?_ _ _ | refine Gr.drewN ?_ _ | refine Gr.drew ?_ | refine Gr.alloc ?_ _ | refine Gr.grow ?_ _ | (refine Gr.trans ?_ (by assumption)))))).mono ?_); rintro e wB ⟨rfl, hgwB⟩); have DA := DA.gr hgwB; have SR := SR.gr hgwB; have GB := GA.trans hgwB; clear hgwB lb x0 x1 x2 x3 z0 z1 z2 z3 GA; have SRB := SR; have DAB := DA; obtain ⟨lr, r0', r1, r2, r3, f0, f1, f2, f3⟩ := SR; obtain ⟨la, y0, y1, y2, y3, v0, v1, v2, v3⟩ := DA))
    obtain ⟨W, hW⟩ : ∃ W, W = wB.alloc (.cells #[.int .i64 0, .int .i64 0, .int .i64 0, .int .i64 0] 27) := ⟨_, rfl⟩
    have S : S5 W wB.heap.size 0 0 0 0 := by rw [hW]; exact S5.at rfl 0 0 0 0
    have gB : Gr wB W := by rw [hW]; exact (Gr.refl _).alloc _
    rw [← hW]
    clear hW lr r0' r1 r2 r3 f0 f1 f2 f3 la y0 y1 y2 y3 v0 v1 v2 v3
    obtain ⟨sb, hsb⟩ : ∃ b, b = wB.heap.size := ⟨_, rfl⟩
    have lsb : wB.heap.size ≤ sb := by omega
    have lsw : w.heap.size ≤ sb := by have := GB.size; omega
    rw [← hsb] at S ⊢
    clear hsb
    refine (C4.out _ (GB.trans gB)).mono ?_
    rintro e wE ⟨rfl, hgE⟩
    have SS := S.gr hgE
    have gE := gB.trans hgE
    clear gB S hgE
    go_wp2_with (first | (go_at_call 17; fail))
    obtain ⟨WF, hWF⟩ : ∃ WF, WF = wE.alloc (.cells #[.int .i64 R1, .int .i64 R2, .bool R3, .int .i64 R4] 25) := ⟨_, rfl⟩
    rw [← hWF]
    have gF : Gr wE WF := by rw [hWF]; exact (Gr.refl _).alloc _
    have SS := SS.gr gF
    have gE := gE.trans gF
    clear hWF gF
    refine (C6.out WF (GB.trans gE)).mono ?_
    rintro e wG ⟨rfl, hgG⟩
    have SS := SS.gr hgG
    have gG := gE.trans hgG
    have SR := SRB.gr gG
    have GG := GB.trans gG
    have nr : r0 ≠ sb := by have := SRB.lt; omega
    clear hgG gE gG SRB DAB GB lsb
    obtain ⟨ls, s0, s1, s2, s3, t0, t1, t2, t3⟩ := SS
    obtain ⟨lr, r0', r1, r2, r3, f0, f1, f2, f3⟩ := SR
    go_wp2
    exact bodyPost_ret (v := .tuple #[.agg #[.int .i64 0, .int .i64 0, .int .i64 0, .int .i64 (T - Y)], .int .i64 0]) (by simp [results, Tryz.results15, go_sem, *]) rfl ⟨rfl, (by repeat (first | exact Gr.refl _ | refine Gr.setCell ?_ _ _ (by first | exact Nat.le_refl _ | (simp; omega) | (simp; done) | (show (_ : Nat) ≤ _; omega)) | refine Gr.grown ?_ _ _ | refine Gr.drewN ?_ _ | refine Gr.drew ?_ | refine Gr.alloc ?_ _ | refine Gr.grow ?_ _ | (refine Gr.trans ?_ (by assumption))))⟩

set_option maxRecDepth 20000 in
set_option maxHeartbeats 8000000 in
theorem rudate_2 (y n d y' n' d' X T s M Y R1 R2 R4 : Int) (c c' R3 : Bool) (w : World) (X0 : -1500000 ≤ X) (X1 : X ≤ 2300000) (T0 : -1500000 ≤ T) (T1 : T ≤ 2300000) (Y0 : -1500000 ≤ Y) (Y1 : Y ≤ 2300000) (hs : (s = 1 ∧ X ≤ T) ∨ (s = -1 ∧ T < X))
    (c1 : ∀ W, Gr w W → Calls Tryz.prog 17 #[.agg #[.int .i64 y, .int .i64 n, .bool c, .int .i64 d]] W fun e w' => e = .returned (.tuple #[.int .i64 X, .int .i64 0]) ∧ Gr W w')
    (c2 : ∀ W, Gr w W → Calls Tryz.prog 17 #[.agg #[.int .i64 y', .int .i64 n', .bool c', .int .i64 d']] W fun e w' => e = .returned (.tuple #[.int .i64 T, .int .i64 0]) ∧ Gr W w')
    (c3 : ∀ W, Gr w W → Calls Tryz.prog 35 #[.agg #[.int .i64 y, .int .i64 n, .bool c, .int .i64 d], .agg #[.int .i64 0, .int .i64 0, .int .i64 0, .int .i64 0], .int .i64 2, .int .i64 T, .int .i64 s, .int .i64 130000] W fun e w' => e = .returned (.agg #[.int .i64 0, .int .i64 M, .int .i64 0, .int .i64 0]) ∧ Gr W w')
    (c4 : ∀ W, Gr w W → Calls Tryz.prog 8 #[.agg #[.int .i64 y, .int .i64 n, .bool c, .int .i64 d], .agg #[.int .i64 0, .int .i64 M, .int .i64 0, .int .i64 0], .int .i64 0] W fun e w' => e = .returned (.tuple #[.agg #[.int .i64 R1, .int .i64 R2, .bool R3, .int .i64 R4], .int .i64 0]) ∧ Gr W w')
    (c6 : ∀ W, Gr w W → Calls Tryz.prog 17 #[.agg #[.int .i64 R1, .int .i64 R2, .bool R3, .int .i64 R4]] W fun e w' => e = .returned (.tuple #[.int .i64 Y, .int .i64 0]) ∧ Gr W w') :
    Calls Tryz.prog 15 #[.agg #[.int .i64 y, .int .i64 n, .bool c, .int .i64 d], .agg #[.int .i64 y', .int .i64 n', .bool c', .int .i64 d'], .int .i64 2] w fun e w' => e = .returned (.tuple #[.agg #[.int .i64 0, .int .i64 M, .int .i64 0, .int .i64 (T - Y)], .int .i64 0]) ∧ Gr w w' := by
  have C1 := Lib.hid c1
  have C2 := Lib.hid c2
  have C3 := Lib.hid c3
  have C4 := Lib.hid c4
  have C6 := Lib.hid c6
  clear c1 c2 c3 c4 c6
  rcases hs with ⟨rfl, hX⟩ | ⟨rfl, hX⟩
  · skip
    go_enter Tryz.func15, Tryz.ntmps15
    go_wp2_with (first | (go_at_call 17; fail))
    obtain ⟨W0, hW0, DA, DB, SR, G0⟩ := udate_new w y n d y' n' d' c c'
    rw [← hW0]
    clear hW0
    obtain ⟨a0, ha0⟩ : ∃ b, b = w.heap.size := ⟨_, rfl⟩
    obtain ⟨b0, hb0⟩ : ∃ b, b = w.heap.size + 1 := ⟨_, rfl⟩
    obtain ⟨r0, hr0⟩ : ∃ b, b = w.heap.size + 1 + 1 := ⟨_, rfl⟩
    have lr0 : w.heap.size ≤ r0 := by omega
    rw [← hr0] at SR ⊢
    rw [← hb0] at DB ⊢
    rw [← ha0] at DA ⊢
    clear hr0 hb0 ha0
    refine (C1.out W0 G0).mono ?_
    rintro e wA ⟨rfl, hgA⟩
    have DA := DA.gr hgA
    have DB := DB.gr hgA
    have SR := SR.gr hgA
    have GA := G0.trans hgA
    clear hgA
    obtain ⟨lb, x0, x1, x2, x3, z0, z1, z2, z3⟩ := DB
    go_wp2_with (first | ((go_at_call 17; (with_reducible refine (C2.out _ ((by repeat (first | exact Gr.refl _ | refine Gr.setCell ?_ _ _ (by first | exact Nat.le_refl _ | (simp; omega) | (simp; done)) | refine Gr.grown ?_ _ _ | refine Gr.drewN ?_ _ | refine Gr.drew ?_ | refine Gr.alloc ?_ _ | refine Gr.grow ?_ _ | (refine Gr.trans ?_ (by assumption)))))).mono ?_); rintro e wB ⟨rfl, hgwB⟩); have DA := DA.gr hgwB; have SR := SR.gr hgwB; have GB := GA.trans hgwB; clear hgwB lb x0 x1 x2 x3 z0 z1 z2 z3 GA; have SRB := SR; have DAB := DA; obtain ⟨lr, r0', r1, r2, r3, f0, f1, f2, f3⟩ := SR; obtain ⟨la, y0, y1, y2, y3, v0, v1, v2, v3⟩ := DA))
    obtain ⟨W, hW⟩ : ∃ W, W = wB.alloc (.cells #[.int .i64 0, .int .i64 0, .int .i64 0, .int .i64 0] 27) := ⟨_, rfl⟩
    have S : S5 W wB.heap.size 0 0 0 0 := by rw [hW]; exact S5.at rfl 0 0 0 0
    have gB : Gr wB W := by rw [hW]; exact (Gr.refl _).alloc _
    rw [← hW]
    clear hW lr r0' r1 r2 r3 f0 f1 f2 f3 la y0 y1 y2 y3 v0 v1 v2 v3
    obtain ⟨sb, hsb⟩ : ∃ b, b = wB.heap.size := ⟨_, rfl⟩
    have lsb : wB.heap.size ≤ sb := by omega
    have lsw : w.heap.size ≤ sb := by have := GB.size; omega
    rw [← hsb] at S ⊢
    clear hsb
    refine (C3.out _ (GB.trans gB)).mono ?_
    rintro e wD ⟨rfl, hgwD⟩
    have S := S.gr hgwD
    have gB := gB.trans hgwD
    clear hgwD
    have DA := DAB.gr gB
    have S_ := S
    obtain ⟨ls, s0, s1, s2, s3, t0, t1, t2, t3⟩ := S_
    obtain ⟨la, y0, y1, y2, y3, v0, v1, v2, v3⟩ := DA
    have na : a0 ≠ sb := by have := DAB.lt; omega
    go_wp2_with (first | (go_at_call 8; fail))
    obtain ⟨WwD, hWS, SS⟩ := S.put 0 M 0 0
    rw [← hWS]
    have gS : Gr wB WwD := by rw [hWS]; exact (((gB.setCell _ _ lsb).setCell _ _ lsb).setCell _ _ lsb).setCell _ _ lsb
    clear hWS S gB ls s0 s1 s2 s3 t0 t1 t2 t3 la y0 y1 y2 y3 v0 v1 v2 v3 na
    have S := SS
    have gB := gS
    clear SS gS
    refine (C4.out _ (GB.trans gB)).mono ?_
    rintro e wE ⟨rfl, hgE⟩
    have SS := S.gr hgE
    have gE := gB.trans hgE
    clear gB S hgE
    go_wp2_with (first | (go_at_call 17; fail))
    obtain ⟨WF, hWF⟩ : ∃ WF, WF = wE.alloc (.cells #[.int .i64 R1, .int .i64 R2, .bool R3, .int .i64 R4] 25) := ⟨_, rfl⟩
    rw [← hWF]
    have gF : Gr wE WF := by rw [hWF]; exact (Gr.refl _).alloc _
    have SS := SS.gr gF
    have gE := gE.trans gF
    clear hWF gF
    refine (C6.out WF (GB.trans gE)).mono ?_
    rintro e wG ⟨rfl, hgG⟩
    have SS := SS.gr hgG
    have gG := gE.trans hgG
    have SR := SRB.gr gG
    have GG := GB.trans gG
    have nr : r0 ≠ sb := by have := SRB.lt; omega
    clear hgG gE gG SRB DAB GB lsb
    obtain ⟨ls, s0, s1, s2, s3, t0, t1, t2, t3⟩ := SS
    obtain ⟨lr, r0', r1, r2, r3, f0, f1, f2, f3⟩ := SR
    go_wp2
    exact bodyPost_ret (v := .tuple #[.agg #[.int .i64 0, .int .i64 M, .int .i64 0, .int .i64 (T - Y)], .int .i64 0]) (by simp [results, Tryz.results15, go_sem, *]) rfl ⟨rfl, (by repeat (first | exact Gr.refl _ | refine Gr.setCell ?_ _ _ (by first | exact Nat.le_refl _ | (simp; omega) | (simp; done) | (show (_ : Nat) ≤ _; omega)) | refine Gr.grown ?_ _ _ | refine Gr.drewN ?_ _ | refine Gr.drew ?_ | refine Gr.alloc ?_ _ | refine Gr.grow ?_ _ | (refine Gr.trans ?_ (by assumption))))⟩

  · skip
    go_enter Tryz.func15, Tryz.ntmps15
    go_wp2_with (first | (go_at_call 17; fail))
    obtain ⟨W0, hW0, DA, DB, SR, G0⟩ := udate_new w y n d y' n' d' c c'
    rw [← hW0]
    clear hW0
    obtain ⟨a0, ha0⟩ : ∃ b, b = w.heap.size := ⟨_, rfl⟩
    obtain ⟨b0, hb0⟩ : ∃ b, b = w.heap.size + 1 := ⟨_, rfl⟩
    obtain ⟨r0, hr0⟩ : ∃ b, b = w.heap.size + 1 + 1 := ⟨_, rfl⟩
    have lr0 : w.heap.size ≤ r0 := by omega
    rw [← hr0] at SR ⊢
    rw [← hb0] at DB ⊢
    rw [← ha0] at DA ⊢
    clear hr0 hb0 ha0
    refine (C1.out W0 G0).mono ?_
    rintro e wA ⟨rfl, hgA⟩
    have DA := DA.gr hgA
    have DB := DB.gr hgA
    have SR := SR.gr hgA
    have GA := G0.trans hgA
    clear hgA
    obtain ⟨lb, x0, x1, x2, x3, z0, z1, z2, z3⟩ := DB
    go_wp2_with (first | ((go_at_call 17; (with_reducible refine (C2.out _ ((by repeat (first | exact Gr.refl _ | refine Gr.setCell ?_ _ _ (by first | exact Nat.le_refl _ | (simp; omega) | (simp; done)) | refine Gr.grown ?_ _ _ | refine Gr.drewN ?_ _ | refine Gr.drew ?_ | refine Gr.alloc ?_ _ | refine Gr.grow ?_ _ | (refine Gr.trans ?_ (by assumption)))))).mono ?_); rintro e wB ⟨rfl, hgwB⟩); have DA := DA.gr hgwB; have SR := SR.gr hgwB; have GB := GA.trans hgwB; clear hgwB lb x0 x1 x2 x3 z0 z1 z2 z3 GA; have SRB := SR; have DAB := DA; obtain ⟨lr, r0', r1, r2, r3, f0, f1, f2, f3⟩ := SR; obtain ⟨la, y0, y1, y2, y3, v0, v1, v2, v3⟩ := DA))
    obtain ⟨W, hW⟩ : ∃ W, W = wB.alloc (.cells #[.int .i64 0, .int .i64 0, .int .i64 0, .int .i64 0] 27) := ⟨_, rfl⟩
    have S : S5 W wB.heap.size 0 0 0 0 := by rw [hW]; exact S5.at rfl 0 0 0 0
    have gB : Gr wB W := by rw [hW]; exact (Gr.refl _).alloc _
    rw [← hW]
    clear hW lr r0' r1 r2 r3 f0 f1 f2 f3 la y0 y1 y2 y3 v0 v1 v2 v3
    obtain ⟨sb, hsb⟩ : ∃ b, b = wB.heap.size := ⟨_, rfl⟩
    have lsb : wB.heap.size ≤ sb := by omega
    have lsw : w.heap.size ≤ sb := by have := GB.size; omega
    rw [← hsb] at S ⊢
    clear hsb
    refine (C3.out _ (GB.trans gB)).mono ?_
    rintro e wD ⟨rfl, hgwD⟩
    have S := S.gr hgwD
    have gB := gB.trans hgwD
    clear hgwD
    have DA := DAB.gr gB
    have S_ := S
    obtain ⟨ls, s0, s1, s2, s3, t0, t1, t2, t3⟩ := S_
    obtain ⟨la, y0, y1, y2, y3, v0, v1, v2, v3⟩ := DA
    have na : a0 ≠ sb := by have := DAB.lt; omega
    go_wp2_with (first | (go_at_call 8; fail))
    obtain ⟨WwD, hWS, SS⟩ := S.put 0 M 0 0
    rw [← hWS]
    have gS : Gr wB WwD := by rw [hWS]; exact (((gB.setCell _ _ lsb).setCell _ _ lsb).setCell _ _ lsb).setCell _ _ lsb
    clear hWS S gB ls s0 s1 s2 s3 t0 t1 t2 t3 la y0 y1 y2 y3 v0 v1 v2 v3 na
    have S := SS
    have gB := gS
    clear SS gS
    refine (C4.out _ (GB.trans gB)).mono ?_
    rintro e wE ⟨rfl, hgE⟩
    have SS := S.gr hgE
    have gE := gB.trans hgE
    clear gB S hgE
    go_wp2_with (first | (go_at_call 17; fail))
    obtain ⟨WF, hWF⟩ : ∃ WF, WF = wE.alloc (.cells #[.int .i64 R1, .int .i64 R2, .bool R3, .int .i64 R4] 25) := ⟨_, rfl⟩
    rw [← hWF]
    have gF : Gr wE WF := by rw [hWF]; exact (Gr.refl _).alloc _
    have SS := SS.gr gF
    have gE := gE.trans gF
    clear hWF gF
    refine (C6.out WF (GB.trans gE)).mono ?_
    rintro e wG ⟨rfl, hgG⟩
    have SS := SS.gr hgG
    have gG := gE.trans hgG
    have SR := SRB.gr gG
    have GG := GB.trans gG
    have nr : r0 ≠ sb := by have := SRB.lt; omega
    clear hgG gE gG SRB DAB GB lsb
    obtain ⟨ls, s0, s1, s2, s3, t0, t1, t2, t3⟩ := SS
    obtain ⟨lr, r0', r1, r2, r3, f0, f1, f2, f3⟩ := SR
    go_wp2
    exact bodyPost_ret (v := .tuple #[.agg #[.int .i64 0, .int .i64 M, .int .i64 0, .int .i64 (T - Y)], .int .i64 0]) (by simp [results, Tryz.results15, go_sem, *]) rfl ⟨rfl, (by repeat (first | exact Gr.refl _ | refine Gr.setCell ?_ _ _ (by first | exact Nat.le_refl _ | (simp; omega) | (simp; done) | (show (_ : Nat) ≤ _; omega)) | refine Gr.grown ?_ _ _ | refine Gr.drewN ?_ _ | refine Gr.drew ?_ | refine Gr.alloc ?_ _ | refine Gr.grow ?_ _ | (refine Gr.trans ?_ (by assumption))))⟩

set_option maxRecDepth 20000 in
set_option maxHeartbeats 8000000 in
theorem rudate_3 (y n d y' n' d' X T s M Y R1 R2 R4 V : Int) (c c' R3 : Bool) (w : World) (X0 : -1500000 ≤ X) (X1 : X ≤ 2300000) (T0 : -1500000 ≤ T) (T1 : T ≤ 2300000) (Y0 : -1500000 ≤ Y) (Y1 : Y ≤ 2300000) (hs : (s = 1 ∧ X ≤ T) ∨ (s = -1 ∧ T < X))
    (c1 : ∀ W, Gr w W → Calls Tryz.prog 17 #[.agg #[.int .i64 y, .int .i64 n, .bool c, .int .i64 d]] W fun e w' => e = .returned (.tuple #[.int .i64 X, .int .i64 0]) ∧ Gr W w')
    (c2 : ∀ W, Gr w W → Calls Tryz.prog 17 #[.agg #[.int .i64 y', .int .i64 n', .bool c', .int .i64 d']] W fun e w' => e = .returned (.tuple #[.int .i64 T, .int .i64 0]) ∧ Gr W w')
    (c5 : ∀ W, Gr w W → Calls Tryz.prog 35 #[.agg #[.int .i64 y, .int .i64 n, .bool c, .int .i64 d], .agg #[.int .i64 0, .int .i64 0, .int .i64 0, .int .i64 0], .int .i64 3, .int .i64 T, .int .i64 s, .int .i64 10000] W fun e w' => e = .returned (.agg #[.int .i64 V, .int .i64 0, .int .i64 0, .int .i64 0]) ∧ Gr W w')
    (c3 : ∀ W, Gr w W → Calls Tryz.prog 35 #[.agg #[.int .i64 y, .int .i64 n, .bool c, .int .i64 d], .agg #[.int .i64 V, .int .i64 0, .int .i64 0, .int .i64 0], .int .i64 2, .int .i64 T, .int .i64 s, .int .i64 130000] W fun e w' => e = .returned (.agg #[.int .i64 V, .int .i64 M, .int .i64 0, .int .i64 0]) ∧ Gr W w')
    (c4 : ∀ W, Gr w W → Calls Tryz.prog 8 #[.agg #[.int .i64 y, .int .i64 n, .bool c, .int .i64 d], .agg #[.int .i64 V, .int .i64 M, .int .i64 0, .int .i64 0], .int .i64 0] W fun e w' => e = .returned (.tuple #[.agg #[.int .i64 R1, .int .i64 R2, .bool R3, .int .i64 R4], .int .i64 0]) ∧ Gr W w')
    (c6 : ∀ W, Gr w W → Calls Tryz.prog 17 #[.agg #[.int .i64 R1, .int .i64 R2, .bool R3, .int .i64 R4]] W fun e w' => e = .returned (.tuple #[.int .i64 Y, .int .i64 0]) ∧ Gr W w') :
    Calls Tryz.prog 15 #[.agg #[.int .i64 y, .int .i64 n, .bool c, .int .i64 d], .agg #[.int .i64 y', .int .i64 n', .bool c', .int .i64 d'], .int .i64 3] w fun e w' => e = .returned (.tuple #[.agg #[.int .i64 V, .int .i64 M, .int .i64 0, .int .i64 (T - Y)], .int .i64 0]) ∧ Gr w w' := by
  have C1 := Lib.hid c1
  have C2 := Lib.hid c2
  have C5 := Lib.hid c5
  have C3 := Lib.hid c3
  have C4 := Lib.hid c4
  have C6 := Lib.hid c6
  clear c1 c2 c5 c3 c4 c6
  rcases hs with ⟨rfl, hX⟩ | ⟨rfl, hX⟩
  · skip
    go_enter Tryz.func15, Tryz.ntmps15
    go_wp2_with (first | (go_at_call 17; fail))
    obtain ⟨W0, hW0, DA, DB, SR, G0⟩ := udate_new w y n d y' n' d' c c'
    rw [← hW0]
    clear hW0
    obtain ⟨a0, ha0⟩ : ∃ b, b = w.heap.size := ⟨_, rfl⟩
    obtain ⟨b0, hb0⟩ : ∃ b, b = w.heap.size + 1 := ⟨_, rfl⟩
    obtain ⟨r0, hr0⟩ : ∃ b, b = w.heap.size + 1 + 1 := ⟨_, rfl⟩
    have lr0 : w.heap.size ≤ r0 := by omega
    rw [← hr0] at SR ⊢
    rw [← hb0] at DB ⊢
    rw [← ha0] at DA ⊢
    clear hr0 hb0 ha0
    refine (C1.out W0 G0).mono ?_
    rintro e wA ⟨rfl, hgA⟩
    have DA := DA.gr hgA
    have DB := DB.gr hgA
    have SR := SR.gr hgA
    have GA := G0.trans hgA
    clear hgA
    obtain ⟨lb, x0, x1, x2, x3, z0, z1, z2, z3⟩ := DB
    go_wp2_with (first | ((go_at_call 17; (with_reducible refine (C2.out _ ((by repeat (first | exact Gr.refl _ | refine Gr.setCell ?_ _ _ (by first | exact Nat.le_refl _ | (simp; omega) | (simp; done)) | refine Gr.grown ?_ _ _ | refine Gr.drewN ?_ _ | refine Gr.drew ?_ | refine Gr.alloc ?_ _ | refine Gr.grow ?_ _ | (refine Gr.trans ?_ (by assumption)))))).mono ?_); rintro e wB ⟨rfl, hgwB⟩); have DA := DA.gr hgwB; have SR := SR.gr hgwB; have GB := GA.trans hgwB; clear hgwB lb x0 x1 x2 x3 z0 z1 z2 z3 GA; have SRB := SR; have DAB := DA; obtain ⟨lr, r0', r1, r2, r3, f0, f1, f2, f3⟩ := SR; obtain ⟨la, y0, y1, y2, y3, v0, v1, v2, v3⟩ := DA))
    obtain ⟨W, hW⟩ : ∃ W, W = wB.alloc (.cells #[.int .i64 0, .int .i64 0, .int .i64 0, .int .i64 0] 27) := ⟨_, rfl⟩
    have S : S5 W wB.heap.size 0 0 0 0 := by rw [hW]; exact S5.at rfl 0 0 0 0
    have gB : Gr wB W := by rw [hW]; exact (Gr.refl _).alloc _
    rw [← hW]
    clear hW lr r0' r1 r2 r3 f0 f1 f2 f3 la y0 y1 y2 y3 v0 v1 v2 v3
    obtain ⟨sb, hsb⟩ : ∃ b, b = wB.heap.size := ⟨_, rfl⟩
    have lsb : wB.heap.size ≤ sb := by omega
    have lsw : w.heap.size ≤ sb := by have := GB.size; omega
    rw [← hsb] at S ⊢
    clear hsb
    refine (C5.out _ (GB.trans gB)).mono ?_
    rintro e wC ⟨rfl, hgwC⟩
    have S := S.gr hgwC
    have gB := gB.trans hgwC
    clear hgwC
    have DA := DAB.gr gB
    have S_ := S
    obtain ⟨ls, s0, s1, s2, s3, t0, t1, t2, t3⟩ := S_
    obtain ⟨la, y0, y1, y2, y3, v0, v1, v2, v3⟩ := DA
    have na : a0 ≠ sb := by have := DAB.lt; omega
    go_wp2_with (first | (go_at_call 35; fail))
    obtain ⟨WwC, hWS, SS⟩ := S.put V 0 0 0
    rw [← hWS]
    have gS : Gr wB WwC := by rw [hWS]; exact (((gB.setCell _ _ lsb).setCell _ _ lsb).setCell _ _ lsb).setCell _ _ lsb
    clear hWS S gB ls s0 s1 s2 s3 t0 t1 t2 t3 la y0 y1 y2 y3 v0 v1 v2 v3 na
    have S := SS
    have gB := gS
    clear SS gS
    refine (C3.out _ (GB.trans gB)).mono ?_
    rintro e wD ⟨rfl, hgwD⟩
    have S := S.gr hgwD
    have gB := gB.trans hgwD
    clear hgwD
    have DA := DAB.gr gB
    have S_ := S
    obtain ⟨ls, s0, s1, s2, s3, t0, t1, t2, t3⟩ := S_
    obtain ⟨la, y0, y1, y2, y3, v0, v1, v2, v3⟩ := DA
    have na : a0 ≠ sb := by have := DAB.lt; omega
    go_wp2_with (first | (go_at_call 8; fail))
    obtain ⟨WwD, hWS, SS⟩ := S.put V M 0 0
    rw [← hWS]
    have gS : Gr wB WwD := by rw [hWS]; exact (((gB.setCell _ _ lsb).setCell _ _ lsb).setCell _ _ lsb).setCell _ _ lsb
    clear hWS S gB ls s0 s1 s2 s3 t0 t1 t2 t3 la y0 y1 y2 y3 v0 v1 v2 v3 na
    have S := SS
    have gB := gS
    clear SS gS
    refine (C4.out _ (GB.trans gB)).mono ?_
    rintro e wE ⟨rfl, hgE⟩
    have SS := S.gr hgE
    have gE := gB.trans hgE
    clear gB S hgE
    go_wp2_with (first | (go_at_call 17; fail))
    obtain ⟨WF, hWF⟩ : ∃ WF, WF = wE.alloc (.cells #[.int .i64 R1, .int .i64 R2, .bool R3, .int .i64 R4] 25) := ⟨_, rfl⟩
    rw [← hWF]
    have gF : Gr wE WF := by rw [hWF]; exact (Gr.refl _).alloc _
    have SS := SS.gr gF
    have gE := gE.trans gF
    clear hWF gF
    refine (C6.out WF (GB.trans gE)).mono ?_
    rintro e wG ⟨rfl, hgG⟩
    have SS := SS.gr hgG
    have gG := gE.trans hgG
    have SR := SRB.gr gG
    have GG := GB.trans gG
    have nr : r0 ≠ sb := by have := SRB.lt; omega
    clear hgG gE gG SRB DAB GB lsb
    obtain ⟨ls, s0, s1, s2, s3, t0, t1, t2, t3⟩ := SS
    obtain ⟨lr, r0', r1, r2, r3, f0, f1, f2, f3⟩ := SR
    go_wp2
    exact bodyPost_ret (v := .tuple #[.agg #[.int .i64 V, .int .i64 M, .int .i64 0, .int .i64 (T - Y)], .int .i64 0]) (by simp [results, Tryz.results15, go_sem, *]) rfl ⟨rfl, (by repeat (first | exact Gr.refl _ | refine Gr.setCell ?_ _ _ (by first | exact Nat.le_refl _ | (simp; omega) | (simp; done) | (show (_ : Nat) ≤ _; omega)) | refine Gr.grown ?_ _ _ | refine Gr.drewN ?_ _ | refine Gr.drew ?_ | refine Gr.alloc ?_ _ | refine Gr.grow ?_ _ | (refine Gr.trans ?_ (by assumption))))⟩

  · skip
    go_enter Tryz.func15, Tryz.ntmps15
    go_wp2_with (first | (go_at_call 17; fail))
    obtain ⟨W0, hW0, DA, DB, SR, G0⟩ := udate_new w y n d y' n' d' c c'
    rw [← hW0]
    clear hW0
    obtain ⟨a0, ha0⟩ : ∃ b, b = w.heap.size := ⟨_, rfl⟩
    obtain ⟨b0, hb0⟩ : ∃ b, b = w.heap.size + 1 := ⟨_, rfl⟩
    obtain ⟨r0, hr0⟩ : ∃ b, b = w.heap.size + 1 + 1 := ⟨_, rfl⟩
    have lr0 : w.heap.size ≤ r0 := by omega
    rw [← hr0] at SR ⊢
    rw [← hb0] at DB ⊢
    rw [← ha0] at DA ⊢
    clear hr0 hb0 ha0
    refine (C1.out W0 G0).mono ?_
    rintro e wA ⟨rfl, hgA⟩
    have DA := DA.gr hgA
    have DB := DB.gr hgA
    have SR := SR.gr hgA
    have GA := G0.trans hgA
    clear hgA
    obtain ⟨lb, x0, x1, x2, x3, z0, z1, z2, z3⟩ := DB
    go_wp2_with (first | ((go_at_call 17; (with_reducible refine (C2.out _ ((by repeat (first | exact Gr.refl _ | refine Gr.setCell ?_ _ _ (by first | exact Nat.le_refl _ | (simp; omega) | (simp; done)) | refine Gr.grown ?_ _ _ | refine Gr.drewN ?_ _ | refine Gr.drew ?_ | refine Gr.alloc ?_ _ | refine Gr.grow ?_ _ | (refine Gr.trans ?_ (by assumption)))))).mono ?_); rintro e wB ⟨rfl, hgwB⟩); have DA := DA.gr hgwB; have SR := SR.gr hgwB; have GB := GA.trans hgwB; clear hgwB lb x0 x1 x2 x3 z0 z1 z2 z3 GA; have SRB := SR; have DAB := DA; obtain ⟨lr, r0', r1, r2, r3, f0, f1, f2, f3⟩ := SR; obtain ⟨la, y0, y1, y2, y3, v0, v1, v2, v3⟩ := DA))
    obtain ⟨W, hW⟩ : ∃ W, W = wB.alloc (.cells #[.int .i64 0, .int .i64 0, .int .i64 0, .int .i64 0] 27) := ⟨_, rfl⟩
    have S : S5 W wB.heap.size 0 0 0 0 := by rw [hW]; exact S5.at rfl 0 0 0 0
    have gB : Gr wB W := by rw [hW]; exact (Gr.refl _).alloc _
    rw [← hW]
    clear hW lr r0' r1 r2 r3 f0 f1 f2 f3 la y0 y1 y2 y3 v0 v1 v2 v3
    obtain ⟨sb, hsb⟩ : ∃ b, b = wB.heap.size := ⟨_, rfl⟩
    have lsb : wB.heap.size ≤ sb := by omega
    have lsw : w.heap.size ≤ sb := by have := GB.size; omega
    rw [← hsb] at S ⊢
    clear hsb
    refine (C5.out _ (GB.trans gB)).mono ?_
    rintro e wC ⟨rfl, hgwC⟩
    have S := S.gr hgwC
    have gB := gB.trans hgwC
    clear hgwC
    have DA := DAB.gr gB
    have S_ := S
    obtain ⟨ls, s0, s1, s2, s3, t0, t1, t2, t3⟩ := S_
    obtain ⟨la, y0, y1, y2, y3, v0, v1, v2, v3⟩ := DA
    have na : a0 ≠ sb := by have := DAB.lt; omega
    go_wp2_with (first | (go_at_call 35; fail))
    obtain ⟨WwC, hWS, SS⟩ := S.put V 0 0 0
    rw [← hWS]
    have gS : Gr wB WwC := by rw [hWS]; exact (((gB.setCell _ _ lsb).setCell _ _ lsb).setCell _ _ lsb).setCell _ _ lsb
    clear hWS S gB ls s0 s1 s2 s3 t0 t1 t2 t3 la y0 y1 y2 y3 v0 v1 v2 v3 na
    have S := SS
    have gB := gS
    clear SS gS
    refine (C3.out _ (GB.trans gB)).mono ?_
    rintro e wD ⟨rfl, hgwD⟩
    have S := S.gr hgwD
    have gB := gB.trans hgwD
    clear hgwD
    have DA := DAB.gr gB
    have S_ := S
    obtain ⟨ls, s0, s1, s2, s3, t0, t1, t2, t3⟩ := S_
    obtain ⟨la, y0, y1, y2, y3, v0, v1, v2, v3⟩ := DA
    have na : a0 ≠ sb := by have := DAB.lt; omega
    go_wp2_with (first | (go_at_call 8; fail))
    obtain ⟨WwD, hWS, SS⟩ := S.put V M 0 0
    rw [← hWS]
    have gS : Gr wB WwD := by rw [hWS]; exact (((gB.setCell _ _ lsb).setCell _ _ lsb).setCell _ _ lsb).setCell _ _ lsb
    clear hWS S gB ls s0 s1 s2 s3 t0 t1 t2 t3 la y0 y1 y2 y3 v0 v1 v2 v3 na
    have S := SS
    have gB := gS
    clear SS gS
    refine (C4.out _ (GB.trans gB)).mono ?_
    rintro e wE ⟨rfl, hgE⟩
    have SS := S.gr hgE
    have gE := gB.trans hgE
    clear gB S hgE
    go_wp2_with (first | (go_at_call 17; fail))
    obtain ⟨WF, hWF⟩ : ∃ WF, WF = wE.alloc (.cells #[.int .i64 R1, .int .i64 R2, .bool R3, .int .i64 R4] 25) := ⟨_, rfl⟩
    rw [← hWF]
    have gF : Gr wE WF := by rw [hWF]; exact (Gr.refl _).alloc _
    have SS := SS.gr gF
    have gE := gE.trans gF
    clear hWF gF
    refine (C6.out WF (GB.trans gE)).mono ?_
    rintro e wG ⟨rfl, hgG⟩
    have SS := SS.gr hgG
    have gG := gE.trans hgG
    have SR := SRB.gr gG
    have GG := GB.trans gG
    have nr : r0 ≠ sb := by have := SRB.lt; omega
    clear hgG gE gG SRB DAB GB lsb
    obtain ⟨ls, s0, s1, s2, s3, t0, t1, t2, t3⟩ := SS
    obtain ⟨lr, r0', r1, r2, r3, f0, f1, f2, f3⟩ := SR
    go_wp2
    exact bodyPost_ret (v := .tuple #[.agg #[.int .i64 V, .int .i64 M, .int .i64 0, .int .i64 (T - Y)], .int .i64 0]) (by simp [results, Tryz.results15, go_sem, *]) rfl ⟨rfl, (by repeat (first | exact Gr.refl _ | refine Gr.setCell ?_ _ _ (by first | exact Nat.le_refl _ | (simp; omega) | (simp; done) | (show (_ : Nat) ≤ _; omega)) | refine Gr.grown ?_ _ _ | refine Gr.drewN ?_ _ | refine Gr.drew ?_ | refine Gr.alloc ?_ _ | refine Gr.grow ?_ _ | (refine Gr.trans ?_ (by assumption))))⟩


end Go.Proofs.YtkiopgegdkeojaaGreatDoor.Walks

/- The duration between two dates: until and the document alike, and what is known of it. -/
namespace Go.Proofs.YtkiopgegdkeojaaGreatDoor.Walks
open Go Go.RowKit Go.Sort Go.Proofs.YtkiopgegdkeojaaGreatDoor.Base Go.Proofs.YtkiopgegdkeojaaGreatDoor.Plain Go.Proofs.YtkiopgegdkeojaaGreatDoor.Math

theorem rmonths_rng (y : Int) (j : Nat) (q : Int) (w : World) (y0 : 1 ≤ y) (y1 : y ≤ 9999) (hj : j < mct (lp y)) (q0 : -4000000 ≤ q) (q1 : q ≤ 4000000) (h : bf y + j + q < 0 ∨ 123671 ≤ bf y + j + q) :
    Calls Tryz.prog 25 #[.int .i64 y, .agg #[.int .i64 (cN (lp y) j), .bool (cL (lp y) j)], .int .i64 q] w fun e w' => e = .returned (.tuple #[.int .i64 0, .agg #[.int .i64 0, .bool false], .int .i64 2]) ∧ Gr w w' := by
  have m13 := mct_le (lp y)
  obtain ⟨Z, z0, z1, hz, hc⟩ := zyear (bf y + j + q)
  rcases hc with ⟨rfl, ht⟩ | ⟨rfl, ht⟩ | ⟨za, zb, J, hJ, e⟩
  · exact rmonths_at y _ q _ ((j : Int) + 1) _ 0 0 0 2 _ (lp y) false w y0 y1 (by omega) (by omega) (by omega) (by omega) (by omega) z0 z1 hz (fun w => r10last_in y j w y0 y1 hj) rfl (fun w => rplace9_in (lp y) j w hj) (fun z => absurd z (by omega)) (fun _ => ⟨rfl, rfl, rfl, rfl⟩)
  · exact rmonths_at y _ q _ ((j : Int) + 1) _ 10000 0 0 2 _ (lp y) false w y0 y1 (by omega) (by omega) (by omega) (by omega) (by omega) z0 z1 hz (fun w => r10last_in y j w y0 y1 hj) rfl (fun w => rplace9_in (lp y) j w hj) (fun z => absurd z (by omega)) (fun _ => ⟨rfl, rfl, rfl, rfl⟩)
  · have := month_in za zb hJ
    omega
theorem rmonths_in (y : Int) (j : Nat) (q Y : Int) (K : Nat) (w : World) (y0 : 1 ≤ y) (y1 : y ≤ 9999) (hj : j < mct (lp y)) (q0 : -4000000 ≤ q) (q1 : q ≤ 4000000) (Y0 : 1 ≤ Y) (Y1 : Y ≤ 9999) (hK : K < mct (lp Y)) (e : bf Y + K = bf y + j + q) :
    Calls Tryz.prog 25 #[.int .i64 y, .agg #[.int .i64 (cN (lp y) j), .bool (cL (lp y) j)], .int .i64 q] w fun e w' => e = .returned (.tuple #[.int .i64 Y, .agg #[.int .i64 (cN (lp Y) K), .bool (cL (lp Y) K)], .int .i64 0]) ∧ Gr w w' := by
  have m13 := mct_le (lp y)
  have mi := month_in Y0 Y1 hK
  obtain ⟨Z, z0, z1, hz, hc⟩ := zyear (bf y + j + q)
  rcases hc with ⟨rfl, ht⟩ | ⟨rfl, ht⟩ | ⟨za, zb, J, hJ, e2⟩
  · omega
  · omega
  · obtain ⟨rfl, rfl⟩ := month_inj hJ hK (by omega)
    exact rmonths_at y _ q _ ((j : Int) + 1) _ Z Z _ 0 _ (lp y) _ w y0 y1 (by omega) (by omega) (by omega) (by omega) (by omega) z0 z1 hz (fun w => r10last_in y j w y0 y1 hj) rfl (fun w => rplace9_in (lp y) j w hj)
      (fun _ => ⟨rfl, rfl, fun w => by rw [← e2, show bf Z + (J : Int) - bf Z + 1 = (J : Int) + 1 by omega]; exact rof9_in (lp Z) J w hJ⟩) (fun z => absurd ⟨za, zb⟩ z)
/-- The document's To, of a date that may be. -/
theorem rto_c {y : Int} {j : Nat} {d sy sm sw sd m E R1 R2 R4 : Int} {R3 : Bool} (h : HV y j d) (hR : spR sy sm sw sd = true) (hm : m = 0 ∨ m = 1) (k : ToK y j d sy sm sw sd m E R1 R2 R3 R4) (w : World) :
    Calls Tryz.prog 8 #[.agg #[.int .i64 y, .int .i64 (cN (lp y) j), .bool (cL (lp y) j), .int .i64 d], .agg #[.int .i64 sy, .int .i64 sm, .int .i64 sw, .int .i64 sd], .int .i64 m] w fun e w' => e = .returned (.tuple #[.agg #[.int .i64 R1, .int .i64 R2, .bool R3, .int .i64 R4], .int .i64 E]) ∧ Gr w w' := by
  obtain ⟨⟨p0, p1⟩, ⟨q0, q1⟩, ⟨r0, r1⟩, s0, s1⟩ := spR_of hR
  have k0 := fun w => r10check_in y j d w h
  have ld := mlen_range (kk y) (lp y) j
  have dd := h.d1
  have d0 := h.d0
  have k1 := fun w => rinto_c (y + sy) (cN (lp y) j) m (cL (lp y) j) w
  cases k with
  | into _ e hE => exact rto_1 y _ d sy sm sw sd m _ _ E _ w hR hm h.y0 h.y1 hE k0 (fun w => by have := k1 w; rwa [e] at this)
  | months i h1 a =>
    simp only [h1.e, h1.n, h1.c] at k1
    exact rto_2 y _ d sy sm sw sd m _ _ 0 0 2 _ false w hR hm h.y0 h.y1 (by decide) k0 k1 (fun w => rmonths_rng (y + sy) i sm w h1.t0 h1.t1 h1.i1 q0 q1 a)
  | fit i Y J h1 h2 m1 g =>
    have lY := mlen_range (kk Y) (lp Y) J
    simp only [h1.e, h1.n, h1.c] at k1
    refine rto_3 y _ d sy sm sw sd m _ _ Y _ 0 7 _ _ w hR hm h.y0 h.y1 (by decide) k0 k1 (fun w => rmonths_in (y + sy) i sm Y J w h1.t0 h1.t1 h1.i1 q0 q1 h2.y0 h2.y1 h2.j1 h2.e) (fun w => ?_)
    have := rfit_c Y _ d m _ 0 _ w fun w => r10last_in Y J w h2.y0 h2.y1 h2.j1
    have e : fitE (mlen (kk Y) (lp Y) J) 0 d m = 7 := by unfold fitE; rw [if_pos hm, if_pos rfl, if_pos (by omega), if_neg (by omega), if_pos m1]
    have e2 : fitN (mlen (kk Y) (lp Y) J) 0 d m = 0 := by unfold fitN; rw [e, if_neg (by decide)]
    rwa [e, e2] at this
  | out i Y J N h1 h2 h3 g =>
    have hv := ft_hv h3 h2.y0 h2.y1 h2.j1 d0
    have rr := hd_range hv
    have ff := ft_fit h3 hm d0 (by omega)
    simp only [h1.e, h1.n, h1.c] at k1
    refine rto_5 y _ d sy sm sw sd m _ _ Y _ N (hd Y J N) 0 0 0 2 _ _ false w hR hm h.y0 h.y1 rr.1 rr.2 k0 k1 (fun w => rmonths_in (y + sy) i sm Y J w h1.t0 h1.t1 h1.i1 q0 q1 h2.y0 h2.y1 h2.j1 h2.e) (fun w => ?_) (fun w => r10today_in Y J N w hv) (fun w => r10from_out _ w (by omega))
    have := rfit_c Y _ d m _ 0 _ w fun w => r10last_in Y J w h2.y0 h2.y1 h2.j1
    rwa [ff.1, ff.2] at this
  | ok i Y J N Y' J' N' h1 h2 h3 h4 e =>
    have hv := ft_hv h3 h2.y0 h2.y1 h2.j1 d0
    have rr := hd_range hv
    have ff := ft_fit h3 hm d0 (by omega)
    simp only [h1.e, h1.n, h1.c] at k1
    refine rto_5 y _ d sy sm sw sd m _ _ Y _ N (hd Y J N) R1 _ R4 0 _ _ _ w hR hm h.y0 h.y1 rr.1 rr.2 k0 k1 (fun w => rmonths_in (y + sy) i sm Y J w h1.t0 h1.t1 h1.i1 q0 q1 h2.y0 h2.y1 h2.j1 h2.e) (fun w => ?_) (fun w => r10today_in Y J N w hv) (fun w => r10from_in R1 J' R4 _ w h4 (by omega))
    have := rfit_c Y _ d m _ 0 _ w fun w => r10last_in Y J w h2.y0 h2.y1 h2.j1
    rwa [ff.1, ff.2] at this
theorem spR_pq {p q : Int} (p0 : -300000 ≤ p) (p1 : p ≤ 300000) (q0 : -300000 ≤ q) (q1 : q ≤ 300000) : spR p q 0 0 = true := by
  unfold spR spF
  simp only [Bool.and_eq_true, decide_eq_true_eq]
  omega
/-- Nothing, added. -/
theorem uf_zero {y : Int} {j : Nat} {d : Int} {f : Int → Int → UV} (h : HV y j d) (F : UF y j d f) : (f 0 0).ok = true ∧ (f 0 0).X = hd y j d := by
  have k : (f 0 0).ok = true := ((line_years h F).ok 0).2 ⟨by have := h.y0; omega, by have := h.y1; omega⟩
  refine ⟨k, ?_⟩
  have u := uf_ok F k
  have ua := u.a
  have ue := u.b.e
  have uc := u.c.e
  simp only [Int.add_zero] at ua ue
  have i1 := code_inj (ua.i1) h.j1 (by rw [← ua.n]; unfold inNum; rw [ua.e, if_pos rfl, if_pos (code_has h.j1)]) (by rw [← ua.c]; unfold inLp; rw [ua.e, if_pos rfl, if_pos (code_has h.j1)])
  rw [i1] at ue
  obtain ⟨e1, e2⟩ := month_inj u.b.j1 h.j1 (by omega)
  unfold UV.X
  rw [e1, e2] at uc ⊢
  have d1 := h.d1
  rcases uc with ⟨-, q⟩ | ⟨q, -⟩
  · rw [q]
  · omega
theorem passes_f {y : Int} {j : Nat} {d : Int} {f : Int → Int → UV} (h : HV y j d) (F : UF y j d f) {T s p q : Int} (hs : s = 1 ∨ s = -1) (t0 : -1500000 ≤ T) (t1 : T ≤ 2300000) (p0 : -300000 ≤ p) (p1 : p ≤ 300000) (q0 : -300000 ≤ q) (q1 : q ≤ 300000) (w : World) (G : GT w) :
    Calls Tryz.prog 59 #[.agg #[.int .i64 y, .int .i64 (cN (lp y) j), .bool (cL (lp y) j), .int .i64 d, .int .i64 T, .int .i64 s], .agg #[.int .i64 p, .int .i64 q, .int .i64 0, .int .i64 0]] w fun e w' => e = .returned (.bool ((f p q).by T s)) ∧ Gr w w' := by
  have hR := spR_pq p0 p1 q0 q1
  cases e : (f p q).ok
  · have o := uf_out F e
    rw [show (f p q).by T s = true by unfold UV.by; rw [e]; rfl]
    exact passes_no _ _ _ _ _ _ _ 2 _ w (by decide) fun W hW => to_c h hR (.inl rfl) (uout_to o) W (G.gr hW)
  · have u := uf_ok F e
    have v := ur_hv h u
    have r := hd_range v
    exact passes_in _ _ _ _ _ _ _ _ _ _ (f p q).X _ _ _ w hs t0 t1 (by unfold UV.X; omega) (by unfold UV.X; omega) (by unfold UV.by; rw [e]; simp) (fun W hW => to_c h hR (.inl rfl) (ur_to h u) W (G.gr hW)) (fun W hW => htoday_in _ _ _ W (G.gr hW) v)
theorem beyond_f {y : Int} {j : Nat} {d : Int} {f : Int → Int → UV} (h : HV y j d) (F : UF y j d f) {T s p q : Int} (hs : s = 1 ∨ s = -1) (t0 : -1500000 ≤ T) (t1 : T ≤ 2300000) (p0 : -300000 ≤ p) (p1 : p ≤ 300000) (q0 : -300000 ≤ q) (q1 : q ≤ 300000) (w : World) :
    Calls Tryz.prog 60 #[.agg #[.int .i64 y, .int .i64 (cN (lp y) j), .bool (cL (lp y) j), .int .i64 d], .agg #[.int .i64 p, .int .i64 q, .int .i64 0, .int .i64 0], .int .i64 T, .int .i64 s] w fun e w' => e = .returned (.bool ((f p q).by T s)) ∧ Gr w w' := by
  have hR := spR_pq p0 p1 q0 q1
  cases e : (f p q).ok
  · have o := uf_out F e
    rw [show (f p q).by T s = true by unfold UV.by; rw [e]; rfl]
    exact beyond_no _ _ _ _ _ _ _ 2 _ w (by decide) fun W => rto_c h hR (.inl rfl) (uout_to o) W
  · have u := uf_ok F e
    have v := ur_hv h u
    have r := hd_range v
    exact beyond_in _ _ _ _ _ _ _ _ _ _ (f p q).X _ _ _ w hs t0 t1 (by unfold UV.X; omega) (by unfold UV.X; omega) (by unfold UV.by; rw [e]; simp) (fun W => rto_c h hR (.inl rfl) (ur_to h u) W) (fun W => r10today_in _ _ _ W v)
theorem sN_range {s : Int} (hs : s = 1 ∨ s = -1) {N : Nat} (h : N ≤ 200000) : -300000 ≤ s * (N : Int) ∧ s * (N : Int) ≤ 300000 := by
  rcases hs with rfl | rfl <;> omega
theorem sK_range {s : Int} (hs : s = 1 ∨ s = -1) {i : Nat} (h : i ≤ 200000) : -300000 ≤ s * ((i : Int) + 1) ∧ s * ((i : Int) + 1) ≤ 300000 := by
  rcases hs with rfl | rfl <;> omega
/-- How many years fit: until's way and the document's. -/
theorem years_until {y : Int} {j : Nat} {d : Int} {f : Int → Int → UV} (h : HV y j d) (F : UF y j d f) {T s : Int} (hs : s = 1 ∨ s = -1) (t0 : -1500000 ≤ T) (t1 : T ≤ 2300000) {M : Nat} (hM : M < 9999) (hm : ∀ i : Nat, i < 9999 → (f (s * ((i : Int) + 1)) 0).by T s = decide (M ≤ i)) (w : World) (G : GT w) :
    Calls Tryz.prog 32 #[.agg #[.int .i64 y, .int .i64 (cN (lp y) j), .bool (cL (lp y) j), .int .i64 d, .int .i64 T, .int .i64 s], .int .i64 9999, .func (.func 33) #[] #[]] w fun e w' => e = .returned (.agg #[.int .i64 (s * (M : Int)), .int .i64 0, .int .i64 0, .int .i64 0]) ∧ Gr w w' :=
  umost_c 33 #[] _ _ _ _ s 9999 _ (fun k => k) (fun _ => 0) _ 9999 M w (enters_of Tryz.func33 (by kernel_rfl) rfl) hs rfl (by decide) (by omega) rfl
    (fun W k _ => udate1_c k W)
    (fun W i hW hi => by
      have r := sK_range hs (i := i) (by omega)
      have := passes_f h F hs t0 t1 r.1 r.2 (q := 0) (by omega) (by omega) W (G.gr hW)
      rwa [hm i hi] at this)
theorem months_until {y : Int} {j : Nat} {d : Int} {f : Int → Int → UV} (h : HV y j d) (F : UF y j d f) {T s p : Int} (hs : s = 1 ∨ s = -1) (t0 : -1500000 ≤ T) (t1 : T ≤ 2300000) (p0 : -300000 ≤ p) (p1 : p ≤ 300000) {N : Nat} (hN : N < 130000) (hm : ∀ i : Nat, i < 130000 → (f p (s * ((i : Int) + 1))).by T s = decide (N ≤ i)) (w : World) (G : GT w) (b : Nat) (hb : b < w.heap.size) (hc : w.cell? ⟨b, 0, none⟩ = some (.int .i64 p)) :
    Calls Tryz.prog 32 #[.agg #[.int .i64 y, .int .i64 (cN (lp y) j), .bool (cL (lp y) j), .int .i64 d, .int .i64 T, .int .i64 s], .int .i64 130000, .func (.func 34) #[] #[.pointer (some ⟨b, 0, none⟩)]] w fun e w' => e = .returned (.agg #[.int .i64 p, .int .i64 (s * (N : Int)), .int .i64 0, .int .i64 0]) ∧ Gr w w' :=
  umost_c 34 #[.pointer (some ⟨b, 0, none⟩)] _ _ _ _ s 130000 _ (fun _ => p) (fun k => k) _ 130000 N w (enters_of Tryz.func34 (by kernel_rfl) rfl) hs rfl (by decide) (by omega) rfl
    (fun W k hW => udate2_c k p b W (hW.lt hb) (hW.keep hb hc))
    (fun W i hW hi => by
      have r := sK_range hs (i := i) (by omega)
      have := passes_f h F hs t0 t1 p0 p1 r.1 r.2 W (G.gr hW)
      rwa [hm i hi] at this)
theorem years_ref {y : Int} {j : Nat} {d : Int} {f : Int → Int → UV} (h : HV y j d) (F : UF y j d f) {T s : Int} (hs : s = 1 ∨ s = -1) (t0 : -1500000 ≤ T) (t1 : T ≤ 2300000) {M : Nat} (hM : M < 9999) (hm : ∀ i : Nat, i < 9999 → (f (s * ((i : Int) + 1)) 0).by T s = decide (M ≤ i)) (w : World) :
    Calls Tryz.prog 35 #[.agg #[.int .i64 y, .int .i64 (cN (lp y) j), .bool (cL (lp y) j), .int .i64 d], .agg #[.int .i64 0, .int .i64 0, .int .i64 0, .int .i64 0], .int .i64 3, .int .i64 T, .int .i64 s, .int .i64 10000] w fun e w' => e = .returned (.agg #[.int .i64 (s * (M : Int)), .int .i64 0, .int .i64 0, .int .i64 0]) ∧ Gr w w' :=
  rmost_c _ _ _ _ s 0 0 3 10000 _ (fun k => k) (fun _ => 0) _ 10000 M w hs rfl (by decide) (by omega) rfl
    (fun W k => rwith_y 0 0 0 0 k W)
    (fun W k k0 k1 => by
      have r := sN_range hs (N := k) (by omega)
      have := beyond_f h F hs t0 t1 r.1 r.2 (q := 0) (by omega) (by omega) W
      have e := hm (k - 1) (by omega)
      rw [show (((k - 1 : Nat) : Int) + 1) = (k : Int) by omega] at e
      rw [e, show decide (M ≤ k - 1) = decide (M < k) from decide_eq_decide.2 (by omega)] at this
      exact this)
theorem months_ref {y : Int} {j : Nat} {d : Int} {f : Int → Int → UV} (h : HV y j d) (F : UF y j d f) {T s p : Int} (hs : s = 1 ∨ s = -1) (t0 : -1500000 ≤ T) (t1 : T ≤ 2300000) (p0 : -300000 ≤ p) (p1 : p ≤ 300000) {N : Nat} (hN : N < 130000) (hm : ∀ i : Nat, i < 130000 → (f p (s * ((i : Int) + 1))).by T s = decide (N ≤ i)) (w : World) :
    Calls Tryz.prog 35 #[.agg #[.int .i64 y, .int .i64 (cN (lp y) j), .bool (cL (lp y) j), .int .i64 d], .agg #[.int .i64 p, .int .i64 0, .int .i64 0, .int .i64 0], .int .i64 2, .int .i64 T, .int .i64 s, .int .i64 130000] w fun e w' => e = .returned (.agg #[.int .i64 p, .int .i64 (s * (N : Int)), .int .i64 0, .int .i64 0]) ∧ Gr w w' :=
  rmost_c _ _ _ _ s p 0 2 130000 _ (fun _ => p) (fun k => k) _ 130000 N w hs rfl (by decide) hN rfl
    (fun W k => rwith_m p 0 0 0 k W)
    (fun W k k0 k1 => by
      have r := sN_range hs (N := k) (by omega)
      have := beyond_f h F hs t0 t1 p0 p1 r.1 r.2 W
      have e := hm (k - 1) (by omega)
      rw [show (((k - 1 : Nat) : Int) + 1) = (k : Int) by omega] at e
      rw [e, show decide (N ≤ k - 1) = decide (N < k) from decide_eq_decide.2 (by omega)] at this
      exact this)
/-- What is known of the duration that is told, from the day X to the day T. -/
inductive UK (y : Int) (j : Nat) (d X T : Int) : Int → Int → Int → Int → Int → Prop
  | days : UK y j d X T 0 0 0 0 (T - X)
  | weeks : UK y j d X T 1 0 0 ((T - X).tdiv 7) ((T - X).tmod 7)
  | months (f : Int → Int → UV) (s : Int) (N : Nat) : UF y j d f → ((s = 1 ∧ X ≤ T) ∨ (s = -1 ∧ T < X)) → N < 130000 → (f 0 (s * (N : Int))).ok = true → s * ((f 0 (s * (N : Int))).X - T) ≤ 0 → (f 0 (s * ((N : Int) + 1))).by T s = true →
      UK y j d X T 2 0 (s * (N : Int)) 0 (T - (f 0 (s * (N : Int))).X)
  | years (f : Int → Int → UV) (s : Int) (M N : Nat) : UF y j d f → ((s = 1 ∧ X ≤ T) ∨ (s = -1 ∧ T < X)) → M < 9999 → N < 130000 → (f (s * (M : Int)) 0).ok = true → s * ((f (s * (M : Int)) 0).X - T) ≤ 0 → (f (s * ((M : Int) + 1)) 0).by T s = true →
      (∀ i : Nat, i < 130000 → (f (s * (M : Int)) (s * ((i : Int) + 1))).by T s = decide (N ≤ i)) → (f (s * (M : Int)) (s * (N : Int))).ok = true → s * ((f (s * (M : Int)) (s * (N : Int))).X - T) ≤ 0 → (f (s * (M : Int)) (s * ((N : Int) + 1))).by T s = true →
      UK y j d X T 3 (s * (M : Int)) (s * (N : Int)) 0 (T - (f (s * (M : Int)) (s * (N : Int))).X)
theorem until_ok {y : Int} {j : Nat} {d y' : Int} {j' : Nat} {d' : Int} (h : HV y j d) (h' : HV y' j' d') (u : Int) (u0 : 0 ≤ u) (u1 : u ≤ 3) : ∃ p q r z, UK y j d (hd y j d) (hd y' j' d') u p q r z ∧
    (∀ w, GT w → Calls Tryz.prog 14 #[.agg #[.int .i64 y, .int .i64 (cN (lp y) j), .bool (cL (lp y) j), .int .i64 d], .agg #[.int .i64 y', .int .i64 (cN (lp y') j'), .bool (cL (lp y') j'), .int .i64 d'], .int .i64 u] w fun e w' => e = .returned (.tuple #[.agg #[.int .i64 p, .int .i64 q, .int .i64 r, .int .i64 z], .int .i64 0]) ∧ Gr w w') ∧
    (∀ w, Calls Tryz.prog 15 #[.agg #[.int .i64 y, .int .i64 (cN (lp y) j), .bool (cL (lp y) j), .int .i64 d], .agg #[.int .i64 y', .int .i64 (cN (lp y') j'), .bool (cL (lp y') j'), .int .i64 d'], .int .i64 u] w fun e w' => e = .returned (.tuple #[.agg #[.int .i64 p, .int .i64 q, .int .i64 r, .int .i64 z], .int .i64 0]) ∧ Gr w w') := by
  have rX := hd_range h
  have rT := hd_range h'
  have cX := fun w (G : GT w) W (hW : Gr w W) => htoday_in y j d W (G.gr hW) h
  have cT := fun w (G : GT w) W (hW : Gr w W) => htoday_in y' j' d' W (G.gr hW) h'
  have eX := fun W => r10today_in y j d W h
  have eT := fun W => r10today_in y' j' d' W h'
  obtain ⟨f, F⟩ := uf_ex h
  obtain ⟨z0, z1⟩ := uf_zero h F
  obtain ⟨X, hX⟩ : ∃ X, hd y j d = X := ⟨_, rfl⟩
  obtain ⟨T, hT⟩ : ∃ T, hd y' j' d' = T := ⟨_, rfl⟩
  rw [hX] at rX z1 cX eX ⊢
  rw [hT] at rT cT eT ⊢
  obtain ⟨s, hs⟩ : ∃ s : Int, (s = 1 ∧ X ≤ T) ∨ (s = -1 ∧ T < X) := by
    rcases Int.lt_or_le T X with g | g
    · exact ⟨-1, .inr ⟨rfl, g⟩⟩
    · exact ⟨1, .inl ⟨rfl, g⟩⟩
  have hs1 : s = 1 ∨ s = -1 := by omega
  have sz : s * (X - T) ≤ 0 := by rcases hs with ⟨rfl, g⟩ | ⟨rfl, g⟩ <;> omega
  have U0 := uf_ok F z0
  rcases (by omega : u = 0 ∨ u = 1 ∨ u = 2 ∨ u = 3) with rfl | rfl | rfl | rfl
  · refine ⟨0, 0, 0, T - X, .days, fun w G => udate_0 _ _ _ _ _ _ X T _ _ w (by omega) (by omega) (by omega) (by omega) (cX w G) (cT w G), fun w => ?_⟩
    have k := rto_c h (spR_pq (p := 0) (q := 0) (by omega) (by omega) (by omega) (by omega)) (.inl rfl) (ur_to h U0)
    have e := fun W => r10today_in (f 0 0).Y (f 0 0).J (f 0 0).N W (ur_hv h U0)
    rw [show hd (f 0 0).Y (f 0 0).J (f 0 0).N = X from z1] at e
    exact rudate_0 _ _ _ _ _ _ X T s X _ _ _ _ _ _ w (by omega) (by omega) (by omega) (by omega) (by omega) (by omega) hs (fun W _ => eX W) (fun W _ => eT W) (fun W _ => k W) (fun W _ => e W)
  · exact ⟨0, 0, _, _, .weeks, fun w G => udate_1 _ _ _ _ _ _ X T _ _ _ _ w (by omega) (by omega) (by omega) (by omega) rfl rfl (cX w G) (cT w G), fun w => rudate_1 _ _ _ _ _ _ X T _ _ _ _ w (by omega) (by omega) (by omega) (by omega) rfl rfl (fun W _ => eX W) (fun W _ => eT W)⟩
  · have b0 := ur_in U0
    obtain ⟨N, n1, n2, n3, n4, n5⟩ := line_thr (line_months h F z0) 130000 (by omega) (by omega) hs1 (n := T) (by rw [z1]; exact sz)
    have U := uf_ok F n3
    have v := ur_hv h U
    have rv := hd_range v
    have sN := sN_range hs1 (N := N) (by omega)
    have hR := spR_pq (p := 0) (q := s * (N : Int)) (by omega) (by omega) sN.1 sN.2
    refine ⟨0, _, 0, _, .months f s N F hs n1 n3 n4 n5, fun w G => ?_, fun w => ?_⟩
    · exact udate_2 _ _ _ _ _ _ X T s _ (f 0 (s * (N : Int))).X _ _ _ _ _ _ w (by omega) (by omega) (by omega) (by omega) (by unfold UV.X; omega) (by unfold UV.X; omega) hs (cX w G) (cT w G)
        (fun W b hW hb hc => months_until h F hs1 (by omega) (by omega) (by omega) (by omega) n1 n2 W (G.gr hW) b hb hc)
        (fun W hW => to_c h hR (.inl rfl) (ur_to h U) W (G.gr hW)) (fun W hW => htoday_in _ _ _ W (G.gr hW) v)
    · exact rudate_2 _ _ _ _ _ _ X T s _ (f 0 (s * (N : Int))).X _ _ _ _ _ _ w (by omega) (by omega) (by omega) (by omega) (by unfold UV.X; omega) (by unfold UV.X; omega) hs (fun W _ => eX W) (fun W _ => eT W)
        (fun W hW => months_ref h F hs1 (by omega) (by omega) (by omega) (by omega) n1 n2 W)
        (fun W hW => rto_c h hR (.inl rfl) (ur_to h U) W) (fun W hW => r10today_in _ _ _ W v)
  · obtain ⟨M, m1, m2, m3, m4, m5⟩ := line_thr (line_years h F) 9999 (by have := h.y1; omega) (by have := h.y0; omega) hs1 (n := T) (by rw [z1]; exact sz)
    have UM := uf_ok F m3
    have b0 := ur_in UM
    obtain ⟨N, n1, n2, n3, n4, n5⟩ := line_thr (line_months h F m3) 130000 (by omega) (by omega) hs1 (n := T) m4
    have U := uf_ok F n3
    have v := ur_hv h U
    have rv := hd_range v
    have sM := sN_range hs1 (N := M) (by omega)
    have sN := sN_range hs1 (N := N) (by omega)
    have hR := spR_pq (p := s * (M : Int)) (q := s * (N : Int)) sM.1 sM.2 sN.1 sN.2
    refine ⟨_, _, 0, _, .years f s M N F hs m1 n1 m3 m4 m5 n2 n3 n4 n5, fun w G => ?_, fun w => ?_⟩
    · exact udate_3 _ _ _ _ _ _ X T s _ (f (s * (M : Int)) (s * (N : Int))).X _ _ _ _ _ _ _ w (by omega) (by omega) (by omega) (by omega) (by unfold UV.X; omega) (by unfold UV.X; omega) hs (cX w G) (cT w G)
        (fun W hW => years_until h F hs1 (by omega) (by omega) m1 m2 W (G.gr hW))
        (fun W b hW hb hc => months_until h F hs1 (by omega) (by omega) sM.1 sM.2 n1 n2 W (G.gr hW) b hb hc)
        (fun W hW => to_c h hR (.inl rfl) (ur_to h U) W (G.gr hW)) (fun W hW => htoday_in _ _ _ W (G.gr hW) v)
    · exact rudate_3 _ _ _ _ _ _ X T s _ (f (s * (M : Int)) (s * (N : Int))).X _ _ _ _ _ _ _ w (by omega) (by omega) (by omega) (by omega) (by unfold UV.X; omega) (by unfold UV.X; omega) hs (fun W _ => eX W) (fun W _ => eT W)
        (fun W hW => years_ref h F hs1 (by omega) (by omega) m1 m2 W)
        (fun W hW => months_ref h F hs1 (by omega) (by omega) sM.1 sM.2 n1 n2 W)
        (fun W hW => rto_c h hR (.inl rfl) (ur_to h U) W) (fun W hW => r10today_in _ _ _ W v)

end Go.Proofs.YtkiopgegdkeojaaGreatDoor.Walks

/- The document's example of durations; both tell the same of any two dates. -/
namespace Go.Proofs.YtkiopgegdkeojaaGreatDoor.Walks
open Go Go.RowKit Go.Sort Go.Proofs.YtkiopgegdkeojaaGreatDoor.Base Go.Proofs.YtkiopgegdkeojaaGreatDoor.Plain Go.Proofs.YtkiopgegdkeojaaGreatDoor.Math

theorem uk17 {p q r z : Int} (k : UK 5784 5 30 (hd 5784 5 30) (hd 5785 5 29) 3 p q r z) : p = 1 ∧ q = 0 ∧ r = 0 ∧ z = 0 := by
  obtain ⟨h, -, -⟩ := hv16
  have e384 : hd 5785 5 29 - hd 5784 5 30 = 384 := by decide +kernel
  have l1 : lp 5785 = false := by decide +kernel
  have ml : mlen (kk 5785) false 5 = 29 := by simp [mlen]
  have h1 : In1 5784 5 0 (5784 + 1) 5 := ⟨by decide, by decide, by decide +kernel, by decide +kernel, by decide +kernel, by decide +kernel⟩
  have j5 : 5 < mct (lp 5785) := by decide +kernel
  generalize hX : hd 5784 5 30 = X at *
  generalize hT : hd 5785 5 29 = T at *
  cases k with
  | years f s M N F hs m1 n1 m3 m4 m5 n2 n3 n4 n5 =>
    obtain rfl : s = 1 := by omega
    have L := line_years h F
    have k1 : (f 1 0).ok = true := (L.ok 1).2 ⟨by decide, by decide⟩
    have x1 : (f 1 0).X = T := by
      have u := uf_ok F k1
      have i1 := in1_inj u.a h1
      have ue := u.b.e
      rw [i1] at ue
      obtain ⟨a1, a2⟩ := month_inj u.b.j1 j5 (show bf (f 1 0).Y + ((f 1 0).J : Int) = bf 5785 + (5 : Nat) by rw [ue]; rfl)
      have uc := u.c.e
      unfold UV.X
      rw [a1, a2, l1, ml] at uc
      rw [a1, a2, ← hT]
      rcases uc with ⟨a, b⟩ | ⟨a, -, b⟩
      · omega
      · rw [b]
    obtain rfl : M = 1 := by
      rcases Nat.lt_trichotomy M 1 with g | g | g
      · obtain rfl : M = 0 := by omega
        have m5' : (f 1 0).by T 1 = true := m5
        unfold UV.by at m5'
        rw [k1, x1] at m5'
        simp at m5'
      · exact g
      · have := L.rise 1 (1 * (M : Int)) k1 m3 (by omega)
        omega
    have LM := line_months h F (p := 1) k1
    obtain rfl : N = 0 := by
      rcases Nat.eq_zero_or_pos N with g | g
      · exact g
      · have n3' : (f 1 (1 * (N : Int))).ok = true := n3
        have n4' : 1 * ((f 1 (1 * (N : Int))).X - T) ≤ 0 := n4
        have := LM.rise 0 (1 * (N : Int)) k1 n3' (by omega)
        omega
    refine ⟨rfl, rfl, rfl, ?_⟩
    show T - (f 1 0).X = 0
    omega
theorem uk17b {p q r z : Int} (k : UK 5785 5 29 (hd 5785 5 29) (hd 5784 5 30) 0 p q r z) : p = 0 ∧ q = 0 ∧ r = 0 ∧ z = -384 := by
  have e384 : hd 5785 5 29 - hd 5784 5 30 = 384 := by decide +kernel
  generalize hd 5784 5 30 = X at *
  generalize hd 5785 5 29 = T at *
  cases k
  exact ⟨rfl, rfl, rfl, by omega⟩
set_option maxRecDepth 20000 in
set_option maxHeartbeats 4000000 in
theorem awake17_c (w : World) (G : GT w) : Calls Tryz.prog 16 #[] w fun e w' => e = .returned (.bool true) ∧ Gr w w' := by
  obtain ⟨h, f1, f2⟩ := hv16
  have l1 : lp 5785 = false := by decide +kernel
  have ml : mlen (kk 5785) false 5 = 29 := by simp [mlen]
  have hv : HV 5785 5 29 := ⟨by decide, by decide, by decide +kernel, by decide, by rw [l1, ml]; decide⟩
  have g1 : cN (lp 5785) 5 = 6 := by rw [l1]; decide
  have g2 : cL (lp 5785) 5 = false := by rw [l1]; decide
  obtain ⟨p, q, r, z, k, c, -⟩ := until_ok h hv 3 (by decide) (by decide)
  obtain ⟨rfl, rfl, rfl, rfl⟩ := uk17 k
  obtain ⟨p, q, r, z, k', c', -⟩ := until_ok hv h 0 (by decide) (by decide)
  obtain ⟨rfl, rfl, rfl, rfl⟩ := uk17b k'
  rw [f1, f2, g1, g2] at c c'
  have C1 := Lib.hid fun W (hW : Gr w W) => c W (G.gr hW)
  have C2 := Lib.hid fun W (hW : Gr w W) => c' W (G.gr hW)
  clear G h f1 f2 l1 ml hv g1 g2 k k' c c'
  go_enter Tryz.func16, Tryz.ntmps16
  go_wp2_with (first | (go_at_call 14; (with_reducible refine (C1.out _ ((by repeat (first | exact Gr.refl _ | refine Gr.setCell ?_ _ _ (by first | exact Nat.le_refl _ | (simp; omega) | (simp; done)) | refine Gr.grown ?_ _ _ | refine Gr.drewN ?_ _ | refine Gr.drew ?_ | refine Gr.alloc ?_ _ | refine Gr.grow ?_ _ | (refine Gr.trans ?_ (by assumption)))))).mono ?_); rintro e wA ⟨rfl, hgwA⟩; obtain ⟨hclwA, hfzwA, hszwA⟩ := gcell hgwA; (try simp [Nat.add_one_le_iff] at hszwA); have hlwA_w : w.heap.size < wA.heap.size := (by omega)) | (go_at_call 14; (with_reducible refine (C2.out _ ((by repeat (first | exact Gr.refl _ | refine Gr.setCell ?_ _ _ (by first | exact Nat.le_refl _ | (simp; omega) | (simp; done)) | refine Gr.grown ?_ _ _ | refine Gr.drewN ?_ _ | refine Gr.drew ?_ | refine Gr.alloc ?_ _ | refine Gr.grow ?_ _ | (refine Gr.trans ?_ (by assumption)))))).mono ?_); rintro e wB ⟨rfl, hgwB⟩; obtain ⟨hclwB, hfzwB, hszwB⟩ := gcell hgwB; (try simp [Nat.add_one_le_iff] at hszwB); have hlwB_w : w.heap.size < wB.heap.size := (by omega); have hlwB_wA : wA.heap.size < wB.heap.size := (by omega)))
  go_ret
  exact ⟨rfl, (by repeat (first | exact Gr.refl _ | refine Gr.setCell ?_ _ _ (by first | exact Nat.le_refl _ | (simp; omega) | (simp; done)) | refine Gr.grown ?_ _ _ | refine Gr.drewN ?_ _ | refine Gr.drew ?_ | refine Gr.alloc ?_ _ | refine Gr.grow ?_ _ | (refine Gr.trans ?_ (by assumption))))⟩
theorem until_both (y n d y' n' d' u : Int) (c c' : Bool) : ∃ p q r z E,
    (∀ w, GT w → Calls Tryz.prog 14 #[.agg #[.int .i64 y, .int .i64 n, .bool c, .int .i64 d], .agg #[.int .i64 y', .int .i64 n', .bool c', .int .i64 d'], .int .i64 u] w fun e w' => e = .returned (.tuple #[.agg #[.int .i64 p, .int .i64 q, .int .i64 r, .int .i64 z], .int .i64 E]) ∧ Gr w w') ∧
    (∀ w, Calls Tryz.prog 15 #[.agg #[.int .i64 y, .int .i64 n, .bool c, .int .i64 d], .agg #[.int .i64 y', .int .i64 n', .bool c', .int .i64 d'], .int .i64 u] w fun e w' => e = .returned (.tuple #[.agg #[.int .i64 p, .int .i64 q, .int .i64 r, .int .i64 z], .int .i64 E]) ∧ Gr w w') := by
  by_cases hu : u < 0 ∨ 3 < u
  · exact ⟨_, _, _, _, _, fun w G => udate_unit _ _ _ _ _ _ _ _ _ w hu, fun w => rudate_unit _ _ _ _ _ _ _ _ _ w hu⟩
  · have u0 : 0 ≤ u := by omega
    have u1 : u ≤ 3 := by omega
    by_cases h : ∃ j, n = cN (lp y) j ∧ c = cL (lp y) j ∧ HV y j d
    · obtain ⟨j, rfl, rfl, hv⟩ := h
      by_cases h' : ∃ j, n' = cN (lp y') j ∧ c' = cL (lp y') j ∧ HV y' j d'
      · obtain ⟨j', rfl, rfl, hv'⟩ := h'
        obtain ⟨p, q, r, z, -, k1, k2⟩ := until_ok hv hv' u u0 u1
        exact ⟨p, q, r, z, 0, k1, k2⟩
      · obtain ⟨E, e0, e1, c1, c2⟩ := tday_bad y' n' c' d' h'
        exact ⟨_, _, _, _, E, fun w G => udate_b _ _ _ _ _ _ u E _ _ _ w u0 u1 (by omega) (fun W hW => htoday_in y j d W (G.gr hW) hv) (fun W hW => c1 W (G.gr hW)), fun w => rudate_b _ _ _ _ _ _ u E _ _ _ w u0 u1 (by omega) (fun W _ => r10today_in y j d W hv) (fun W _ => c2 W)⟩
    · obtain ⟨E, e0, e1, c1, c2⟩ := tday_bad y n c d h
      exact ⟨_, _, _, _, E, fun w G => udate_a _ _ _ _ _ _ u E _ _ w u0 u1 (by omega) (fun W hW => c1 W (G.gr hW)), fun w => rudate_a _ _ _ _ _ _ u E _ _ w u0 u1 (by omega) (fun W _ => c2 W)⟩

end Go.Proofs.YtkiopgegdkeojaaGreatDoor.Walks
