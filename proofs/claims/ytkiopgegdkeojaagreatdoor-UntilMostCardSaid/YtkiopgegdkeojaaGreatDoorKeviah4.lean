/- Walks of keviah.Number, of the reference's Type and Number, and of the law's fixed example. -/
import Derived.Test.YtkiopgegdkeojaaGreatDoorKeviah3
import Derived.Test.YtkiopgegdkeojaaGreatDoorBox
import Derived.StillTail
import Derived.WalkLawsBesides
set_option linter.unusedVariables false
set_option linter.unusedSimpArgs false
namespace Go.Proofs.YtkiopgegdkeojaaGreatDoor.Walks
open Go Go.RowKit Go.Sort Go.Proofs.YtkiopgegdkeojaaGreatDoor.Base Go.Proofs.YtkiopgegdkeojaaGreatDoor.Plain Go.Proofs.YtkiopgegdkeojaaGreatDoor.Math

theorem knum_is (b k : Int) (l : Bool) : kixI b k l + 1 = knum b k l := by unfold kixI knum; split <;> omega
theorem knum_range (b k : Int) (l : Bool) : 0 ≤ knum b k l ∧ knum b k l ≤ 14 := by unfold knum; split <;> omega

set_option maxHeartbeats 1000000 in
theorem knumber_c (b kd : Int) (l : Bool) (w : World) (T : TT w) : Calls Tryz.prog 104 #[.agg #[.int .i64 b, .int .i64 kd, .bool l]] w fun e w' => e = .returned (.int .i64 (knum b kd l)) ∧ Gr w w' := by
  obtain ⟨I, hI⟩ : ∃ I, kixI b kd l = I := ⟨_, rfl⟩
  have HK : RowKit.Hid (I + 1 = knum b kd l) := Lib.hid (by rw [← hI]; exact knum_is b kd l)
  have r := knum_range b kd l
  rw [← HK.out] at r
  obtain ⟨r0, r1⟩ := r
  have C1 : RowKit.Hid (∀ W, Gr w W → Calls Tryz.prog 113 #[.slice (some ⟨1, 0, none⟩) 14 14, .agg #[.int .i64 b, .int .i64 kd, .bool l]] W fun e w' => e = .returned (.int .i64 I) ∧ Gr W w') := Lib.hid fun W hW => by
    have := kindex_c b kd l W (T.gr hW); rwa [hI] at this
  clear hI T
  go_enter Tryz.func104, Tryz.ntmps104
  go_wp2
  have b0 := gcell_in (w := w.alloc (.cells #[.int .i64 b, .int .i64 kd, .bool l] 61)) (b := w.heap.size) (o := 0) (v := .int .i64 b) (by simp) (by simp [go_sem])
  have b1 := gcell_in (w := w.alloc (.cells #[.int .i64 b, .int .i64 kd, .bool l] 61)) (b := w.heap.size) (o := 1) (v := .int .i64 kd) (by simp) (by simp [go_sem])
  have b2 := gcell_in (w := w.alloc (.cells #[.int .i64 b, .int .i64 kd, .bool l] 61)) (b := w.heap.size) (o := 2) (v := .bool l) (by simp) (by simp [go_sem])
  (refine wp_region_quiet_grown mixed (by kernel_rfl) ?_; (repeat (first | go_big_quiet_step ((first | (go_at_call 113; exact gr_of (C1.out _ ((by repeat (first | exact Gr.refl _ | refine Gr.setCell ?_ _ _ (by first | exact Nat.le_refl _ | (simp; omega) | (simp; done)) | refine Gr.grown ?_ _ _ | refine Gr.drewN ?_ _ | refine Gr.drew ?_ | refine Gr.alloc ?_ _ | refine Gr.grow ?_ _ | (refine Gr.trans ?_ (by assumption))))))))) | quiet_step ((first | (go_at_call 113; exact gr_of (C1.out _ ((by repeat (first | exact Gr.refl _ | refine Gr.setCell ?_ _ _ (by first | exact Nat.le_refl _ | (simp; omega) | (simp; done)) | refine Gr.grown ?_ _ _ | refine Gr.drewN ?_ _ | refine Gr.drew ?_ | refine Gr.alloc ?_ _ | refine Gr.grow ?_ _ | (refine Gr.trans ?_ (by assumption))))))))))); refine wpQuiet_nil ?_; intro _ hw'; obtain ⟨⟨nq, osq⟩, hw''⟩ := hw'; subst hw'')
  go_wp2
  go_ret
  exact ⟨ret1 HK.out, (by repeat (first | exact Gr.refl _ | refine Gr.setCell ?_ _ _ (by first | exact Nat.le_refl _ | (simp; omega) | (simp; done)) | refine Gr.grown ?_ _ _ | refine Gr.drewN ?_ _ | refine Gr.drew ?_ | refine Gr.alloc ?_ _ | refine Gr.grow ?_ _ | (refine Gr.trans ?_ (by assumption))))⟩

theorem two_lists (w : World) (k : Nat) (hk : k < 14) (W0 : World) (h : W0 = ((w.alloc (.cells #[.int .i64 0, .int .i64 0, .bool false] 61)).alloc (.cells #[.int .i64 1, .int .i64 1, .int .i64 2, .int .i64 4, .int .i64 4, .int .i64 6, .int .i64 6, .int .i64 1, .int .i64 1, .int .i64 2, .int .i64 4, .int .i64 4, .int .i64 6, .int .i64 6] 3)).alloc (.cells #[.int .i64 0, .int .i64 2, .int .i64 1, .int .i64 1, .int .i64 2, .int .i64 0, .int .i64 2, .int .i64 0, .int .i64 2, .int .i64 1, .int .i64 0, .int .i64 2, .int .i64 0, .int .i64 2] 3)) :
    W0.cell? ⟨w.heap.size + 1, k, none⟩ = some (.int .i64 (kB k)) ∧ W0.cell? ⟨w.heap.size + 1 + 1, k, none⟩ = some (.int .i64 (kK k)) ∧ Gr w W0 ∧
    W0.cell? ⟨w.heap.size, 0, none⟩ = some (.int .i64 0) ∧ W0.cell? ⟨w.heap.size, 1, none⟩ = some (.int .i64 0) ∧ W0.cell? ⟨w.heap.size, 2, none⟩ = some (.bool false) ∧
    W0.frozen? ⟨w.heap.size, 0, none⟩ = false ∧ W0.frozen? ⟨w.heap.size, 1, none⟩ = false ∧ W0.frozen? ⟨w.heap.size, 2, none⟩ = false := by
  refine ⟨?_, ?_, by rw [h]; exact (by repeat (first | exact Gr.refl _ | refine Gr.setCell ?_ _ _ (by first | exact Nat.le_refl _ | (simp; omega) | (simp; done)) | refine Gr.grown ?_ _ _ | refine Gr.drewN ?_ _ | refine Gr.drew ?_ | refine Gr.alloc ?_ _ | refine Gr.grow ?_ _ | (refine Gr.trans ?_ (by assumption)))), by rw [h]; simp [go_sem], by rw [h]; simp [go_sem], by rw [h]; simp [go_sem], by rw [h]; simp [go_sem], by rw [h]; simp [go_sem], by rw [h]; simp [go_sem]⟩
  · rw [h]
    have : k = 0 ∨ k = 1 ∨ k = 2 ∨ k = 3 ∨ k = 4 ∨ k = 5 ∨ k = 6 ∨ k = 7 ∨ k = 8 ∨ k = 9 ∨ k = 10 ∨ k = 11 ∨ k = 12 ∨ k = 13 := by omega
    rcases this with rfl | rfl | rfl | rfl | rfl | rfl | rfl | rfl | rfl | rfl | rfl | rfl | rfl | rfl <;> simp [go_sem, kB]
  · rw [h]
    have : k = 0 ∨ k = 1 ∨ k = 2 ∨ k = 3 ∨ k = 4 ∨ k = 5 ∨ k = 6 ∨ k = 7 ∨ k = 8 ∨ k = 9 ∨ k = 10 ∨ k = 11 ∨ k = 12 ∨ k = 13 := by omega
    rcases this with rfl | rfl | rfl | rfl | rfl | rfl | rfl | rfl | rfl | rfl | rfl | rfl | rfl | rfl <;> simp [go_sem, kK]
set_option maxRecDepth 20000 in
set_option maxHeartbeats 1000000 in
theorem rtype7_in (k : Nat) (w : World) (hk : k < 14) : Calls Tryz.prog 108 #[.int .i64 ((k : Int) + 1)] w fun e w' => e = .returned (.tuple #[.agg #[.int .i64 (kB k), .int .i64 (kK k), .bool (kL k)], .bool true]) ∧ Gr w w' := by
  go_enter Tryz.func108, Tryz.ntmps108
  go_wp2
  obtain ⟨W0, hW⟩ : ∃ W0, W0 = ((w.alloc (.cells #[.int .i64 0, .int .i64 0, .bool false] 61)).alloc (.cells #[.int .i64 1, .int .i64 1, .int .i64 2, .int .i64 4, .int .i64 4, .int .i64 6, .int .i64 6, .int .i64 1, .int .i64 1, .int .i64 2, .int .i64 4, .int .i64 4, .int .i64 6, .int .i64 6] 3)).alloc (.cells #[.int .i64 0, .int .i64 2, .int .i64 1, .int .i64 1, .int .i64 2, .int .i64 0, .int .i64 2, .int .i64 0, .int .i64 2, .int .i64 1, .int .i64 0, .int .i64 2, .int .i64 0, .int .i64 2] 3) := ⟨_, rfl⟩
  rw [← hW]
  obtain ⟨t0, t1, gw, c0, c1, c2, f0, f1, f2⟩ := two_lists w k hk W0 hW
  have HL : RowKit.Hid (decide (7 < (k : Int) + 1) = kL k) := Lib.hid (by unfold kL; exact decide_eq_decide.2 (by omega))
  clear hW
  have t0d : ({ W0 with drawn := W0.drawn + 1 } : World).cell? ⟨w.heap.size + 1, k, none⟩ = _ := t0
  have t1d : ({ W0 with drawn := W0.drawn + 1 } : World).cell? ⟨w.heap.size + 1 + 1, k, none⟩ = _ := t1
  have hw : IntKind.i64.wrap (k : Int) = (k : Int) := by rw [IntKind.wrap_i64]; omega
  have hk0 : ¬ ((k : Int) < 0) := by omega
  have hk1 : (k : Int) < 14 := by omega
  have hk2 : ((k : Int)).toNat = k := by omega
  refine wp_region_still_tail 13 mixed (by kernel_rfl) ?_
  simp only [List.take_succ_cons, List.take_zero, List.drop_succ_cons, List.drop_zero]
  repeat (first | still_step)
  refine wpStill_nil ?_
  change wpList _ _ _ _ _ W0.drew
  clear t0d t1d hw hk0 hk1 hk2
  go_wp2
  exact bodyPost_ret (v := .tuple #[.agg #[.int .i64 (kB k), .int .i64 (kK k), .bool (decide (7 < (k : Int) + 1))], .bool true]) (by simp [results, Tryz.results108, go_sem, *]) rfl ⟨by rw [HL.out], (by repeat (first | exact Gr.refl _ | refine Gr.setCell ?_ _ _ (by first | exact Nat.le_refl _ | (simp; omega) | (simp; done)) | refine Gr.grown ?_ _ _ | refine Gr.drewN ?_ _ | refine Gr.drew ?_ | refine Gr.alloc ?_ _ | refine Gr.grow ?_ _ | (refine Gr.trans ?_ (by assumption))))⟩
theorem rtype7_out (n : Int) (w : World) (h : n < 1 ∨ 14 < n) : Calls Tryz.prog 108 #[.int .i64 n] w fun e w' => e = .returned (.tuple #[.agg #[.int .i64 0, .int .i64 0, .bool false], .bool false]) ∧ Gr w w' := by
  by_cases g : n < 1
  · clear h
    go_enter Tryz.func108, Tryz.ntmps108
    go_wp2
    exact bodyPost_ret (v := .tuple #[.agg #[.int .i64 0, .int .i64 0, .bool false], .bool false]) (by simp [results, Tryz.results108, go_sem, *]) rfl ⟨rfl, (by repeat (first | exact Gr.refl _ | refine Gr.setCell ?_ _ _ (by first | exact Nat.le_refl _ | (simp; omega) | (simp; done)) | refine Gr.grown ?_ _ _ | refine Gr.drewN ?_ _ | refine Gr.drew ?_ | refine Gr.alloc ?_ _ | refine Gr.grow ?_ _ | (refine Gr.trans ?_ (by assumption))))⟩
  · have g2 : 14 < n := by omega
    clear h
    go_enter Tryz.func108, Tryz.ntmps108
    go_wp2
    exact bodyPost_ret (v := .tuple #[.agg #[.int .i64 0, .int .i64 0, .bool false], .bool false]) (by simp [results, Tryz.results108, go_sem, *]) rfl ⟨rfl, (by repeat (first | exact Gr.refl _ | refine Gr.setCell ?_ _ _ (by first | exact Nat.le_refl _ | (simp; omega) | (simp; done)) | refine Gr.grown ?_ _ _ | refine Gr.drewN ?_ _ | refine Gr.drew ?_ | refine Gr.alloc ?_ _ | refine Gr.grow ?_ _ | (refine Gr.trans ?_ (by assumption))))⟩

set_option maxHeartbeats 4000000 in
theorem rnumber7_c (b kd : Int) (l : Bool) (w : World) : Calls Tryz.prog 93 #[.agg #[.int .i64 b, .int .i64 kd, .bool l]] w fun e w' => e = .returned (.int .i64 (knum b kd l)) ∧ Gr w w' := by
  obtain ⟨N, hN⟩ : ∃ N, kix b kd l = N := ⟨_, rfl⟩
  have n1 := kix_le b kd l
  have HA := Lib.hid (fun h => @kix_at b kd l h)
  have HO := Lib.hid (fun j h => @kix_no b kd l j h)
  rw [hN] at n1 HA HO
  have E1 : RowKit.Hid (N < 14 → (N : Int) + 1 = knum b kd l) := Lib.hid fun h => by unfold knum; rw [hN, if_pos h]
  have E2 : RowKit.Hid (N = 14 → (0 : Int) = knum b kd l) := Lib.hid fun h => by unfold knum; rw [hN, if_neg (by omega)]
  obtain ⟨R, hR⟩ : ∃ R, knum b kd l = R := ⟨_, rfl⟩
  rw [hR] at E1 E2 ⊢
  clear hN hR
  go_enter Tryz.func93, Tryz.ntmps93
  go_wp2
  go_loopg [3] N (fun kx s3 wr => ∃ k : Nat, k ≤ N ∧ N - k ≤ kx ∧ s3 = .int .i64 ((k : Int) + 1) ∧ wr.cell? ⟨w.heap.size, 0, none⟩ = some (.int .i64 b) ∧ wr.cell? ⟨w.heap.size, 1, none⟩ = some (.int .i64 kd) ∧ wr.cell? ⟨w.heap.size, 2, none⟩ = some (.bool l) ∧ w.heap.size < wr.heap.size ∧ Gr w wr)
  case atStart => exact ⟨0, by omega, by omega, rfl, by simp [go_sem], by simp [go_sem], by simp [go_sem], by simp, (by repeat (first | exact Gr.refl _ | refine Gr.setCell ?_ _ _ (by first | exact Nat.le_refl _ | (simp; omega) | (simp; done)) | refine Gr.grown ?_ _ _ | refine Gr.drewN ?_ _ | refine Gr.drew ?_ | refine Gr.alloc ?_ _ | refine Gr.grow ?_ _ | (refine Gr.trans ?_ (by assumption))))⟩
  case round =>
    obtain ⟨k, hk, hm, rfl, c0, c1, c2, hlt, hg⟩ := hrel
    by_cases z : k < 14
    · by_cases y : k = N
      · subst y
        obtain ⟨rfl, rfl, rfl⟩ := HA.out z
        have HR := Lib.hid (E1.out z)
        clear E1 E2 HA HO
        go_wp2_with (first | (go_at_call 108; (with_reducible refine (rtype7_in k _ z).mono ?_); rintro e wA ⟨rfl, hgwA⟩; obtain ⟨hclwA, hfzwA, hszwA⟩ := gcell hgwA; (try simp [Nat.add_one_le_iff] at hszwA); have hlwA_w : w.heap.size < wA.heap.size := (by omega)))
        go_ret
        exact ⟨ret1 HR.out, (by repeat (first | exact Gr.refl _ | refine Gr.setCell ?_ _ _ (by first | exact Nat.le_refl _ | (simp; omega) | (simp; done)) | refine Gr.grown ?_ _ _ | refine Gr.drewN ?_ _ | refine Gr.drew ?_ | refine Gr.alloc ?_ _ | refine Gr.grow ?_ _ | (refine Gr.trans ?_ (by assumption))))⟩
      · have hno := HO.out k (by omega)
        have hk2 : k < N := by omega
        clear E1 E2 HA HO
        by_cases q1 : b = kB k
        · subst q1
          by_cases q2 : kd = kK k
          · subst q2
            have q3 : (kL k == l) = false := beq_eq_false_iff_ne.2 fun h => hno ⟨rfl, rfl, h.symm⟩
            clear hno
            go_wp2_with (first | (go_at_call 108; (with_reducible refine (rtype7_in k _ z).mono ?_); rintro e wA ⟨rfl, hgwA⟩; obtain ⟨hclwA, hfzwA, hszwA⟩ := gcell hgwA; (try simp [Nat.add_one_le_iff] at hszwA); have hlwA_w : w.heap.size < wA.heap.size := (by omega)))
            go_roundg (N - (k + 1))
            case measure => omega
            case rel => exact ⟨k + 1, by omega, Nat.le_refl _, by go_num, Gr.keep (W := wr) ((by repeat (first | exact Gr.refl _ | refine Gr.setCell ?_ _ _ (by first | exact Nat.le_refl _ | (simp; omega) | (simp; done)) | refine Gr.grown ?_ _ _ | refine Gr.drewN ?_ _ | refine Gr.drew ?_ | refine Gr.alloc ?_ _ | refine Gr.grow ?_ _ | (refine Gr.trans ?_ (by assumption))))) hlt c0, Gr.keep (W := wr) ((by repeat (first | exact Gr.refl _ | refine Gr.setCell ?_ _ _ (by first | exact Nat.le_refl _ | (simp; omega) | (simp; done)) | refine Gr.grown ?_ _ _ | refine Gr.drewN ?_ _ | refine Gr.drew ?_ | refine Gr.alloc ?_ _ | refine Gr.grow ?_ _ | (refine Gr.trans ?_ (by assumption))))) hlt c1, Gr.keep (W := wr) ((by repeat (first | exact Gr.refl _ | refine Gr.setCell ?_ _ _ (by first | exact Nat.le_refl _ | (simp; omega) | (simp; done)) | refine Gr.grown ?_ _ _ | refine Gr.drewN ?_ _ | refine Gr.drew ?_ | refine Gr.alloc ?_ _ | refine Gr.grow ?_ _ | (refine Gr.trans ?_ (by assumption))))) hlt c2, Gr.lt (W := wr) ((by repeat (first | exact Gr.refl _ | refine Gr.setCell ?_ _ _ (by first | exact Nat.le_refl _ | (simp; omega) | (simp; done)) | refine Gr.grown ?_ _ _ | refine Gr.drewN ?_ _ | refine Gr.drew ?_ | refine Gr.alloc ?_ _ | refine Gr.grow ?_ _ | (refine Gr.trans ?_ (by assumption))))) hlt, (by repeat (first | exact Gr.refl _ | refine Gr.setCell ?_ _ _ (by first | exact Nat.le_refl _ | (simp; omega) | (simp; done)) | refine Gr.grown ?_ _ _ | refine Gr.drewN ?_ _ | refine Gr.drew ?_ | refine Gr.alloc ?_ _ | refine Gr.grow ?_ _ | (refine Gr.trans ?_ (by assumption))))⟩
          · have q3 : (kK k == kd) = false := beq_eq_false_iff_ne.2 fun h => q2 h.symm
            clear hno q2
            go_wp2_with (first | (go_at_call 108; (with_reducible refine (rtype7_in k _ z).mono ?_); rintro e wA ⟨rfl, hgwA⟩; obtain ⟨hclwA, hfzwA, hszwA⟩ := gcell hgwA; (try simp [Nat.add_one_le_iff] at hszwA); have hlwA_w : w.heap.size < wA.heap.size := (by omega)))
            go_roundg (N - (k + 1))
            case measure => omega
            case rel => exact ⟨k + 1, by omega, Nat.le_refl _, by go_num, Gr.keep (W := wr) ((by repeat (first | exact Gr.refl _ | refine Gr.setCell ?_ _ _ (by first | exact Nat.le_refl _ | (simp; omega) | (simp; done)) | refine Gr.grown ?_ _ _ | refine Gr.drewN ?_ _ | refine Gr.drew ?_ | refine Gr.alloc ?_ _ | refine Gr.grow ?_ _ | (refine Gr.trans ?_ (by assumption))))) hlt c0, Gr.keep (W := wr) ((by repeat (first | exact Gr.refl _ | refine Gr.setCell ?_ _ _ (by first | exact Nat.le_refl _ | (simp; omega) | (simp; done)) | refine Gr.grown ?_ _ _ | refine Gr.drewN ?_ _ | refine Gr.drew ?_ | refine Gr.alloc ?_ _ | refine Gr.grow ?_ _ | (refine Gr.trans ?_ (by assumption))))) hlt c1, Gr.keep (W := wr) ((by repeat (first | exact Gr.refl _ | refine Gr.setCell ?_ _ _ (by first | exact Nat.le_refl _ | (simp; omega) | (simp; done)) | refine Gr.grown ?_ _ _ | refine Gr.drewN ?_ _ | refine Gr.drew ?_ | refine Gr.alloc ?_ _ | refine Gr.grow ?_ _ | (refine Gr.trans ?_ (by assumption))))) hlt c2, Gr.lt (W := wr) ((by repeat (first | exact Gr.refl _ | refine Gr.setCell ?_ _ _ (by first | exact Nat.le_refl _ | (simp; omega) | (simp; done)) | refine Gr.grown ?_ _ _ | refine Gr.drewN ?_ _ | refine Gr.drew ?_ | refine Gr.alloc ?_ _ | refine Gr.grow ?_ _ | (refine Gr.trans ?_ (by assumption))))) hlt, (by repeat (first | exact Gr.refl _ | refine Gr.setCell ?_ _ _ (by first | exact Nat.le_refl _ | (simp; omega) | (simp; done)) | refine Gr.grown ?_ _ _ | refine Gr.drewN ?_ _ | refine Gr.drew ?_ | refine Gr.alloc ?_ _ | refine Gr.grow ?_ _ | (refine Gr.trans ?_ (by assumption))))⟩
        · have q3 : (kB k == b) = false := beq_eq_false_iff_ne.2 fun h => q1 h.symm
          clear hno q1
          go_wp2_with (first | (go_at_call 108; (with_reducible refine (rtype7_in k _ z).mono ?_); rintro e wA ⟨rfl, hgwA⟩; obtain ⟨hclwA, hfzwA, hszwA⟩ := gcell hgwA; (try simp [Nat.add_one_le_iff] at hszwA); have hlwA_w : w.heap.size < wA.heap.size := (by omega)))
          go_roundg (N - (k + 1))
          case measure => omega
          case rel => exact ⟨k + 1, by omega, Nat.le_refl _, by go_num, Gr.keep (W := wr) ((by repeat (first | exact Gr.refl _ | refine Gr.setCell ?_ _ _ (by first | exact Nat.le_refl _ | (simp; omega) | (simp; done)) | refine Gr.grown ?_ _ _ | refine Gr.drewN ?_ _ | refine Gr.drew ?_ | refine Gr.alloc ?_ _ | refine Gr.grow ?_ _ | (refine Gr.trans ?_ (by assumption))))) hlt c0, Gr.keep (W := wr) ((by repeat (first | exact Gr.refl _ | refine Gr.setCell ?_ _ _ (by first | exact Nat.le_refl _ | (simp; omega) | (simp; done)) | refine Gr.grown ?_ _ _ | refine Gr.drewN ?_ _ | refine Gr.drew ?_ | refine Gr.alloc ?_ _ | refine Gr.grow ?_ _ | (refine Gr.trans ?_ (by assumption))))) hlt c1, Gr.keep (W := wr) ((by repeat (first | exact Gr.refl _ | refine Gr.setCell ?_ _ _ (by first | exact Nat.le_refl _ | (simp; omega) | (simp; done)) | refine Gr.grown ?_ _ _ | refine Gr.drewN ?_ _ | refine Gr.drew ?_ | refine Gr.alloc ?_ _ | refine Gr.grow ?_ _ | (refine Gr.trans ?_ (by assumption))))) hlt c2, Gr.lt (W := wr) ((by repeat (first | exact Gr.refl _ | refine Gr.setCell ?_ _ _ (by first | exact Nat.le_refl _ | (simp; omega) | (simp; done)) | refine Gr.grown ?_ _ _ | refine Gr.drewN ?_ _ | refine Gr.drew ?_ | refine Gr.alloc ?_ _ | refine Gr.grow ?_ _ | (refine Gr.trans ?_ (by assumption))))) hlt, (by repeat (first | exact Gr.refl _ | refine Gr.setCell ?_ _ _ (by first | exact Nat.le_refl _ | (simp; omega) | (simp; done)) | refine Gr.grown ?_ _ _ | refine Gr.drewN ?_ _ | refine Gr.drew ?_ | refine Gr.alloc ?_ _ | refine Gr.grow ?_ _ | (refine Gr.trans ?_ (by assumption))))⟩
    · have y : k = N := by omega
      have HR := Lib.hid (E2.out (by omega))
      clear E1 E2 HA HO
      go_wp2
      go_ret
      exact ⟨ret1 HR.out, (by repeat (first | exact Gr.refl _ | refine Gr.setCell ?_ _ _ (by first | exact Nat.le_refl _ | (simp; omega) | (simp; done)) | refine Gr.grown ?_ _ _ | refine Gr.drewN ?_ _ | refine Gr.drew ?_ | refine Gr.alloc ?_ _ | refine Gr.grow ?_ _ | (refine Gr.trans ?_ (by assumption))))⟩


end Go.Proofs.YtkiopgegdkeojaaGreatDoor.Walks
