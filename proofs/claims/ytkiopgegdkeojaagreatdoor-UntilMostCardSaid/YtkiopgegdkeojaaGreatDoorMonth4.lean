/- Walks of package month: the days ahead of a month, the month of a day. -/
import Derived.Test.YtkiopgegdkeojaaGreatDoorMonth3
set_option linter.unusedVariables false
set_option linter.unusedSimpArgs false
namespace Go.Proofs.YtkiopgegdkeojaaGreatDoor.Walks
open Go Go.RowKit Go.Sort Go.Proofs.YtkiopgegdkeojaaGreatDoor.Base Go.Proofs.YtkiopgegdkeojaaGreatDoor.Plain Go.Proofs.YtkiopgegdkeojaaGreatDoor.Math

set_option maxRecDepth 20000 in
set_option maxHeartbeats 2000000 in
theorem mahead_in (b kd : Int) (l : Bool) (j : Nat) (w : World) (G : GT w) (hj : j < mN b kd l) : Calls Tryz.prog 56 #[.agg #[.int .i64 b, .int .i64 kd, .bool l], .int .i64 ((j : Int) + 1)] w fun e w' => e = .returned (.int .i64 (mah kd l j)) ∧ Gr w w' := by
  have hN := mN_le b kd l
  have C1 : RowKit.Hid (∀ W, Gr w W → Calls Tryz.prog 89 #[.agg #[.int .i64 b, .int .i64 kd, .bool l]] W fun e w' => e = .returned (.agg #[.int .i64 (tf (mlen kd l) (mN b kd l) 0), .int .i64 (tf (mlen kd l) (mN b kd l) 1), .int .i64 (tf (mlen kd l) (mN b kd l) 2), .int .i64 (tf (mlen kd l) (mN b kd l) 3), .int .i64 (tf (mlen kd l) (mN b kd l) 4), .int .i64 (tf (mlen kd l) (mN b kd l) 5), .int .i64 (tf (mlen kd l) (mN b kd l) 6), .int .i64 (tf (mlen kd l) (mN b kd l) 7), .int .i64 (tf (mlen kd l) (mN b kd l) 8), .int .i64 (tf (mlen kd l) (mN b kd l) 9), .int .i64 (tf (mlen kd l) (mN b kd l) 10), .int .i64 (tf (mlen kd l) (mN b kd l) 11), .int .i64 (tf (mlen kd l) (mN b kd l) 12), .int .i64 ((mN b kd l) : Int)]) ∧ Gr W w') := Lib.hid fun W hW => mof_c b kd l W (G.gr hW)
  have HS : RowKit.Hid (∀ k, mah kd l (k + 1) = mah kd l k + mlen kd l k) := Lib.hid fun _ => rfl
  have HR := Lib.hid (mah_range kd l)
  have HL := Lib.hid (mlen_range kd l)
  have HZ : RowKit.Hid (mah kd l 0 = 0) := Lib.hid rfl
  obtain ⟨N, hN2⟩ : ∃ N, mN b kd l = N := ⟨_, rfl⟩
  obtain ⟨S, hS⟩ : ∃ S, mah kd l = S := ⟨_, rfl⟩
  obtain ⟨M, hM⟩ : ∃ M, mlen kd l = M := ⟨_, rfl⟩
  rw [hM] at C1 HS HL
  rw [hS] at HS HR HZ ⊢
  rw [hN2] at C1 hj hN
  have HJ : RowKit.Hid (∀ k, k < N → tf M N k = M k) := Lib.hid fun k hk => by unfold tf; rw [if_pos hk]
  have EB : RowKit.Hid (decide (0 < (j : Int) + 1 ∧ (j : Int) + 1 ≤ N) = true) := Lib.hid (decide_eq_true (by omega))
  have j13 : j < 13 := by omega
  have ji : (j : Int) ≤ 13 := by omega
  have CH := Lib.hid (fun W => thas_c M N ((j : Int) + 1) W)
  rw [EB.out] at CH
  have HN := Lib.hid hN
  have HJN := Lib.hid hj
  clear G hN2 hM hS hj hN EB
  go_enter Tryz.func56, Tryz.ntmps56
  go_wp2_with (first | (go_at_call 89; (with_reducible refine (C1.out _ ((by repeat (first | exact Gr.refl _ | refine Gr.setCell ?_ _ _ (by first | exact Nat.le_refl _ | (simp; omega) | (simp; done)) | refine Gr.grown ?_ _ _ | refine Gr.drewN ?_ _ | refine Gr.drew ?_ | refine Gr.alloc ?_ _ | refine Gr.grow ?_ _ | (refine Gr.trans ?_ (by assumption)))))).mono ?_); rintro e wA ⟨rfl, hgwA⟩) | ((go_at_call 90; (with_reducible refine (CH.out _).mono ?_); rintro e wB ⟨rfl, hgwB⟩); have T := (tab_new M N wA).gr hgwB))
  have GB : Gr w wB := (by repeat (first | exact Gr.refl _ | refine Gr.setCell ?_ _ _ (by first | exact Nat.le_refl _ | (simp; omega) | (simp; done)) | refine Gr.grown ?_ _ _ | refine Gr.drewN ?_ _ | refine Gr.drew ?_ | refine Gr.alloc ?_ _ | refine Gr.grow ?_ _ | (refine Gr.trans ?_ (by assumption))))
  have lA : wA.heap.size < wB.heap.size := T.lt
  clear hgwA hgwB
  go_loopg [6, 20] j (fun kx s6 s20 wr => ∃ k : Nat, k ≤ j ∧ j - k ≤ kx ∧ s6 = .int .i64 (S k) ∧ s20 = .int .i64 (k : Int) ∧ Tab wr wA.heap.size (tf M N) N ∧ Gr w wr)
  case atStart => exact ⟨0, by omega, by omega, by rw [HZ.out], rfl, T, GB⟩
  case round =>
    obtain ⟨k, hk, hm, rfl, rfl, T, hg⟩ := hrel
    have r0 := (HR.out k).1
    have r1 := (HR.out k).2
    by_cases e : k < j
    · have ck := T.c k (by omega)
      rw [HJ.out k (by have := HJN.out; omega)] at ck
      have m0 := (HL.out k).1
      have m1 := (HL.out k).2
      have TD := Lib.hid T
      clear T
      go_wp2
      go_roundg (j - (k + 1))
      case measure => omega
      case rel => exact ⟨k + 1, by omega, Nat.le_refl _, by rw [HS.out], by go_num, TD.out.gr (by repeat (first | exact Gr.refl _ | refine Gr.setCell ?_ _ _ (by first | exact Nat.le_refl _ | (simp; omega) | (simp; done)) | refine Gr.grown ?_ _ _ | refine Gr.drewN ?_ _ | refine Gr.drew ?_ | refine Gr.alloc ?_ _ | refine Gr.grow ?_ _ | (refine Gr.trans ?_ (by assumption)))), (by repeat (first | exact Gr.refl _ | refine Gr.setCell ?_ _ _ (by first | exact Nat.le_refl _ | (simp; omega) | (simp; done)) | refine Gr.grown ?_ _ _ | refine Gr.drewN ?_ _ | refine Gr.drew ?_ | refine Gr.alloc ?_ _ | refine Gr.grow ?_ _ | (refine Gr.trans ?_ (by assumption))))⟩
    · obtain rfl : k = j := by omega
      clear T
      go_wp2
      go_ret
      exact ⟨rfl, (by repeat (first | exact Gr.refl _ | refine Gr.setCell ?_ _ _ (by first | exact Nat.le_refl _ | (simp; omega) | (simp; done)) | refine Gr.grown ?_ _ _ | refine Gr.drewN ?_ _ | refine Gr.drew ?_ | refine Gr.alloc ?_ _ | refine Gr.grow ?_ _ | (refine Gr.trans ?_ (by assumption))))⟩
set_option maxRecDepth 20000 in
set_option maxHeartbeats 1000000 in
theorem mahead_out (b kd : Int) (l : Bool) (m : Int) (w : World) (G : GT w) (hm : m < 1 ∨ mN b kd l < m) : Calls Tryz.prog 56 #[.agg #[.int .i64 b, .int .i64 kd, .bool l], .int .i64 m] w fun e w' => e = .returned (.int .i64 0) ∧ Gr w w' := by
  have C1 : RowKit.Hid (∀ W, Gr w W → Calls Tryz.prog 89 #[.agg #[.int .i64 b, .int .i64 kd, .bool l]] W fun e w' => e = .returned (.agg #[.int .i64 (tf (mlen kd l) (mN b kd l) 0), .int .i64 (tf (mlen kd l) (mN b kd l) 1), .int .i64 (tf (mlen kd l) (mN b kd l) 2), .int .i64 (tf (mlen kd l) (mN b kd l) 3), .int .i64 (tf (mlen kd l) (mN b kd l) 4), .int .i64 (tf (mlen kd l) (mN b kd l) 5), .int .i64 (tf (mlen kd l) (mN b kd l) 6), .int .i64 (tf (mlen kd l) (mN b kd l) 7), .int .i64 (tf (mlen kd l) (mN b kd l) 8), .int .i64 (tf (mlen kd l) (mN b kd l) 9), .int .i64 (tf (mlen kd l) (mN b kd l) 10), .int .i64 (tf (mlen kd l) (mN b kd l) 11), .int .i64 (tf (mlen kd l) (mN b kd l) 12), .int .i64 ((mN b kd l) : Int)]) ∧ Gr W w') := Lib.hid fun W hW => mof_c b kd l W (G.gr hW)
  have CH := Lib.hid (fun W => thas_c (mlen kd l) (mN b kd l) m W)
  rw [decide_eq_false (by omega)] at CH
  clear G hm
  go_enter Tryz.func56, Tryz.ntmps56
  go_wp2_with (first | (go_at_call 89; (with_reducible refine (C1.out _ ((by repeat (first | exact Gr.refl _ | refine Gr.setCell ?_ _ _ (by first | exact Nat.le_refl _ | (simp; omega) | (simp; done)) | refine Gr.grown ?_ _ _ | refine Gr.drewN ?_ _ | refine Gr.drew ?_ | refine Gr.alloc ?_ _ | refine Gr.grow ?_ _ | (refine Gr.trans ?_ (by assumption)))))).mono ?_); rintro e wA ⟨rfl, hgwA⟩) | (go_at_call 90; (with_reducible refine (CH.out _).mono ?_); rintro e wB ⟨rfl, hgwB⟩))
  go_ret
  exact ⟨rfl, (by repeat (first | exact Gr.refl _ | refine Gr.setCell ?_ _ _ (by first | exact Nat.le_refl _ | (simp; omega) | (simp; done)) | refine Gr.grown ?_ _ _ | refine Gr.drewN ?_ _ | refine Gr.drew ?_ | refine Gr.alloc ?_ _ | refine Gr.grow ?_ _ | (refine Gr.trans ?_ (by assumption))))⟩

set_option maxRecDepth 20000 in
set_option maxHeartbeats 2000000 in
theorem mfind_in (b kd : Int) (l : Bool) (j : Nat) (r : Int) (w : World) (G : GT w) (hj : j < mN b kd l) (h0 : mah kd l j < r) (h1 : r ≤ mah kd l (j + 1)) :
    Calls Tryz.prog 80 #[.agg #[.int .i64 b, .int .i64 kd, .bool l], .int .i64 r] w fun e w' => e = .returned (.tuple #[.int .i64 ((j : Int) + 1), .int .i64 (r - mah kd l j), .bool true]) ∧ Gr w w' := by
  have hN := mN_le b kd l
  have C1 : RowKit.Hid (∀ W, Gr w W → Calls Tryz.prog 89 #[.agg #[.int .i64 b, .int .i64 kd, .bool l]] W fun e w' => e = .returned (.agg #[.int .i64 (tf (mlen kd l) (mN b kd l) 0), .int .i64 (tf (mlen kd l) (mN b kd l) 1), .int .i64 (tf (mlen kd l) (mN b kd l) 2), .int .i64 (tf (mlen kd l) (mN b kd l) 3), .int .i64 (tf (mlen kd l) (mN b kd l) 4), .int .i64 (tf (mlen kd l) (mN b kd l) 5), .int .i64 (tf (mlen kd l) (mN b kd l) 6), .int .i64 (tf (mlen kd l) (mN b kd l) 7), .int .i64 (tf (mlen kd l) (mN b kd l) 8), .int .i64 (tf (mlen kd l) (mN b kd l) 9), .int .i64 (tf (mlen kd l) (mN b kd l) 10), .int .i64 (tf (mlen kd l) (mN b kd l) 11), .int .i64 (tf (mlen kd l) (mN b kd l) 12), .int .i64 ((mN b kd l) : Int)]) ∧ Gr W w') := Lib.hid fun W hW => mof_c b kd l W (G.gr hW)
  have HS : RowKit.Hid (∀ k, mah kd l (k + 1) = mah kd l k + mlen kd l k) := Lib.hid fun _ => rfl
  have HR := Lib.hid (mah_range kd l)
  have HL := Lib.hid (mlen_range kd l)
  have HZ : RowKit.Hid (mah kd l 0 = 0) := Lib.hid rfl
  have HM := Lib.hid (fun i k (h : i ≤ k) => mah_le kd l h)
  obtain ⟨N, hN2⟩ : ∃ N, mN b kd l = N := ⟨_, rfl⟩
  obtain ⟨S, hS⟩ : ∃ S, mah kd l = S := ⟨_, rfl⟩
  obtain ⟨M, hM⟩ : ∃ M, mlen kd l = M := ⟨_, rfl⟩
  rw [hM] at C1 HS HL
  rw [hS] at HS HR HZ HM h0 h1 ⊢
  rw [hN2] at C1 hj hN
  have HJ : RowKit.Hid (∀ k, k < N → tf M N k = M k) := Lib.hid fun k hk => by unfold tf; rw [if_pos hk]
  have n13 : (N : Int) ≤ 13 := by omega
  have HJN := Lib.hid hj
  have H0 := Lib.hid h0
  have H1 := Lib.hid h1
  clear G hN2 hM hS hj h0 h1
  go_enter Tryz.func80, Tryz.ntmps80
  go_wp2_with (first | (go_at_call 89; (with_reducible refine (C1.out _ ((by repeat (first | exact Gr.refl _ | refine Gr.setCell ?_ _ _ (by first | exact Nat.le_refl _ | (simp; omega) | (simp; done)) | refine Gr.grown ?_ _ _ | refine Gr.drewN ?_ _ | refine Gr.drew ?_ | refine Gr.alloc ?_ _ | refine Gr.grow ?_ _ | (refine Gr.trans ?_ (by assumption)))))).mono ?_); rintro e wA ⟨rfl, hgwA⟩))
  have T := tab_new M N wA
  have GB : Gr w (wA.alloc (.cells #[.int .i64 (tf M N 0), .int .i64 (tf M N 1), .int .i64 (tf M N 2), .int .i64 (tf M N 3), .int .i64 (tf M N 4), .int .i64 (tf M N 5), .int .i64 (tf M N 6), .int .i64 (tf M N 7), .int .i64 (tf M N 8), .int .i64 (tf M N 9), .int .i64 (tf M N 10), .int .i64 (tf M N 11), .int .i64 (tf M N 12), .int .i64 (N : Int)] 100)) := (by repeat (first | exact Gr.refl _ | refine Gr.setCell ?_ _ _ (by first | exact Nat.le_refl _ | (simp; omega) | (simp; done)) | refine Gr.grown ?_ _ _ | refine Gr.drewN ?_ _ | refine Gr.drew ?_ | refine Gr.alloc ?_ _ | refine Gr.grow ?_ _ | (refine Gr.trans ?_ (by assumption))))
  clear hgwA
  go_loopg [1, 17] j (fun kx s1 s17 wr => ∃ k : Nat, k ≤ j ∧ j - k ≤ kx ∧ s1 = .int .i64 (r - S k) ∧ s17 = .int .i64 (k : Int) ∧ Tab wr wA.heap.size (tf M N) N ∧ Gr w wr)
  case atStart => exact ⟨0, by omega, by omega, by rw [HZ.out]; simp, rfl, T, GB⟩
  case round =>
    obtain ⟨k, hk, hm, rfl, rfl, T, hg⟩ := hrel
    have ck := T.c k (by have := HJN.out; omega)
    rw [HJ.out k (by have := HJN.out; omega)] at ck
    have kN : (k : Int) < N := by have := HJN.out; omega
    have m0 := (HL.out k).1
    have m1 := (HL.out k).2
    have r0 := (HR.out k).1
    have r1 := (HR.out k).2
    have TD := Lib.hid T
    clear T
    have rl : -400 ≤ r ∧ r ≤ 800 := by have := H0.out; have := H1.out; have := (HR.out j).1; have := (HR.out (j + 1)).2; have := HJN.out; omega
    have rl0 := rl.1
    have rl1 := rl.2
    clear rl
    by_cases e : k < j
    · have big : M k < r - S k := by have := HM.out (k + 1) j e; rw [HS.out] at this; have := H0.out; omega
      have pos : 1 ≤ r - S k := by omega
      go_wp2
      go_roundg (j - (k + 1))
      case measure => omega
      case rel => exact ⟨k + 1, by omega, Nat.le_refl _, by rw [HS.out]; congr 1; omega, by go_num, TD.out.gr (by repeat (first | exact Gr.refl _ | refine Gr.setCell ?_ _ _ (by first | exact Nat.le_refl _ | (simp; omega) | (simp; done)) | refine Gr.grown ?_ _ _ | refine Gr.drewN ?_ _ | refine Gr.drew ?_ | refine Gr.alloc ?_ _ | refine Gr.grow ?_ _ | (refine Gr.trans ?_ (by assumption)))), (by repeat (first | exact Gr.refl _ | refine Gr.setCell ?_ _ _ (by first | exact Nat.le_refl _ | (simp; omega) | (simp; done)) | refine Gr.grown ?_ _ _ | refine Gr.drewN ?_ _ | refine Gr.drew ?_ | refine Gr.alloc ?_ _ | refine Gr.grow ?_ _ | (refine Gr.trans ?_ (by assumption))))⟩
    · obtain rfl : k = j := by omega
      have le : r - S k ≤ M k := by have := H1.out; rw [HS.out] at this; omega
      have pos : 1 ≤ r - S k := by have := H0.out; omega
      go_wp2
      go_ret3
      exact ⟨rfl, (by repeat (first | exact Gr.refl _ | refine Gr.setCell ?_ _ _ (by first | exact Nat.le_refl _ | (simp; omega) | (simp; done)) | refine Gr.grown ?_ _ _ | refine Gr.drewN ?_ _ | refine Gr.drew ?_ | refine Gr.alloc ?_ _ | refine Gr.grow ?_ _ | (refine Gr.trans ?_ (by assumption))))⟩
set_option maxRecDepth 20000 in
set_option maxHeartbeats 2000000 in
theorem mfind_out (b kd : Int) (l : Bool) (r : Int) (w : World) (G : GT w) (h : r < 1 ∨ mah kd l (mN b kd l) < r) (hr0 : -9223372036854775808 ≤ r) (hr1 : r ≤ 9223372036854775807) :
    Calls Tryz.prog 80 #[.agg #[.int .i64 b, .int .i64 kd, .bool l], .int .i64 r] w fun e w' => e = .returned (.tuple #[.int .i64 0, .int .i64 0, .bool false]) ∧ Gr w w' := by
  have hN := mN_le b kd l
  have C1 : RowKit.Hid (∀ W, Gr w W → Calls Tryz.prog 89 #[.agg #[.int .i64 b, .int .i64 kd, .bool l]] W fun e w' => e = .returned (.agg #[.int .i64 (tf (mlen kd l) (mN b kd l) 0), .int .i64 (tf (mlen kd l) (mN b kd l) 1), .int .i64 (tf (mlen kd l) (mN b kd l) 2), .int .i64 (tf (mlen kd l) (mN b kd l) 3), .int .i64 (tf (mlen kd l) (mN b kd l) 4), .int .i64 (tf (mlen kd l) (mN b kd l) 5), .int .i64 (tf (mlen kd l) (mN b kd l) 6), .int .i64 (tf (mlen kd l) (mN b kd l) 7), .int .i64 (tf (mlen kd l) (mN b kd l) 8), .int .i64 (tf (mlen kd l) (mN b kd l) 9), .int .i64 (tf (mlen kd l) (mN b kd l) 10), .int .i64 (tf (mlen kd l) (mN b kd l) 11), .int .i64 (tf (mlen kd l) (mN b kd l) 12), .int .i64 ((mN b kd l) : Int)]) ∧ Gr W w') := Lib.hid fun W hW => mof_c b kd l W (G.gr hW)
  have HS : RowKit.Hid (∀ k, mah kd l (k + 1) = mah kd l k + mlen kd l k) := Lib.hid fun _ => rfl
  have HR := Lib.hid (mah_range kd l)
  have HL := Lib.hid (mlen_range kd l)
  have HZ : RowKit.Hid (mah kd l 0 = 0) := Lib.hid rfl
  have HM := Lib.hid (fun i k (h : i ≤ k) => mah_le kd l h)
  obtain ⟨N, hN2⟩ : ∃ N, mN b kd l = N := ⟨_, rfl⟩
  obtain ⟨S, hS⟩ : ∃ S, mah kd l = S := ⟨_, rfl⟩
  obtain ⟨M, hM⟩ : ∃ M, mlen kd l = M := ⟨_, rfl⟩
  rw [hM] at C1 HS HL
  rw [hS] at HS HR HZ HM h
  rw [hN2] at C1 h hN
  have HJ : RowKit.Hid (∀ k, k < N → tf M N k = M k) := Lib.hid fun k hk => by unfold tf; rw [if_pos hk]
  have n13 : (N : Int) ≤ 13 := by omega
  have HH := Lib.hid h
  clear G hN2 hM hS h
  go_enter Tryz.func80, Tryz.ntmps80
  go_wp2_with (first | (go_at_call 89; (with_reducible refine (C1.out _ ((by repeat (first | exact Gr.refl _ | refine Gr.setCell ?_ _ _ (by first | exact Nat.le_refl _ | (simp; omega) | (simp; done)) | refine Gr.grown ?_ _ _ | refine Gr.drewN ?_ _ | refine Gr.drew ?_ | refine Gr.alloc ?_ _ | refine Gr.grow ?_ _ | (refine Gr.trans ?_ (by assumption)))))).mono ?_); rintro e wA ⟨rfl, hgwA⟩))
  have T := tab_new M N wA
  have GB : Gr w (wA.alloc (.cells #[.int .i64 (tf M N 0), .int .i64 (tf M N 1), .int .i64 (tf M N 2), .int .i64 (tf M N 3), .int .i64 (tf M N 4), .int .i64 (tf M N 5), .int .i64 (tf M N 6), .int .i64 (tf M N 7), .int .i64 (tf M N 8), .int .i64 (tf M N 9), .int .i64 (tf M N 10), .int .i64 (tf M N 11), .int .i64 (tf M N 12), .int .i64 (N : Int)] 100)) := (by repeat (first | exact Gr.refl _ | refine Gr.setCell ?_ _ _ (by first | exact Nat.le_refl _ | (simp; omega) | (simp; done)) | refine Gr.grown ?_ _ _ | refine Gr.drewN ?_ _ | refine Gr.drew ?_ | refine Gr.alloc ?_ _ | refine Gr.grow ?_ _ | (refine Gr.trans ?_ (by assumption))))
  clear hgwA
  go_loopg [1, 17] N (fun kx s1 s17 wr => ∃ k : Nat, k ≤ N ∧ N - k ≤ kx ∧ s1 = .int .i64 (r - S k) ∧ s17 = .int .i64 (k : Int) ∧ (r < 1 → k = 0) ∧ Tab wr wA.heap.size (tf M N) N ∧ Gr w wr)
  case atStart => exact ⟨0, by omega, by omega, by rw [HZ.out]; simp, rfl, fun _ => rfl, T, GB⟩
  case round =>
    obtain ⟨k, hk, hm, rfl, rfl, hneg, T, hg⟩ := hrel
    have r0 := (HR.out k).1
    have r1 := (HR.out k).2
    by_cases e : k < N
    · have ck := T.c k (by omega)
      rw [HJ.out k e] at ck
      have kN : (k : Int) < N := by omega
      have m0 := (HL.out k).1
      have m1 := (HL.out k).2
      have TD := Lib.hid T
      clear T
      by_cases neg : r < 1
      · obtain rfl := hneg neg
        have z : S 0 = 0 := HZ.out
        rw [z]
        have neg2 : r - 0 < 1 := by omega
        clear hneg
        go_wp2
        go_ret3
        exact ⟨rfl, (by repeat (first | exact Gr.refl _ | refine Gr.setCell ?_ _ _ (by first | exact Nat.le_refl _ | (simp; omega) | (simp; done)) | refine Gr.grown ?_ _ _ | refine Gr.drewN ?_ _ | refine Gr.drew ?_ | refine Gr.alloc ?_ _ | refine Gr.grow ?_ _ | (refine Gr.trans ?_ (by assumption))))⟩
      · have big : M k < r - S k := by
          have := HM.out (k + 1) N e
          rw [HS.out] at this
          have := HH.out
          omega
        have pos : 1 ≤ r - S k := by omega
        have rp : 1 ≤ r := by omega
        clear hneg neg
        go_wp2
        go_roundg (N - (k + 1))
        case measure => omega
        case rel => exact ⟨k + 1, by omega, Nat.le_refl _, by rw [HS.out]; congr 1; omega, by go_num, fun z => absurd z (by omega), TD.out.gr (by repeat (first | exact Gr.refl _ | refine Gr.setCell ?_ _ _ (by first | exact Nat.le_refl _ | (simp; omega) | (simp; done)) | refine Gr.grown ?_ _ _ | refine Gr.drewN ?_ _ | refine Gr.drew ?_ | refine Gr.alloc ?_ _ | refine Gr.grow ?_ _ | (refine Gr.trans ?_ (by assumption)))), (by repeat (first | exact Gr.refl _ | refine Gr.setCell ?_ _ _ (by first | exact Nat.le_refl _ | (simp; omega) | (simp; done)) | refine Gr.grown ?_ _ _ | refine Gr.drewN ?_ _ | refine Gr.drew ?_ | refine Gr.alloc ?_ _ | refine Gr.grow ?_ _ | (refine Gr.trans ?_ (by assumption))))⟩
    · obtain rfl : k = N := by omega
      clear T hneg
      go_wp2
      go_ret3
      exact ⟨rfl, (by repeat (first | exact Gr.refl _ | refine Gr.setCell ?_ _ _ (by first | exact Nat.le_refl _ | (simp; omega) | (simp; done)) | refine Gr.grown ?_ _ _ | refine Gr.drewN ?_ _ | refine Gr.drew ?_ | refine Gr.alloc ?_ _ | refine Gr.grow ?_ _ | (refine Gr.trans ?_ (by assumption))))⟩

end Go.Proofs.YtkiopgegdkeojaaGreatDoor.Walks
