/- WholeNineteen, walked. -/
import Derived.Test.YtegkbjpcgelomaaGreatDoorZ21
import Derived.Test.YtegkbjpcgelomaaGreatDoorZ14
import Derived.Test.YtegkbjpcgelomaaGreatDoorZ15
import Derived.Test.YtegkbjpcgelomaaGreatDoorZ16
import Derived.Test.YtegkbjpcgelomaaGreatDoorZ18
set_option linter.unusedVariables false
set_option linter.unusedSimpArgs false
section
namespace Go.Proofs.YtegkbjpcgelomaaGreatDoor.Walks
open Go Go.RowKit Go.Sort Go.Proofs.YtegkbjpcgelomaaGreatDoor.Base Go.Proofs.YtegkbjpcgelomaaGreatDoor.Plain Go.Proofs.YtegkbjpcgelomaaGreatDoor.Math

theorem mo_far (n : Int) : 25920 * (moD (n + 235) - moD n) + moP (n + 235) - moP n = 179876755 := by unfold moD moP; omega
theorem bf_far (k : Int) : bf (k + 19) + 1 - 1 = (bf k + 1 - 1) + 235 := by unfold bf; omega
theorem mo_range {k : Int} (h0 : 0 ≤ k) (h1 : k ≤ 10001) : -10000000 ≤ moD (bf k + 1 - 1) ∧ moD (bf k + 1 - 1) ≤ 10000000 ∧ 0 ≤ moP (bf k + 1 - 1) ∧ moP (bf k + 1 - 1) ≤ 25920 := by
  have := bf_range h0 h1
  unfold moD moP
  omega
set_option maxHeartbeats 4000000 in
theorem nineteen_c (y : Int) (w : World) (G : GT w) (p : PT w) (y0 : 0 ≤ y) (y1 : y ≤ 65535) : Calls Tryq.prog 3 #[.int .u16 y] w fun e w' => e = .returned (.bool true) ∧ Gr w w' := by
  obtain ⟨k, hk⟩ : ∃ k, 1 + y % 9980 = k := ⟨_, rfl⟩
  have k0 : 1 ≤ k := by omega
  have k1 : k ≤ 9980 := by omega
  have m1 := ml_range k
  have m2 := ml_range (k + 19)
  have C1 := Lib.hid fun W => of_in k 1 W (by omega) (by omega) (by omega) (by omega)
  have C2 := Lib.hid fun W => of_in (k + 19) 1 W (by omega) (by omega) (by omega) (by omega)
  have C3 := Lib.hid fun W (hW : Gr w W) => awake_c W (G.gr hW) (p.gr hW)
  have hf := mo_far (bf k + 1 - 1)
  rw [← bf_far] at hf
  have r1 := mo_range (k := k) (by omega) (by omega)
  have r2 := mo_range (k := k + 19) (by omega) (by omega)
  obtain ⟨D, hD⟩ : ∃ D, moD (bf k + 1 - 1) = D := ⟨_, rfl⟩
  obtain ⟨P, hP⟩ : ∃ D, moP (bf k + 1 - 1) = D := ⟨_, rfl⟩
  obtain ⟨A, hA⟩ : ∃ D, moD (bf (k + 19) + 1 - 1) = D := ⟨_, rfl⟩
  obtain ⟨B, hB⟩ : ∃ D, moP (bf (k + 19) + 1 - 1) = D := ⟨_, rfl⟩
  rw [hD, hP] at C1 r1
  rw [hA, hB] at C2 r2
  rw [hA, hB, hD, hP] at hf
  clear hD hP hA hB m1 m2 G p
  obtain ⟨a0, a1, a2, a3⟩ := r1
  obtain ⟨b0, b1, b2, b3⟩ := r2
  have hb : (25920 * (A - D) + B - P == 179876755) = true := beq_iff_eq.2 hf
  go_enter Tryq.func3, Tryq.ntmps3
  go_wp2_with (first | (go_at_call 10; (with_reducible refine (C1.out _).mono ?_); rintro e wA ⟨rfl, hgA⟩; have lA : 0 < wA.heap.size + 1 := Nat.succ_pos _) | (go_at_call 10; (with_reducible refine (C2.out _).mono ?_); rintro e wB ⟨rfl, hgB⟩; have lB : wA.heap.size < wB.heap.size := (by have h := hgB.size; simp at h; omega); have k0 := hgB.keep (b := wA.heap.size) (o := 0) (v := .int .i64 D) (by first | (simp; done) | (simp; omega)) (by simp [go_sem]); have k1 := hgB.keep (b := wA.heap.size) (o := 1) (v := .int .i64 P) (by first | (simp; done) | (simp; omega)) (by simp [go_sem])) | (go_at_call 11; (with_reducible refine (C3.out _ ((by repeat (first | exact Gr.refl _ | refine Gr.setCell ?_ _ _ (by first | exact Nat.le_refl _ | (simp; omega) | (simp; done)) | refine Gr.grown ?_ _ _ | refine Gr.drewN ?_ _ | refine Gr.drew ?_ | refine Gr.alloc ?_ _ | refine Gr.grow ?_ _ | (refine Gr.trans ?_ (by assumption)))))).mono ?_); rintro e wC ⟨rfl, hgC⟩))

  go_ret
  exact ⟨rfl, (by repeat (first | exact Gr.refl _ | refine Gr.setCell ?_ _ _ (by first | exact Nat.le_refl _ | (simp; omega) | (simp; done)) | refine Gr.grown ?_ _ _ | refine Gr.drewN ?_ _ | refine Gr.drew ?_ | refine Gr.alloc ?_ _ | refine Gr.grow ?_ _ | (refine Gr.trans ?_ (by assumption))))⟩
theorem u16_of {a : Int} (h : (Lit.int .u16 a).wf = true) : 0 ≤ a ∧ a ≤ 65535 := by
  have e0 : IntKind.u16.min = 0 := rfl
  have e1 : IntKind.u16.max = 65535 := rfl
  simpa only [Lit.wf, e0, e1, Bool.and_eq_true, decide_eq_true_eq] using h
theorem wholeNineteen_t (y : Int) (w : World) (G : GT w) (p : PT w) (h : (Lit.int .u16 y).wf = true) : Calls Tryq.prog 3 #[.int .u16 y] w fun e w' => e = .returned (.bool true) ∧ Gr w w' :=
  nineteen_c y w G p (u16_of h).1 (u16_of h).2
end Go.Proofs.YtegkbjpcgelomaaGreatDoor.Walks
end
/- WholeYears, walked. -/
section
namespace Go.Proofs.YtegkbjpcgelomaaGreatDoor.Walks
open Go Go.RowKit Go.Sort Go.Proofs.YtegkbjpcgelomaaGreatDoor.Base Go.Proofs.YtegkbjpcgelomaaGreatDoor.Plain Go.Proofs.YtegkbjpcgelomaaGreatDoor.Math

theorem tnum_all : allB (fun k => knum (kB k) (kK k) (kL k) == (k : Int) + 1) 14 = true := by decide
theorem tnum_at {k : Nat} (hk : k < 14) : knum (kB k) (kK k) (kL k) = (k : Int) + 1 := beq_iff_eq.1 (allB_at tnum_all k hk)
theorem topyear_c (y : Int) (w : World) (y0 : 0 ≤ y) (y1 : y ≤ 65535) : Calls Tryq.prog 13 #[.int .u16 y] w fun e w' => e = .returned (.int .i64 (1 + y % 9999)) ∧ Gr w w' := by
  go_enter Tryq.func13, Tryq.ntmps13
  go_wp2
  exact bodyPost_ret (v := .int .i64 (1 + y % 9999)) (by simp [results, Tryz.results13, go_sem, *]) rfl ⟨rfl, (by repeat (first | exact Gr.refl _ | refine Gr.setCell ?_ _ _ (by first | exact Nat.le_refl _ | (simp; omega) | (simp; done)) | refine Gr.grown ?_ _ _ | refine Gr.drewN ?_ _ | refine Gr.drew ?_ | refine Gr.alloc ?_ _ | refine Gr.grow ?_ _ | (refine Gr.trans ?_ (by assumption))))⟩
set_option maxRecDepth 20000 in
set_option maxHeartbeats 4000000 in
theorem years_core_f (y A L B K D P N d1 d2 : Int) (w : World) (y0 : 0 ≤ y) (y1 : y ≤ 65535) (a0 : -7300000 ≤ A) (a1 : A ≤ 4540000) (l0 : 353 ≤ L) (l1 : L ≤ 355) (n0 : 1 ≤ N) (n1 : N ≤ 14) (D0 : D ≤ A) (D1 : A - D ≤ 2)
    (c0 : ∀ W, Calls Tryq.prog 13 #[.int .u16 y] W fun e w' => e = .returned (.int .i64 (1 + y % 9999)) ∧ Gr W w')
    (c1 : ∀ W, Calls Tryq.prog 15 #[.int .i64 (1 + y % 9999)] W fun e w' => e = .returned (.tuple #[.int .i64 A, .int .i64 0]) ∧ Gr W w')
    (c2 : ∀ W, Calls Tryq.prog 16 #[.int .i64 (1 + y % 9999)] W fun e w' => e = .returned (.tuple #[.int .i64 A, .int .i64 0]) ∧ Gr W w')
    (c3 : ∀ W, Calls Tryq.prog 17 #[.int .i64 (1 + y % 9999)] W fun e w' => e = .returned (.tuple #[.int .i64 L, .int .i64 0]) ∧ Gr W w')
    (c4 : ∀ W, Calls Tryq.prog 14 #[.int .i64 (1 + y % 9999)] W fun e w' => e = .returned (.tuple #[.agg #[.int .i64 B, .int .i64 K, .bool false], .int .i64 0]) ∧ Gr W w')
    (c5 : ∀ W, Calls Tryq.prog 18 #[.int .i64 (1 + y % 9999)] W fun e w' => e = .returned (.tuple #[.bool false, .int .i64 0]) ∧ Gr W w')
    (c6 : ∀ W, Calls Tryq.prog 10 #[.int .i64 (1 + y % 9999), .int .i64 1] W fun e w' => e = .returned (.tuple #[.agg #[.int .i64 D, .int .i64 P], .int .i64 0]) ∧ Gr W w')
    (c7 : ∀ W, Calls Tryq.prog 19 #[.int .i64 A] W fun e w' => e = .returned (.int .i64 B) ∧ Gr W w')
    (c8 : ∀ W, Gr w W → Calls Tryq.prog 11 #[] W fun e w' => e = .returned (.bool true) ∧ Gr W w')
    (c9 : ∀ W, Gr w W → Calls Tryq.prog 20 #[.agg #[.int .i64 B, .int .i64 K, .bool false]] W fun e w' => e = .returned (.int .i64 N) ∧ Gr W w')
    (cA : ∀ W, Gr w W → Calls Tryq.prog 21 #[.agg #[.int .i64 B, .int .i64 K, .bool false], .int .i64 2] W fun e w' => e = .returned (.int .i64 d1) ∧ Gr W w')
    (cB : ∀ W, Gr w W → Calls Tryq.prog 21 #[.agg #[.int .i64 B, .int .i64 K, .bool false], .int .i64 3] W fun e w' => e = .returned (.int .i64 d2) ∧ Gr W w')
    (w1 : (B == 0) = false) (w2 : (B == 3) = false) (w3 : (B == 5) = false) (v1 : ¬ B = 0) (v2 : ¬ B = 3) (v3 : ¬ B = 5) (u1 : (B != 0) = true) (u2 : (B != 3) = true) (u3 : (B != 5) = true)
    (q1 : (K == L - 353) = true) (q2 : ((d1 == 30) == (L == 355)) = true) (q3 : ((d2 == 29) == (L == 353)) = true) :
    Calls Tryq.prog 5 #[.int .u16 y] w fun e w' => e = .returned (.bool true) ∧ Gr w w' := by
  have C0 := Lib.hid c0
  have C1 := Lib.hid c1
  have C2 := Lib.hid c2
  have C3 := Lib.hid c3
  have C4 := Lib.hid c4
  have C5 := Lib.hid c5
  have C6 := Lib.hid c6
  have C7 := Lib.hid c7
  have C8 := Lib.hid c8
  have C9 := Lib.hid c9
  have CA := Lib.hid cA
  have CB := Lib.hid cB
  clear c0 c1 c2 c3 c4 c5 c6 c7 c8 c9 cA cB
  go_enter Tryq.func5, Tryq.ntmps5
  go_wp2_with (first | (go_at_call 13; (with_reducible refine (C0.out _).mono ?_); rintro e wY ⟨rfl, hgwY⟩; obtain ⟨hclwY, hfzwY, hszwY⟩ := gcell hgwY; (try simp [Nat.add_one_le_iff] at hszwY)) | (go_at_call 15; (with_reducible refine (C1.out _).mono ?_); rintro e wA ⟨rfl, hgwA⟩; obtain ⟨hclwA, hfzwA, hszwA⟩ := gcell hgwA; (try simp [Nat.add_one_le_iff] at hszwA)) | (go_at_call 16; (with_reducible refine (C2.out _).mono ?_); rintro e wB ⟨rfl, hgwB⟩; obtain ⟨hclwB, hfzwB, hszwB⟩ := gcell hgwB; (try simp [Nat.add_one_le_iff] at hszwB)) | (go_at_call 17; (with_reducible refine (C3.out _).mono ?_); rintro e wC ⟨rfl, hgwC⟩; obtain ⟨hclwC, hfzwC, hszwC⟩ := gcell hgwC; (try simp [Nat.add_one_le_iff] at hszwC)) | (go_at_call 14; (with_reducible refine (C4.out _).mono ?_); rintro e wD ⟨rfl, hgwD⟩; obtain ⟨hclwD, hfzwD, hszwD⟩ := gcell hgwD; (try simp [Nat.add_one_le_iff] at hszwD)) | (go_at_call 18; (with_reducible refine (C5.out _).mono ?_); rintro e wE ⟨rfl, hgwE⟩; obtain ⟨hclwE, hfzwE, hszwE⟩ := gcell hgwE; (try simp [Nat.add_one_le_iff] at hszwE); have hlwE_wD : wD.heap.size < wE.heap.size := (by omega)) | (go_at_call 10; (with_reducible refine (C6.out _).mono ?_); rintro e wF ⟨rfl, hgwF⟩; obtain ⟨hclwF, hfzwF, hszwF⟩ := gcell hgwF; (try simp [Nat.add_one_le_iff] at hszwF); have hlwF_wD : wD.heap.size < wF.heap.size := (by omega)) | (go_at_call 19; (with_reducible refine (C7.out _).mono ?_); rintro e wG ⟨rfl, hgwG⟩; obtain ⟨hclwG, hfzwG, hszwG⟩ := gcell hgwG; (try simp [Nat.add_one_le_iff] at hszwG); have hlwG_wD : wD.heap.size < wG.heap.size := (by omega); have hlwG_wF : wF.heap.size < wG.heap.size := (by omega)) | (go_at_call 11; (with_reducible refine (C8.out _ ((by repeat (first | exact Gr.refl _ | refine Gr.setCell ?_ _ _ (by first | exact Nat.le_refl _ | (simp; omega) | (simp; done)) | refine Gr.grown ?_ _ _ | refine Gr.drewN ?_ _ | refine Gr.drew ?_ | refine Gr.alloc ?_ _ | refine Gr.grow ?_ _ | (refine Gr.trans ?_ (by assumption)))))).mono ?_); rintro e wH ⟨rfl, hgwH⟩; obtain ⟨hclwH, hfzwH, hszwH⟩ := gcell hgwH; (try simp [Nat.add_one_le_iff] at hszwH); have hlwH_wD : wD.heap.size < wH.heap.size := (by omega); have hlwH_wF : wF.heap.size < wH.heap.size := (by omega)) | (go_at_call 20; (with_reducible refine (C9.out _ ((by repeat (first | exact Gr.refl _ | refine Gr.setCell ?_ _ _ (by first | exact Nat.le_refl _ | (simp; omega) | (simp; done)) | refine Gr.grown ?_ _ _ | refine Gr.drewN ?_ _ | refine Gr.drew ?_ | refine Gr.alloc ?_ _ | refine Gr.grow ?_ _ | (refine Gr.trans ?_ (by assumption)))))).mono ?_); rintro e wI ⟨rfl, hgwI⟩; obtain ⟨hclwI, hfzwI, hszwI⟩ := gcell hgwI; (try simp [Nat.add_one_le_iff] at hszwI); have hlwI_wD : wD.heap.size < wI.heap.size := (by omega); have hlwI_wF : wF.heap.size < wI.heap.size := (by omega)) | (go_at_call 21; (with_reducible refine (CA.out _ ((by repeat (first | exact Gr.refl _ | refine Gr.setCell ?_ _ _ (by first | exact Nat.le_refl _ | (simp; omega) | (simp; done)) | refine Gr.grown ?_ _ _ | refine Gr.drewN ?_ _ | refine Gr.drew ?_ | refine Gr.alloc ?_ _ | refine Gr.grow ?_ _ | (refine Gr.trans ?_ (by assumption)))))).mono ?_); rintro e wJ ⟨rfl, hgwJ⟩; obtain ⟨hclwJ, hfzwJ, hszwJ⟩ := gcell hgwJ; (try simp [Nat.add_one_le_iff] at hszwJ); have hlwJ_wD : wD.heap.size < wJ.heap.size := (by omega); have hlwJ_wF : wF.heap.size < wJ.heap.size := (by omega)) | (go_at_call 21; (with_reducible refine (CB.out _ ((by repeat (first | exact Gr.refl _ | refine Gr.setCell ?_ _ _ (by first | exact Nat.le_refl _ | (simp; omega) | (simp; done)) | refine Gr.grown ?_ _ _ | refine Gr.drewN ?_ _ | refine Gr.drew ?_ | refine Gr.alloc ?_ _ | refine Gr.grow ?_ _ | (refine Gr.trans ?_ (by assumption)))))).mono ?_); rintro e wK ⟨rfl, hgwK⟩; obtain ⟨hclwK, hfzwK, hszwK⟩ := gcell hgwK; (try simp [Nat.add_one_le_iff] at hszwK); have hlwK_wD : wD.heap.size < wK.heap.size := (by omega); have hlwK_wF : wF.heap.size < wK.heap.size := (by omega)))
  go_ret
  exact ⟨rfl, (by repeat (first | exact Gr.refl _ | refine Gr.setCell ?_ _ _ (by first | exact Nat.le_refl _ | (simp; omega) | (simp; done)) | refine Gr.grown ?_ _ _ | refine Gr.drewN ?_ _ | refine Gr.drew ?_ | refine Gr.alloc ?_ _ | refine Gr.grow ?_ _ | (refine Gr.trans ?_ (by assumption))))⟩

set_option maxRecDepth 20000 in
set_option maxHeartbeats 4000000 in
theorem years_core_t (y A L B K D P N d1 d2 : Int) (w : World) (y0 : 0 ≤ y) (y1 : y ≤ 65535) (a0 : -7300000 ≤ A) (a1 : A ≤ 4540000) (l0 : 353 ≤ L - 30) (l1 : L - 30 ≤ 355) (n0 : 1 ≤ N) (n1 : N ≤ 14) (D0 : D ≤ A) (D1 : A - D ≤ 2)
    (c0 : ∀ W, Calls Tryq.prog 13 #[.int .u16 y] W fun e w' => e = .returned (.int .i64 (1 + y % 9999)) ∧ Gr W w')
    (c1 : ∀ W, Calls Tryq.prog 15 #[.int .i64 (1 + y % 9999)] W fun e w' => e = .returned (.tuple #[.int .i64 A, .int .i64 0]) ∧ Gr W w')
    (c2 : ∀ W, Calls Tryq.prog 16 #[.int .i64 (1 + y % 9999)] W fun e w' => e = .returned (.tuple #[.int .i64 A, .int .i64 0]) ∧ Gr W w')
    (c3 : ∀ W, Calls Tryq.prog 17 #[.int .i64 (1 + y % 9999)] W fun e w' => e = .returned (.tuple #[.int .i64 L, .int .i64 0]) ∧ Gr W w')
    (c4 : ∀ W, Calls Tryq.prog 14 #[.int .i64 (1 + y % 9999)] W fun e w' => e = .returned (.tuple #[.agg #[.int .i64 B, .int .i64 K, .bool true], .int .i64 0]) ∧ Gr W w')
    (c5 : ∀ W, Calls Tryq.prog 18 #[.int .i64 (1 + y % 9999)] W fun e w' => e = .returned (.tuple #[.bool true, .int .i64 0]) ∧ Gr W w')
    (c6 : ∀ W, Calls Tryq.prog 10 #[.int .i64 (1 + y % 9999), .int .i64 1] W fun e w' => e = .returned (.tuple #[.agg #[.int .i64 D, .int .i64 P], .int .i64 0]) ∧ Gr W w')
    (c7 : ∀ W, Calls Tryq.prog 19 #[.int .i64 A] W fun e w' => e = .returned (.int .i64 B) ∧ Gr W w')
    (c8 : ∀ W, Gr w W → Calls Tryq.prog 11 #[] W fun e w' => e = .returned (.bool true) ∧ Gr W w')
    (c9 : ∀ W, Gr w W → Calls Tryq.prog 20 #[.agg #[.int .i64 B, .int .i64 K, .bool true]] W fun e w' => e = .returned (.int .i64 N) ∧ Gr W w')
    (cA : ∀ W, Gr w W → Calls Tryq.prog 21 #[.agg #[.int .i64 B, .int .i64 K, .bool true], .int .i64 2] W fun e w' => e = .returned (.int .i64 d1) ∧ Gr W w')
    (cB : ∀ W, Gr w W → Calls Tryq.prog 21 #[.agg #[.int .i64 B, .int .i64 K, .bool true], .int .i64 3] W fun e w' => e = .returned (.int .i64 d2) ∧ Gr W w')
    (w1 : (B == 0) = false) (w2 : (B == 3) = false) (w3 : (B == 5) = false) (v1 : ¬ B = 0) (v2 : ¬ B = 3) (v3 : ¬ B = 5) (u1 : (B != 0) = true) (u2 : (B != 3) = true) (u3 : (B != 5) = true)
    (q1 : (K == L - 30 - 353) = true) (q2 : ((d1 == 30) == (L - 30 == 355)) = true) (q3 : ((d2 == 29) == (L - 30 == 353)) = true) :
    Calls Tryq.prog 5 #[.int .u16 y] w fun e w' => e = .returned (.bool true) ∧ Gr w w' := by
  have C0 := Lib.hid c0
  have C1 := Lib.hid c1
  have C2 := Lib.hid c2
  have C3 := Lib.hid c3
  have C4 := Lib.hid c4
  have C5 := Lib.hid c5
  have C6 := Lib.hid c6
  have C7 := Lib.hid c7
  have C8 := Lib.hid c8
  have C9 := Lib.hid c9
  have CA := Lib.hid cA
  have CB := Lib.hid cB
  clear c0 c1 c2 c3 c4 c5 c6 c7 c8 c9 cA cB
  go_enter Tryq.func5, Tryq.ntmps5
  go_wp2_with (first | (go_at_call 13; (with_reducible refine (C0.out _).mono ?_); rintro e wY ⟨rfl, hgwY⟩; obtain ⟨hclwY, hfzwY, hszwY⟩ := gcell hgwY; (try simp [Nat.add_one_le_iff] at hszwY)) | (go_at_call 15; (with_reducible refine (C1.out _).mono ?_); rintro e wA ⟨rfl, hgwA⟩; obtain ⟨hclwA, hfzwA, hszwA⟩ := gcell hgwA; (try simp [Nat.add_one_le_iff] at hszwA)) | (go_at_call 16; (with_reducible refine (C2.out _).mono ?_); rintro e wB ⟨rfl, hgwB⟩; obtain ⟨hclwB, hfzwB, hszwB⟩ := gcell hgwB; (try simp [Nat.add_one_le_iff] at hszwB)) | (go_at_call 17; (with_reducible refine (C3.out _).mono ?_); rintro e wC ⟨rfl, hgwC⟩; obtain ⟨hclwC, hfzwC, hszwC⟩ := gcell hgwC; (try simp [Nat.add_one_le_iff] at hszwC)) | (go_at_call 14; (with_reducible refine (C4.out _).mono ?_); rintro e wD ⟨rfl, hgwD⟩; obtain ⟨hclwD, hfzwD, hszwD⟩ := gcell hgwD; (try simp [Nat.add_one_le_iff] at hszwD)) | (go_at_call 18; (with_reducible refine (C5.out _).mono ?_); rintro e wE ⟨rfl, hgwE⟩; obtain ⟨hclwE, hfzwE, hszwE⟩ := gcell hgwE; (try simp [Nat.add_one_le_iff] at hszwE); have hlwE_wD : wD.heap.size < wE.heap.size := (by omega)) | (go_at_call 10; (with_reducible refine (C6.out _).mono ?_); rintro e wF ⟨rfl, hgwF⟩; obtain ⟨hclwF, hfzwF, hszwF⟩ := gcell hgwF; (try simp [Nat.add_one_le_iff] at hszwF); have hlwF_wD : wD.heap.size < wF.heap.size := (by omega)) | (go_at_call 19; (with_reducible refine (C7.out _).mono ?_); rintro e wG ⟨rfl, hgwG⟩; obtain ⟨hclwG, hfzwG, hszwG⟩ := gcell hgwG; (try simp [Nat.add_one_le_iff] at hszwG); have hlwG_wD : wD.heap.size < wG.heap.size := (by omega); have hlwG_wF : wF.heap.size < wG.heap.size := (by omega)) | (go_at_call 11; (with_reducible refine (C8.out _ ((by repeat (first | exact Gr.refl _ | refine Gr.setCell ?_ _ _ (by first | exact Nat.le_refl _ | (simp; omega) | (simp; done)) | refine Gr.grown ?_ _ _ | refine Gr.drewN ?_ _ | refine Gr.drew ?_ | refine Gr.alloc ?_ _ | refine Gr.grow ?_ _ | (refine Gr.trans ?_ (by assumption)))))).mono ?_); rintro e wH ⟨rfl, hgwH⟩; obtain ⟨hclwH, hfzwH, hszwH⟩ := gcell hgwH; (try simp [Nat.add_one_le_iff] at hszwH); have hlwH_wD : wD.heap.size < wH.heap.size := (by omega); have hlwH_wF : wF.heap.size < wH.heap.size := (by omega)) | (go_at_call 20; (with_reducible refine (C9.out _ ((by repeat (first | exact Gr.refl _ | refine Gr.setCell ?_ _ _ (by first | exact Nat.le_refl _ | (simp; omega) | (simp; done)) | refine Gr.grown ?_ _ _ | refine Gr.drewN ?_ _ | refine Gr.drew ?_ | refine Gr.alloc ?_ _ | refine Gr.grow ?_ _ | (refine Gr.trans ?_ (by assumption)))))).mono ?_); rintro e wI ⟨rfl, hgwI⟩; obtain ⟨hclwI, hfzwI, hszwI⟩ := gcell hgwI; (try simp [Nat.add_one_le_iff] at hszwI); have hlwI_wD : wD.heap.size < wI.heap.size := (by omega); have hlwI_wF : wF.heap.size < wI.heap.size := (by omega)) | (go_at_call 21; (with_reducible refine (CA.out _ ((by repeat (first | exact Gr.refl _ | refine Gr.setCell ?_ _ _ (by first | exact Nat.le_refl _ | (simp; omega) | (simp; done)) | refine Gr.grown ?_ _ _ | refine Gr.drewN ?_ _ | refine Gr.drew ?_ | refine Gr.alloc ?_ _ | refine Gr.grow ?_ _ | (refine Gr.trans ?_ (by assumption)))))).mono ?_); rintro e wJ ⟨rfl, hgwJ⟩; obtain ⟨hclwJ, hfzwJ, hszwJ⟩ := gcell hgwJ; (try simp [Nat.add_one_le_iff] at hszwJ); have hlwJ_wD : wD.heap.size < wJ.heap.size := (by omega); have hlwJ_wF : wF.heap.size < wJ.heap.size := (by omega)) | (go_at_call 21; (with_reducible refine (CB.out _ ((by repeat (first | exact Gr.refl _ | refine Gr.setCell ?_ _ _ (by first | exact Nat.le_refl _ | (simp; omega) | (simp; done)) | refine Gr.grown ?_ _ _ | refine Gr.drewN ?_ _ | refine Gr.drew ?_ | refine Gr.alloc ?_ _ | refine Gr.grow ?_ _ | (refine Gr.trans ?_ (by assumption)))))).mono ?_); rintro e wK ⟨rfl, hgwK⟩; obtain ⟨hclwK, hfzwK, hszwK⟩ := gcell hgwK; (try simp [Nat.add_one_le_iff] at hszwK); have hlwK_wD : wD.heap.size < wK.heap.size := (by omega); have hlwK_wF : wF.heap.size < wK.heap.size := (by omega)))
  go_ret
  exact ⟨rfl, (by repeat (first | exact Gr.refl _ | refine Gr.setCell ?_ _ _ (by first | exact Nat.le_refl _ | (simp; omega) | (simp; done)) | refine Gr.grown ?_ _ _ | refine Gr.drewN ?_ _ | refine Gr.drew ?_ | refine Gr.alloc ?_ _ | refine Gr.grow ?_ _ | (refine Gr.trans ?_ (by assumption))))⟩

theorem wholeYears_t (y : Int) (w : World) (G : GT w) (p : PT w) (w0 : (Lit.int .u16 y).wf = true) : Calls Tryq.prog 5 #[.int .u16 y] w fun e w' => e = .returned (.bool true) ∧ Gr w w' := by
  have h0 := u16_of w0
  obtain ⟨n, hn⟩ : ∃ n, 1 + y % 9999 = n := ⟨_, rfl⟩
  have n0 : 1 ≤ n := by omega
  have n1 : n ≤ 9999 := by omega
  obtain ⟨i, hi, e1, e2, e3⟩ := ky_in n0 n1
  have rA := fy_range (y := n) (by omega) (by omega)
  have rL := kln_range n0 n1
  have rk := kk_leap n0 n1
  have hK : knum (kb n) (kk n) (lp n) = (i : Int) + 1 := by rw [e1, e2, e3]; exact tnum_at hi
  have hN : mN (kb n) (kk n) (lp n) = mct (lp n) := by unfold mN; rw [if_pos (by omega)]
  have hm := mct_le (lp n)
  have hB : kb n = 1 ∨ kb n = 2 ∨ kb n = 4 ∨ kb n = 6 := by
    rw [e1]
    have : i = 0 ∨ i = 1 ∨ i = 2 ∨ i = 3 ∨ i = 4 ∨ i = 5 ∨ i = 6 ∨ i = 7 ∨ i = 8 ∨ i = 9 ∨ i = 10 ∨ i = 11 ∨ i = 12 ∨ i = 13 := by omega
    rcases this with rfl | rfl | rfl | rfl | rfl | rfl | rfl | rfl | rfl | rfl | rfl | rfl | rfl | rfl <;> decide
  have hD : moD (bf n + 1 - 1) ≤ fy n ∧ fy n - moD (bf n + 1 - 1) ≤ 2 := by
    have := dly_range (moD (bf n)) (moP (bf n)) (lp n) (lp (n - 1))
    rw [show bf n + 1 - 1 = bf n from by omega]
    unfold fy
    omega
  have m1 : 1 ≤ ml n := by have := ml_range n; omega
  have C1 : ∀ W, Calls Tryq.prog 15 #[.int .i64 (1 + y % 9999)] W fun e w' => e = .returned (.tuple #[.int .i64 (fy n), .int .i64 0]) ∧ Gr W w' := fun W => by rw [hn]; exact first_in n W (by omega) (by omega)
  have C2 : ∀ W, Calls Tryq.prog 16 #[.int .i64 (1 + y % 9999)] W fun e w' => e = .returned (.tuple #[.int .i64 (fy n), .int .i64 0]) ∧ Gr W w' := fun W => by
    have h := cFirst_c n W
    rw [hn]
    rwa [show fyN n = fy n from fyN_in (by omega) (by omega), show yE n = 0 from yE_in (by omega) (by omega)] at h
  have C3 : ∀ W, Calls Tryq.prog 17 #[.int .i64 (1 + y % 9999)] W fun e w' => e = .returned (.tuple #[.int .i64 (kln n), .int .i64 0]) ∧ Gr W w' := fun W => by rw [hn]; exact klong_in n W n0 n1
  have C4 : ∀ W, Calls Tryq.prog 14 #[.int .i64 (1 + y % 9999)] W fun e w' => e = .returned (.tuple #[.agg #[.int .i64 (kb n), .int .i64 (kk n), .bool (lp n)], .int .i64 0]) ∧ Gr W w' := fun W => by rw [hn]; exact kof_in n W n0 n1
  have C5 : ∀ W, Calls Tryq.prog 18 #[.int .i64 (1 + y % 9999)] W fun e w' => e = .returned (.tuple #[.bool (lp n), .int .i64 0]) ∧ Gr W w' := fun W => by rw [hn]; exact leap_in n W (by omega) (by omega)
  have C6 : ∀ W, Calls Tryq.prog 10 #[.int .i64 (1 + y % 9999), .int .i64 1] W fun e w' => e = .returned (.tuple #[.agg #[.int .i64 (moD (bf n + 1 - 1)), .int .i64 (moP (bf n + 1 - 1))], .int .i64 0]) ∧ Gr W w' := fun W => by rw [hn]; exact of_in n 1 W (by omega) (by omega) (by omega) m1
  have C7 : ∀ W, Calls Tryq.prog 19 #[.int .i64 (fy n)] W fun e w' => e = .returned (.int .i64 (kb n)) ∧ Gr W w' := fun W => wd_c (fy n) W (by omega) (by omega)
  have C8 : ∀ W, Gr w W → Calls Tryq.prog 11 #[] W fun e w' => e = .returned (.bool true) ∧ Gr W w' := fun W hW => awake_c W (G.gr hW) (p.gr hW)
  have C9 : ∀ W, Gr w W → Calls Tryq.prog 20 #[.agg #[.int .i64 (kb n), .int .i64 (kk n), .bool (lp n)]] W fun e w' => e = .returned (.int .i64 ((i : Int) + 1)) ∧ Gr W w' := fun W hW => by
    have := knumber_c (kb n) (kk n) (lp n) W (G.gr hW).t; rwa [hK] at this
  have CA : ∀ W, Gr w W → Calls Tryq.prog 21 #[.agg #[.int .i64 (kb n), .int .i64 (kk n), .bool (lp n)], .int .i64 2] W fun e w' => e = .returned (.int .i64 (mlen (kk n) (lp n) 1)) ∧ Gr W w' := fun W hW => mdays_in (kb n) (kk n) (lp n) 1 W (G.gr hW) (by omega)
  have CB : ∀ W, Gr w W → Calls Tryq.prog 21 #[.agg #[.int .i64 (kb n), .int .i64 (kk n), .bool (lp n)], .int .i64 3] W fun e w' => e = .returned (.int .i64 (mlen (kk n) (lp n) 2)) ∧ Gr W w' := fun W hW => mdays_in (kb n) (kk n) (lp n) 2 W (G.gr hW) (by omega)
  clear hn hK hN e1 e2 e3 G p
  obtain ⟨k1, k2, k3⟩ := rk
  have nb : ∀ {x : Int}, ¬ kb n = x → (kb n == x) = false ∧ (kb n != x) = true := fun h => ⟨by simpa using h, by simpa using h⟩
  have z0 : ¬ kb n = 0 := by omega
  have z3 : ¬ kb n = 3 := by omega
  have z5 : ¬ kb n = 5 := by omega
  have hk : kk n = 0 ∨ kk n = 1 ∨ kk n = 2 := by omega
  generalize hl : lp n = l at *
  generalize kb n = B at *
  generalize kk n = K at *
  generalize kln n = L at *
  cases l
  · simp only [Bool.false_eq_true, if_false, Int.add_zero] at k1
    refine years_core_f y (fy n) L B K _ _ _ _ _ w h0.1 h0.2 rA.1 rA.2 (by omega) (by omega) (by omega) (by omega) hD.1 hD.2 (fun W => topyear_c y W h0.1 h0.2) C1 C2 C3 C4 C5 C6 C7 C8 C9 CA CB (nb z0).1 (nb z3).1 (nb z5).1 z0 z3 z5 (nb z0).2 (nb z3).2 (nb z5).2 (by rw [beq_iff_eq]; omega) ?_ ?_
    · obtain rfl : L = K + 353 := by omega
      rcases hk with rfl | rfl | rfl <;> decide
    · obtain rfl : L = K + 353 := by omega
      rcases hk with rfl | rfl | rfl <;> decide
  · simp only [if_true] at k1
    refine years_core_t y (fy n) L B K _ _ _ _ _ w h0.1 h0.2 rA.1 rA.2 (by omega) (by omega) (by omega) (by omega) hD.1 hD.2 (fun W => topyear_c y W h0.1 h0.2) C1 C2 C3 C4 C5 C6 C7 C8 C9 CA CB (nb z0).1 (nb z3).1 (nb z5).1 z0 z3 z5 (nb z0).2 (nb z3).2 (nb z5).2 (by rw [beq_iff_eq]; omega) ?_ ?_
    · obtain rfl : L = K + 383 := by omega
      rcases hk with rfl | rfl | rfl <;> decide
    · obtain rfl : L = K + 383 := by omega
      rcases hk with rfl | rfl | rfl <;> decide
end Go.Proofs.YtegkbjpcgelomaaGreatDoor.Walks
end
/- The walk of count.Ahead: the date ahead. -/
section
namespace Go.Proofs.YtegkbjpcgelomaaGreatDoor.Walks
open Go Go.RowKit Go.Sort Go.Proofs.YtegkbjpcgelomaaGreatDoor.Base Go.Proofs.YtegkbjpcgelomaaGreatDoor.Plain Go.Proofs.YtegkbjpcgelomaaGreatDoor.Math

theorem D4.year {w : World} {b : Nat} {y n d : Int} {c : Bool} (h : D4 w b y n c d) (y' : Int) : D4 (w.setCell ⟨b, 0, none⟩ (.int .i64 y')) b y' n c d := by
  refine ⟨by rw [set_size]; exact h.lt, ?_, ?_, ?_, ?_, set_frozen h.f0, set_frozen h.f1, set_frozen h.f2, set_frozen h.f3⟩
  · rw [set_cell h.c0]; simp
  · rw [set_cell h.c1]; simp
  · rw [set_cell h.c2]; simp
  · rw [set_cell h.c3]; simp

end Go.Proofs.YtegkbjpcgelomaaGreatDoor.Walks
end
/- The date behind and the date ahead, of every date: the contracts of count.Next and count.Ahead. -/
section
namespace Go.Proofs.YtegkbjpcgelomaaGreatDoor.Walks
open Go Go.RowKit Go.Sort Go.Proofs.YtegkbjpcgelomaaGreatDoor.Base Go.Proofs.YtegkbjpcgelomaaGreatDoor.Plain Go.Proofs.YtegkbjpcgelomaaGreatDoor.Math

theorem cfirst_zero (l : Bool) : cN l 0 = 1 ∧ cL l 0 = false := by cases l <;> decide
theorem fy_top : fy 10000 = 2278651 := by decide +kernel

theorem cnext_c (y : Int) (j : Nat) (d : Int) (h : HV y j d) : (∃ (Y : Int) (J : Nat) (D : Int), HV Y J D ∧ hd Y J D = hd y j d + 1 ∧ ∀ w, GT w → Calls Tryq.prog 26 #[.agg #[.int .i64 y, .int .i64 (cN (lp y) j), .bool (cL (lp y) j), .int .i64 d]] w fun e w' => e = .returned (.tuple #[.agg #[.int .i64 Y, .int .i64 (cN (lp Y) J), .bool (cL (lp Y) J), .int .i64 D], .int .i64 0]) ∧ Gr w w') ∨
    ((∀ Y J D, HV Y J D → hd Y J D ≠ hd y j d + 1) ∧ ∀ w, GT w → Calls Tryq.prog 26 #[.agg #[.int .i64 y, .int .i64 (cN (lp y) j), .bool (cL (lp y) j), .int .i64 d]] w fun e w' => e = .returned (.tuple #[.agg #[.int .i64 0, .int .i64 0, .bool false, .int .i64 0], .int .i64 2]) ∧ Gr w w') := by
  have j1 := h.j1
  have hm := mct_le (lp y)
  have l := mlen_range (kk y) (lp y) j
  have nY := mN_year h.y0 h.y1
  have dd := h.d1
  have y1 := h.y1
  have core := fun (R1 R2 R4 RE : Int) (R3 : Bool) (w : World) (G : GT w) => cnext_core y (cN (lp y) j) d (kb y) (kk y) (mlen (kk y) (lp y) j) ((j : Int) + 1) (mct (lp y) : Int) (cL (lp y) j) (lp y) R1 R2 R4 RE R3 w h.y0 h.y1 h.d0 (by omega) (by omega) (by omega)
    (fun W hW => hcheck_in y j d W (G.gr hW) h) (fun w => ctplace_in y j d w h.y0 h.y1 h.j1) (fun W hW => mdays_in (kb y) (kk y) (lp y) j W (G.gr hW) (by omega)) (fun W hW => by have := mcount_c (kb y) (kk y) (lp y) W (G.gr hW); rwa [nY] at this)
  by_cases a : d < mlen (kk y) (lp y) j
  · obtain ⟨h2, e2⟩ := hd_next_day h a
    exact .inl ⟨y, j, d + 1, h2, e2, fun w G => core _ _ _ _ _ w G (.inl ⟨a, rfl, rfl, rfl, rfl, rfl⟩)⟩
  · by_cases b : j + 1 < mct (lp y)
    · obtain ⟨h2, e2⟩ := hd_next_month h (by omega) b
      exact .inl ⟨y, j + 1, 1, h2, e2, fun w G => core _ _ _ _ _ w G (.inr (.inl ⟨by omega, by omega, rfl, fun w => by have := ctfirst_in y (kb y) (kk y) (lp y) (j + 1) w b; push_cast at this; exact this⟩))⟩
    · have e2 := hd_next_year h (by omega) (by omega)
      by_cases g : y < 9999
      · obtain ⟨h3, e3⟩ := HV_first (y := y + 1) (by have := h.y0; omega) (by omega)
        refine .inl ⟨y + 1, 0, 1, h3, by omega, fun w G => core _ _ _ _ _ w G (.inr (.inr (.inl ⟨by omega, by omega, g, rfl, fun w => ?_⟩)))⟩
        have := ctfirst_in (y + 1) (kb y) (kk y) (lp y) 0 w (by omega)
        rw [(cfirst_zero (lp y)).1, (cfirst_zero (lp y)).2] at this
        rw [(cfirst_zero (lp (y + 1))).1, (cfirst_zero (lp (y + 1))).2]
        exact this
      · refine .inr ⟨fun Y J D hv => ?_, fun w G => core _ _ _ _ _ w G (.inr (.inr (.inr ⟨by omega, by omega, by omega, rfl, rfl, rfl, rfl, rfl⟩)))⟩
        have := hd_range hv
        have e : y = 9999 := by omega
        subst e
        have t := fy_top
        have e2' : hd 9999 j d + 1 = fy 10000 := e2
        omega

end Go.Proofs.YtegkbjpcgelomaaGreatDoor.Walks
end
/- Walks of greg.ToDay: a date's day. -/
section
namespace Go.Proofs.YtegkbjpcgelomaaGreatDoor.Walks
open Go Go.RowKit Go.Sort Go.Proofs.YtegkbjpcgelomaaGreatDoor.Base Go.Proofs.YtegkbjpcgelomaaGreatDoor.Plain Go.Proofs.YtegkbjpcgelomaaGreatDoor.Math

/-- Why a date has no day, and its day. -/
def tE (y m d : Int) : Int := if y < -4000 ∨ 7000 < y then 2 else if m < 1 ∨ 12 < m then 3 else if d < 1 ∨ gmd (gl y) m < d then 4 else if inD (gd y m.toNat d) = true then 0 else 2
def tN (y m d : Int) : Int := if tE y m d = 0 then gd y m.toNat d else 0

theorem tE_y {y m d : Int} (h : y < -4000 ∨ 7000 < y) : tE y m d = 2 := by unfold tE; rw [if_pos h]
theorem tE_m {y m d : Int} (h : ¬ (y < -4000 ∨ 7000 < y)) (g : m < 1 ∨ 12 < m) : tE y m d = 3 := by unfold tE; rw [if_neg h, if_pos g]
theorem tE_d {y m d : Int} (h : ¬ (y < -4000 ∨ 7000 < y)) (g : ¬ (m < 1 ∨ 12 < m)) (k : d < 1 ∨ gmd (gl y) m < d) : tE y m d = 4 := by unfold tE; rw [if_neg h, if_neg g, if_pos k]
theorem tE_n {y m d : Int} (h : ¬ (y < -4000 ∨ 7000 < y)) (g : ¬ (m < 1 ∨ 12 < m)) (k : ¬ (d < 1 ∨ gmd (gl y) m < d)) : tE y m d = if inD (gd y m.toNat d) = true then 0 else 2 := by unfold tE; rw [if_neg h, if_neg g, if_neg k]
theorem tN_no {y m d : Int} (h : tE y m d ≠ 0) : tN y m d = 0 := by unfold tN; rw [if_neg h]

set_option maxHeartbeats 4000000 in
theorem gto_ok (y d : Int) (M : Nat) (b : Bool) (G B : Int) (w : World) (h0 : -4000 ≤ y) (h1 : y ≤ 7000) (m0 : 1 ≤ M) (m1 : M ≤ 12) (d0 : 1 ≤ d) (d1 : d ≤ gmd (gl y) (M : Int)) (hB : gb y = B) (hG : gd y M d = G) (hb : inD G = b) :
    Calls Tryq.prog 25 #[.agg #[.int .i64 y, .int .i64 (M : Int), .int .i64 d]] w fun e w' => e = .returned (.tuple #[.int .i64 (if b = true then G else 0), .int .i64 (if b = true then 0 else 2)]) ∧ Gr w w' := by
  have dr := gmd_12 (gl y) (M : Int) (by omega) (by omega)
  have B0 : -3000000 ≤ B ∧ B ≤ 3000000 := by unfold gb at hB; omega
  obtain ⟨B0, B1⟩ := B0
  have CB : RowKit.Hid (∀ w, Calls Tryq.prog 53 #[.int .i64 y] w fun e w' => e = .returned (.int .i64 B) ∧ Gr w w') := Lib.hid fun w => by
    have := gbegins_c y w (by omega) (by omega); rwa [hB] at this
  have HG : RowKit.Hid (B + d + gc (gl y) M = G) := Lib.hid (by rw [← hG]; unfold gd; omega)
  have HGC : RowKit.Hid (∀ k : Nat, k ≤ M → 0 ≤ gc (gl y) k ∧ gc (gl y) k ≤ 366) := Lib.hid fun k hk => gc_le _ k (by omega)
  have CI : RowKit.Hid (∀ w, Calls Tryq.prog 51 #[.int .i64 G] w fun e w' => e = .returned (.bool b) ∧ Gr w w') := Lib.hid fun w => by
    have := gin_c G w; rwa [hb] at this
  obtain ⟨T, hT⟩ : ∃ T, gmd (gl y) (M : Int) = T := ⟨_, rfl⟩
  have CD : RowKit.Hid (∀ w, Calls Tryq.prog 54 #[.int .i64 y, .int .i64 (M : Int)] w fun e w' => e = .returned (.int .i64 T) ∧ w' = w) := Lib.hid fun w => by
    have := gdays_s y (M : Int) w; rwa [hT] at this
  rw [hT] at d1 dr
  have dr0 := dr.1
  have dr1 := dr.2
  have tz : (T == 0) = false := beq_eq_false_iff_ne.2 (by omega)
  clear hB hG hb hT dr
  go_enter Tryq.func25, Tryq.ntmps25
  go_wp2_with (go_at_call 54; (with_reducible refine (CD.out _).mono ?_); rintro e w1 ⟨rfl, rfl⟩)
  go_quiet ((go_at_call 54; exact Calls.quiet_of_same (CD.out _)))
  go_wp2
  have c0 : ((w.alloc (.cells #[.int .i64 y, .int .i64 (M : Int), .int .i64 d] 52)).drewN nq).cell? ⟨w.heap.size, 0, none⟩ = some (.int .i64 y) := by simp [go_sem]
  have c1 : ((w.alloc (.cells #[.int .i64 y, .int .i64 (M : Int), .int .i64 d] 52)).drewN nq).cell? ⟨w.heap.size, 1, none⟩ = some (.int .i64 (M : Int)) := by simp [go_sem]
  have c2 : ((w.alloc (.cells #[.int .i64 y, .int .i64 (M : Int), .int .i64 d] 52)).drewN nq).cell? ⟨w.heap.size, 2, none⟩ = some (.int .i64 d) := by simp [go_sem]
  have hg : Gr w ((w.alloc (.cells #[.int .i64 y, .int .i64 (M : Int), .int .i64 d] 52)).drewN nq) := (by repeat (first | exact Gr.refl _ | refine Gr.setCell ?_ _ _ (by first | exact Nat.le_refl _ | (simp; omega) | (simp; done)) | refine Gr.grown ?_ _ _ | refine Gr.drewN ?_ _ | refine Gr.drew ?_ | refine Gr.alloc ?_ _ | refine Gr.grow ?_ _ | (refine Gr.trans ?_ (by assumption))))
  have hlt : w.heap.size < ((w.alloc (.cells #[.int .i64 y, .int .i64 (M : Int), .int .i64 d] 52)).drewN nq).heap.size := ((Gr.refl _).drewN nq).lt (by simp)
  generalize (w.alloc (.cells #[.int .i64 y, .int .i64 (M : Int), .int .i64 d] 52)).drewN nq = W0 at *
  have k0 := gcell_in hlt c0
  have k1 := gcell_in hlt c1
  have k2 := gcell_in hlt c2
  (refine wp_region_quiet_grown mixed (by kernel_rfl) ?_; (repeat (first | go_big_quiet_step ((first | (go_at_call 53; exact gr_of (CB.out _)))) | quiet_step ((first | (go_at_call 53; exact gr_of (CB.out _)))))); refine wpQuiet_nil ?_; intro _ hw'; obtain ⟨⟨nq, osq⟩, hw''⟩ := hw'; subst hw'')
  replace c0 := k0 nq osq
  replace c1 := k1 nq osq
  replace hlt : w.heap.size < (grow (W0.drewN nq) osq).heap.size := ((Gr.refl W0).grown nq osq).lt hlt
  replace hg := hg.grown nq osq
  clear k0 k1 k2 c2
  generalize grow (W0.drewN nq) osq = W1 at *
  go_wp2
  go_loopg [4, 44] M (fun kx s4 s44 wr => ∃ k : Nat, k ≤ M ∧ M - k ≤ kx ∧ s4 = .int .i64 (B + d + gc (gl y) k) ∧ s44 = .int .i64 (k : Int) ∧ wr.cell? ⟨w.heap.size, 0, none⟩ = some (.int .i64 y) ∧ Gr w wr)
  case atStart => exact ⟨0, by omega, by omega, by simp [gc], rfl, c0, hg⟩
  case round =>
    obtain ⟨k, hk, hm, rfl, rfl, c0, hg⟩ := hrel
    clear c1
    have hgc := HGC.out k hk
    have hgc0 := hgc.1
    have hgc1 := hgc.2
    clear hgc
    by_cases e : k < M
    · have dk := gmd_range (gl y) (k : Int)
      have dk0 := dk.1
      have dk1 := dk.2
      clear dk
      go_wp2_with (go_at_call 54; (with_reducible refine (gdays_s y (k : Int) _).mono ?_); rintro e w1 ⟨rfl, rfl⟩)
      go_roundg (M - (k + 1))
      case measure => omega
      case rel => exact ⟨k + 1, by omega, Nat.le_refl _, by show _ = Value.int .i64 (B + d + (gc (gl y) k + gmd (gl y) (k : Int))); congr 1; omega, by go_num, c0, hg⟩
    · obtain rfl : k = M := by omega
      cases b
      · go_wp2_with ((rw [HG.out]); (go_at_call 51; (with_reducible refine (CI.out _).mono ?_); rintro e w1 ⟨rfl, hg⟩))
        go_ret2
        exact ⟨rfl, (by repeat (first | exact Gr.refl _ | refine Gr.setCell ?_ _ _ (by first | exact Nat.le_refl _ | (simp; omega) | (simp; done)) | refine Gr.grown ?_ _ _ | refine Gr.drewN ?_ _ | refine Gr.drew ?_ | refine Gr.alloc ?_ _ | refine Gr.grow ?_ _ | (refine Gr.trans ?_ (by assumption))))⟩
      · go_wp2_with ((rw [HG.out]); (go_at_call 51; (with_reducible refine (CI.out _).mono ?_); rintro e w1 ⟨rfl, hg⟩))
        go_ret2
        exact ⟨rfl, (by repeat (first | exact Gr.refl _ | refine Gr.setCell ?_ _ _ (by first | exact Nat.le_refl _ | (simp; omega) | (simp; done)) | refine Gr.grown ?_ _ _ | refine Gr.drewN ?_ _ | refine Gr.drew ?_ | refine Gr.alloc ?_ _ | refine Gr.grow ?_ _ | (refine Gr.trans ?_ (by assumption))))⟩

theorem gto_y (y m d : Int) (w : World) (h : y < -4000 ∨ 7000 < y) :
    Calls Tryq.prog 25 #[.agg #[.int .i64 y, .int .i64 m, .int .i64 d]] w fun e w' => e = .returned (.tuple #[.int .i64 0, .int .i64 2]) ∧ Gr w w' := by
  by_cases g : y < -4000
  · clear h
    go_enter Tryq.func25, Tryq.ntmps25
    go_wp2
    go_ret2
    exact ⟨rfl, (by repeat (first | exact Gr.refl _ | refine Gr.setCell ?_ _ _ (by first | exact Nat.le_refl _ | (simp; omega) | (simp; done)) | refine Gr.grown ?_ _ _ | refine Gr.drewN ?_ _ | refine Gr.drew ?_ | refine Gr.alloc ?_ _ | refine Gr.grow ?_ _ | (refine Gr.trans ?_ (by assumption))))⟩
  · have g2 : 7000 < y := by omega
    clear h
    go_enter Tryq.func25, Tryq.ntmps25
    go_wp2
    go_ret2
    exact ⟨rfl, (by repeat (first | exact Gr.refl _ | refine Gr.setCell ?_ _ _ (by first | exact Nat.le_refl _ | (simp; omega) | (simp; done)) | refine Gr.grown ?_ _ _ | refine Gr.drewN ?_ _ | refine Gr.drew ?_ | refine Gr.alloc ?_ _ | refine Gr.grow ?_ _ | (refine Gr.trans ?_ (by assumption))))⟩
theorem gto_m (y m d : Int) (w : World) (h0 : -4000 ≤ y) (h1 : y ≤ 7000) (h : m < 1 ∨ 12 < m) :
    Calls Tryq.prog 25 #[.agg #[.int .i64 y, .int .i64 m, .int .i64 d]] w fun e w' => e = .returned (.tuple #[.int .i64 0, .int .i64 3]) ∧ Gr w w' := by
  have CD : RowKit.Hid (∀ w, Calls Tryq.prog 54 #[.int .i64 y, .int .i64 m] w fun e w' => e = .returned (.int .i64 0) ∧ w' = w) := Lib.hid fun w => by
    have := gdays_s y m w; rwa [gmd_no _ m h] at this
  clear h
  go_enter Tryq.func25, Tryq.ntmps25
  go_wp2_with (go_at_call 54; (with_reducible refine (CD.out _).mono ?_); rintro e w1 ⟨rfl, rfl⟩)
  go_ret2
  exact ⟨rfl, (by repeat (first | exact Gr.refl _ | refine Gr.setCell ?_ _ _ (by first | exact Nat.le_refl _ | (simp; omega) | (simp; done)) | refine Gr.grown ?_ _ _ | refine Gr.drewN ?_ _ | refine Gr.drew ?_ | refine Gr.alloc ?_ _ | refine Gr.grow ?_ _ | (refine Gr.trans ?_ (by assumption))))⟩
theorem gto_d (y m d : Int) (w : World) (h0 : -4000 ≤ y) (h1 : y ≤ 7000) (m0 : 1 ≤ m) (m1 : m ≤ 12) (h : d < 1 ∨ gmd (gl y) m < d) :
    Calls Tryq.prog 25 #[.agg #[.int .i64 y, .int .i64 m, .int .i64 d]] w fun e w' => e = .returned (.tuple #[.int .i64 0, .int .i64 4]) ∧ Gr w w' := by
  have dr := gmd_12 (gl y) m (by omega) (by omega)
  obtain ⟨T, hT⟩ : ∃ T, gmd (gl y) m = T := ⟨_, rfl⟩
  have CD : RowKit.Hid (∀ w, Calls Tryq.prog 54 #[.int .i64 y, .int .i64 m] w fun e w' => e = .returned (.int .i64 T) ∧ w' = w) := Lib.hid fun w => by
    have := gdays_s y m w; rwa [hT] at this
  rw [hT] at h dr
  have dr0 := dr.1
  have dr1 := dr.2
  have tz : (T == 0) = false := beq_eq_false_iff_ne.2 (by omega)
  clear hT dr
  by_cases g : d < 1
  · clear h
    go_enter Tryq.func25, Tryq.ntmps25
    go_wp2_with (go_at_call 54; (with_reducible refine (CD.out _).mono ?_); rintro e w1 ⟨rfl, rfl⟩)
    go_quiet ((go_at_call 54; exact Calls.quiet_of_same (CD.out _)))
    go_wp2
    go_ret2
    exact ⟨rfl, (by repeat (first | exact Gr.refl _ | refine Gr.setCell ?_ _ _ (by first | exact Nat.le_refl _ | (simp; omega) | (simp; done)) | refine Gr.grown ?_ _ _ | refine Gr.drewN ?_ _ | refine Gr.drew ?_ | refine Gr.alloc ?_ _ | refine Gr.grow ?_ _ | (refine Gr.trans ?_ (by assumption))))⟩
  · have g2 : T < d := by omega
    clear h
    go_enter Tryq.func25, Tryq.ntmps25
    go_wp2_with (go_at_call 54; (with_reducible refine (CD.out _).mono ?_); rintro e w1 ⟨rfl, rfl⟩)
    go_quiet ((go_at_call 54; exact Calls.quiet_of_same (CD.out _)))
    go_wp2
    go_ret2
    exact ⟨rfl, (by repeat (first | exact Gr.refl _ | refine Gr.setCell ?_ _ _ (by first | exact Nat.le_refl _ | (simp; omega) | (simp; done)) | refine Gr.grown ?_ _ _ | refine Gr.drewN ?_ _ | refine Gr.drew ?_ | refine Gr.alloc ?_ _ | refine Gr.grow ?_ _ | (refine Gr.trans ?_ (by assumption))))⟩
theorem gto_c (y m d : Int) (w : World) :
    Calls Tryq.prog 25 #[.agg #[.int .i64 y, .int .i64 m, .int .i64 d]] w fun e w' => e = .returned (.tuple #[.int .i64 (tN y m d), .int .i64 (tE y m d)]) ∧ Gr w w' := by
  by_cases h : y < -4000 ∨ 7000 < y
  · rw [tN_no (by rw [tE_y h]; decide), tE_y h]; exact gto_y y m d w h
  · by_cases g : m < 1 ∨ 12 < m
    · rw [tN_no (by rw [tE_m h g]; decide), tE_m h g]; exact gto_m y m d w (by omega) (by omega) g
    · by_cases k : d < 1 ∨ gmd (gl y) m < d
      · rw [tN_no (by rw [tE_d h g k]; decide), tE_d h g k]; exact gto_d y m d w (by omega) (by omega) (by omega) (by omega) k
      · have e : m = ((m.toNat : Nat) : Int) := by omega
        have k2 : ¬ (d < 1 ∨ gmd (gl y) ((m.toNat : Nat) : Int) < d) := by rw [← e]; exact k
        have c := gto_ok y d m.toNat _ _ _ w (by omega) (by omega) (by omega) (by omega) (by omega) (by omega) rfl rfl rfl
        rw [← e] at c
        have t := tE_n h g k
        have n : tN y m d = if inD (gd y m.toNat d) = true then gd y m.toNat d else 0 := by
          unfold tN
          rw [t]
          cases inD (gd y m.toNat d) <;> rfl
        rw [n, t]
        exact c

end Go.Proofs.YtegkbjpcgelomaaGreatDoor.Walks
end
/- WholeDays, walked. -/
section
namespace Go.Proofs.YtegkbjpcgelomaaGreatDoor.Walks
open Go Go.RowKit Go.Sort Go.Proofs.YtegkbjpcgelomaaGreatDoor.Base Go.Proofs.YtegkbjpcgelomaaGreatDoor.Plain Go.Proofs.YtegkbjpcgelomaaGreatDoor.Math

theorem day_to {n Y : Int} {M : Nat} {D : Int} (n0 : -1373427 ≤ n) (n1 : n ≤ 2278650) (hY : gyr n = Y) (hok : gok Y M D) (hd : gd Y M D = n) (w : World) :
    Calls Tryq.prog 25 #[.agg #[.int .i64 Y, .int .i64 (M : Int), .int .i64 D]] w fun e w' => e = .returned (.tuple #[.int .i64 n, .int .i64 0]) ∧ Gr w w' := by
  have yr := gyr_is n
  have y0 : -4000 ≤ Y ∧ Y ≤ 7000 := by rw [hY] at yr; unfold gb at yr; omega
  obtain ⟨m0, m1, d0, d1⟩ := hok
  have hi : inD n = true := decide_eq_true ⟨n0, n1⟩
  have e : tE Y (M : Int) D = 0 := by
    rw [tE_n (by omega) (by omega) (by omega), show ((M : Int)).toNat = M from by omega, hd, if_pos hi]
  have g : tN Y (M : Int) D = n := by unfold tN; rw [if_pos e, show ((M : Int)).toNat = M from by omega, hd]
  have := gto_c Y (M : Int) D w
  rwa [e, g] at this
/-- A date of the other calendar in a box. -/
structure G3 (w : World) (b : Nat) (y m d : Int) : Prop where
  lt : b < w.heap.size
  c0 : w.cell? ⟨b, 0, none⟩ = some (.int .i64 y)
  c1 : w.cell? ⟨b, 1, none⟩ = some (.int .i64 m)
  c2 : w.cell? ⟨b, 2, none⟩ = some (.int .i64 d)
theorem G3.gr {w w' : World} {b : Nat} {y m d : Int} (h : G3 w b y m d) (g : Gr w w') : G3 w' b y m d := ⟨g.lt h.lt, g.keep h.lt h.c0, g.keep h.lt h.c1, g.keep h.lt h.c2⟩
theorem G3.at (w : World) (y m d : Int) : G3 (w.alloc (.cells #[.int .i64 y, .int .i64 m, .int .i64 d] 52)) w.heap.size y m d := ⟨by simp, by simp [go_sem], by simp [go_sem], by simp [go_sem]⟩

set_option maxRecDepth 20000 in
set_option maxHeartbeats 4000000 in
theorem days_core (n y N d Y M D y2 N2 d2 E : Int) (C C2 : Bool) (w : World) (n0 : -1373427 ≤ n) (n1 : n ≤ 2278650)
    (c1 : ∀ W, Gr w W → Calls Tryq.prog 22 #[.int .i64 n] W fun e w' => e = .returned (.tuple #[.agg #[.int .i64 y, .int .i64 N, .bool C, .int .i64 d], .int .i64 0]) ∧ Gr W w')
    (c2 : ∀ W, Gr w W → Calls Tryq.prog 23 #[.int .i64 n] W fun e w' => e = .returned (.tuple #[.agg #[.int .i64 Y, .int .i64 M, .int .i64 D], .int .i64 0]) ∧ Gr W w')
    (c3 : ∀ W, Gr w W → Calls Tryq.prog 24 #[.agg #[.int .i64 y, .int .i64 N, .bool C, .int .i64 d]] W fun e w' => e = .returned (.tuple #[.int .i64 n, .int .i64 0]) ∧ Gr W w')
    (c4 : ∀ W, Gr w W → Calls Tryq.prog 25 #[.agg #[.int .i64 Y, .int .i64 M, .int .i64 D]] W fun e w' => e = .returned (.tuple #[.int .i64 n, .int .i64 0]) ∧ Gr W w')
    (c5 : ∀ W, Gr w W → Calls Tryq.prog 22 #[.int .i64 (n + 1)] W fun e w' => e = .returned (.tuple #[.agg #[.int .i64 y2, .int .i64 N2, .bool C2, .int .i64 d2], .int .i64 E]) ∧ Gr W w')
    (c6 : ∀ W, Gr w W → Calls Tryq.prog 26 #[.agg #[.int .i64 y, .int .i64 N, .bool C, .int .i64 d]] W fun e w' => e = .returned (.tuple #[.agg #[.int .i64 y2, .int .i64 N2, .bool C2, .int .i64 d2], .int .i64 E]) ∧ Gr W w')
    (c7 : ∀ W, Gr w W → Calls Tryq.prog 11 #[] W fun e w' => e = .returned (.bool true) ∧ Gr W w')
    (c8 : ∀ W, Gr w W → Calls Tryq.prog 27 #[.agg #[.int .i64 y, .int .i64 N, .bool C, .int .i64 d]] W fun e w' => e = .returned (.int .i64 0) ∧ Gr W w') :
    Calls Tryq.prog 6 #[.int .i64 n] w fun e w' => e = .returned (.bool true) ∧ Gr w w' := by
  have C1 := Lib.hid c1
  have C2' := Lib.hid c2
  have C3 := Lib.hid c3
  have C4 := Lib.hid c4
  have C5 := Lib.hid c5
  have C6 := Lib.hid c6
  have C7 := Lib.hid c7
  have C8 := Lib.hid c8
  clear c1 c2 c3 c4 c5 c6 c7 c8
  go_enter Tryq.func6, Tryq.ntmps6
  go_wp2_with (first
    | ((go_at_call 22; (with_reducible refine (C1.out _ ((by repeat (first | exact Gr.refl _ | refine Gr.setCell ?_ _ _ (by first | exact Nat.le_refl _ | (simp; omega) | (simp; done)) | refine Gr.grown ?_ _ _ | refine Gr.drewN ?_ _ | refine Gr.drew ?_ | refine Gr.alloc ?_ _ | refine Gr.grow ?_ _ | (refine Gr.trans ?_ (by assumption)))))).mono ?_); rintro e wA ⟨rfl, hgwA⟩); have A1 : Gr w wA := (by repeat (first | exact Gr.refl _ | refine Gr.setCell ?_ _ _ (by first | exact Nat.le_refl _ | (simp; omega) | (simp; done)) | refine Gr.grown ?_ _ _ | refine Gr.drewN ?_ _ | refine Gr.drew ?_ | refine Gr.alloc ?_ _ | refine Gr.grow ?_ _ | (refine Gr.trans ?_ (by assumption)))); have DA := D4.at (w := wA) rfl y N d C; clear hgwA)
    | ((go_at_call 23; (with_reducible refine (C2'.out _ ((by repeat (first | exact Gr.refl _ | refine Gr.setCell ?_ _ _ (by first | exact Nat.le_refl _ | (simp; omega) | (simp; done)) | refine Gr.grown ?_ _ _ | refine Gr.drewN ?_ _ | refine Gr.drew ?_ | refine Gr.alloc ?_ _ | refine Gr.grow ?_ _ | (refine Gr.trans ?_ (by assumption)))))).mono ?_); rintro e wB ⟨rfl, hgwB⟩); have A2 : Gr w wB := (by repeat (first | exact Gr.refl _ | refine Gr.setCell ?_ _ _ (by first | exact Nat.le_refl _ | (simp; omega) | (simp; done)) | refine Gr.grown ?_ _ _ | refine Gr.drewN ?_ _ | refine Gr.drew ?_ | refine Gr.alloc ?_ _ | refine Gr.grow ?_ _ | (refine Gr.trans ?_ (by assumption)))); have DB := DA.gr hgwB; have EB := G3.at wB Y M D; clear hgwB DA A1; have DB' := DB; obtain ⟨lt, k0, k1, k2, k3, f0, f1, f2, f3⟩ := DB')
    | ((go_at_call 24; (with_reducible refine (C3.out _ ((by repeat (first | exact Gr.refl _ | refine Gr.setCell ?_ _ _ (by first | exact Nat.le_refl _ | (simp; omega) | (simp; done)) | refine Gr.grown ?_ _ _ | refine Gr.drewN ?_ _ | refine Gr.drew ?_ | refine Gr.alloc ?_ _ | refine Gr.grow ?_ _ | (refine Gr.trans ?_ (by assumption)))))).mono ?_); rintro e wC ⟨rfl, hgwC⟩); have A3 : Gr w wC := (by repeat (first | exact Gr.refl _ | refine Gr.setCell ?_ _ _ (by first | exact Nat.le_refl _ | (simp; omega) | (simp; done)) | refine Gr.grown ?_ _ _ | refine Gr.drewN ?_ _ | refine Gr.drew ?_ | refine Gr.alloc ?_ _ | refine Gr.grow ?_ _ | (refine Gr.trans ?_ (by assumption)))); have DC := (DB.gr ((Gr.refl _).alloc _)).gr hgwC; have EC := EB.gr hgwC; clear hgwC DB EB A2 lt k0 k1 k2 k3 f0 f1 f2 f3; have EC' := EC; obtain ⟨lt, k0, k1, k2⟩ := EC')
    | ((go_at_call 25; (with_reducible refine (C4.out _ ((by repeat (first | exact Gr.refl _ | refine Gr.setCell ?_ _ _ (by first | exact Nat.le_refl _ | (simp; omega) | (simp; done)) | refine Gr.grown ?_ _ _ | refine Gr.drewN ?_ _ | refine Gr.drew ?_ | refine Gr.alloc ?_ _ | refine Gr.grow ?_ _ | (refine Gr.trans ?_ (by assumption)))))).mono ?_); rintro e wD ⟨rfl, hgwD⟩); have A4 : Gr w wD := (by repeat (first | exact Gr.refl _ | refine Gr.setCell ?_ _ _ (by first | exact Nat.le_refl _ | (simp; omega) | (simp; done)) | refine Gr.grown ?_ _ _ | refine Gr.drewN ?_ _ | refine Gr.drew ?_ | refine Gr.alloc ?_ _ | refine Gr.grow ?_ _ | (refine Gr.trans ?_ (by assumption)))); have DD := DC.gr hgwD; clear hgwD DC EC A3 lt k0 k1 k2)
    | ((go_at_call 22; (with_reducible refine (C5.out _ ((by repeat (first | exact Gr.refl _ | refine Gr.setCell ?_ _ _ (by first | exact Nat.le_refl _ | (simp; omega) | (simp; done)) | refine Gr.grown ?_ _ _ | refine Gr.drewN ?_ _ | refine Gr.drew ?_ | refine Gr.alloc ?_ _ | refine Gr.grow ?_ _ | (refine Gr.trans ?_ (by assumption)))))).mono ?_); rintro e wE ⟨rfl, hgwE⟩); have A5 : Gr w wE := (by repeat (first | exact Gr.refl _ | refine Gr.setCell ?_ _ _ (by first | exact Nat.le_refl _ | (simp; omega) | (simp; done)) | refine Gr.grown ?_ _ _ | refine Gr.drewN ?_ _ | refine Gr.drew ?_ | refine Gr.alloc ?_ _ | refine Gr.grow ?_ _ | (refine Gr.trans ?_ (by assumption)))); have DE := DD.gr hgwE; have XE := D4.at (w := wE) rfl y2 N2 d2 C2; clear hgwE DD A4; have DE' := DE; obtain ⟨lt, k0, k1, k2, k3, f0, f1, f2, f3⟩ := DE')
    | ((go_at_call 26; (with_reducible refine (C6.out _ ((by repeat (first | exact Gr.refl _ | refine Gr.setCell ?_ _ _ (by first | exact Nat.le_refl _ | (simp; omega) | (simp; done)) | refine Gr.grown ?_ _ _ | refine Gr.drewN ?_ _ | refine Gr.drew ?_ | refine Gr.alloc ?_ _ | refine Gr.grow ?_ _ | (refine Gr.trans ?_ (by assumption)))))).mono ?_); rintro e wF ⟨rfl, hgwF⟩); have A6 : Gr w wF := (by repeat (first | exact Gr.refl _ | refine Gr.setCell ?_ _ _ (by first | exact Nat.le_refl _ | (simp; omega) | (simp; done)) | refine Gr.grown ?_ _ _ | refine Gr.drewN ?_ _ | refine Gr.drew ?_ | refine Gr.alloc ?_ _ | refine Gr.grow ?_ _ | (refine Gr.trans ?_ (by assumption)))); have DF := (DE.gr ((Gr.refl _).alloc _)).gr hgwF; have XF := XE.gr hgwF; have YF := D4.at (w := wF) rfl y2 N2 d2 C2; clear hgwF DE XE A5 lt k0 k1 k2 k3 f0 f1 f2 f3)
    | ((go_at_call 11; (with_reducible refine (C7.out _ ((by repeat (first | exact Gr.refl _ | refine Gr.setCell ?_ _ _ (by first | exact Nat.le_refl _ | (simp; omega) | (simp; done)) | refine Gr.grown ?_ _ _ | refine Gr.drewN ?_ _ | refine Gr.drew ?_ | refine Gr.alloc ?_ _ | refine Gr.grow ?_ _ | (refine Gr.trans ?_ (by assumption)))))).mono ?_); rintro e wG ⟨rfl, hgwG⟩); have A7 : Gr w wG := (by repeat (first | exact Gr.refl _ | refine Gr.setCell ?_ _ _ (by first | exact Nat.le_refl _ | (simp; omega) | (simp; done)) | refine Gr.grown ?_ _ _ | refine Gr.drewN ?_ _ | refine Gr.drew ?_ | refine Gr.alloc ?_ _ | refine Gr.grow ?_ _ | (refine Gr.trans ?_ (by assumption)))); have DG := (DF.gr ((Gr.refl _).alloc _)).gr hgwG; have XG := (XF.gr ((Gr.refl _).alloc _)).gr hgwG; have YG := YF.gr hgwG; clear hgwG DF XF YF A6; have DG' := DG; obtain ⟨lt, k0, k1, k2, k3, f0, f1, f2, f3⟩ := DG; obtain ⟨xlt, x0, x1, x2, x3, xf0, xf1, xf2, xf3⟩ := XG; obtain ⟨ylt, y0, y1, y2, y3, yf0, yf1, yf2, yf3⟩ := YG)
    | ((go_at_call 27; (with_reducible refine (C8.out _ ((by repeat (first | exact Gr.refl _ | refine Gr.setCell ?_ _ _ (by first | exact Nat.le_refl _ | (simp; omega) | (simp; done)) | refine Gr.grown ?_ _ _ | refine Gr.drewN ?_ _ | refine Gr.drew ?_ | refine Gr.alloc ?_ _ | refine Gr.grow ?_ _ | (refine Gr.trans ?_ (by assumption)))))).mono ?_); rintro e wH ⟨rfl, hgwH⟩)))
  go_ret
  exact ⟨rfl, (by repeat (first | exact Gr.refl _ | refine Gr.setCell ?_ _ _ (by first | exact Nat.le_refl _ | (simp; omega) | (simp; done)) | refine Gr.grown ?_ _ _ | refine Gr.drewN ?_ _ | refine Gr.drew ?_ | refine Gr.alloc ?_ _ | refine Gr.grow ?_ _ | (refine Gr.trans ?_ (by assumption))))⟩
set_option maxHeartbeats 4000000 in
theorem days_out (n : Int) (w : World) 
    (c1 : ∀ W, Gr w W → Calls Tryq.prog 22 #[.int .i64 n] W fun e w' => e = .returned (.tuple #[.agg #[.int .i64 0, .int .i64 0, .bool false, .int .i64 0], .int .i64 2]) ∧ Gr W w')
    (c2 : ∀ W, Gr w W → Calls Tryq.prog 23 #[.int .i64 n] W fun e w' => e = .returned (.tuple #[.agg #[.int .i64 0, .int .i64 0, .int .i64 0], .int .i64 2]) ∧ Gr W w')
    (c7 : ∀ W, Gr w W → Calls Tryq.prog 11 #[] W fun e w' => e = .returned (.bool true) ∧ Gr W w') :
    Calls Tryq.prog 6 #[.int .i64 n] w fun e w' => e = .returned (.bool true) ∧ Gr w w' := by
  have C1 := Lib.hid c1
  have C2' := Lib.hid c2
  have C7 := Lib.hid c7
  clear c1 c2 c7
  go_enter Tryq.func6, Tryq.ntmps6
  go_wp2_with (first
    | ((go_at_call 22; (with_reducible refine (C1.out _ ((by repeat (first | exact Gr.refl _ | refine Gr.setCell ?_ _ _ (by first | exact Nat.le_refl _ | (simp; omega) | (simp; done)) | refine Gr.grown ?_ _ _ | refine Gr.drewN ?_ _ | refine Gr.drew ?_ | refine Gr.alloc ?_ _ | refine Gr.grow ?_ _ | (refine Gr.trans ?_ (by assumption)))))).mono ?_); rintro e wA ⟨rfl, hgwA⟩); have A1 : Gr w wA := (by repeat (first | exact Gr.refl _ | refine Gr.setCell ?_ _ _ (by first | exact Nat.le_refl _ | (simp; omega) | (simp; done)) | refine Gr.grown ?_ _ _ | refine Gr.drewN ?_ _ | refine Gr.drew ?_ | refine Gr.alloc ?_ _ | refine Gr.grow ?_ _ | (refine Gr.trans ?_ (by assumption)))); have DA := D4.at (w := wA) rfl 0 0 0 false; clear hgwA)
    | ((go_at_call 23; (with_reducible refine (C2'.out _ ((by repeat (first | exact Gr.refl _ | refine Gr.setCell ?_ _ _ (by first | exact Nat.le_refl _ | (simp; omega) | (simp; done)) | refine Gr.grown ?_ _ _ | refine Gr.drewN ?_ _ | refine Gr.drew ?_ | refine Gr.alloc ?_ _ | refine Gr.grow ?_ _ | (refine Gr.trans ?_ (by assumption)))))).mono ?_); rintro e wB ⟨rfl, hgwB⟩); have A2 : Gr w wB := (by repeat (first | exact Gr.refl _ | refine Gr.setCell ?_ _ _ (by first | exact Nat.le_refl _ | (simp; omega) | (simp; done)) | refine Gr.grown ?_ _ _ | refine Gr.drewN ?_ _ | refine Gr.drew ?_ | refine Gr.alloc ?_ _ | refine Gr.grow ?_ _ | (refine Gr.trans ?_ (by assumption)))); have DB := DA.gr hgwB; have EB := G3.at wB 0 0 0; clear hgwB DA A1)
    | ((go_at_call 11; (with_reducible refine (C7.out _ ((by repeat (first | exact Gr.refl _ | refine Gr.setCell ?_ _ _ (by first | exact Nat.le_refl _ | (simp; omega) | (simp; done)) | refine Gr.grown ?_ _ _ | refine Gr.drewN ?_ _ | refine Gr.drew ?_ | refine Gr.alloc ?_ _ | refine Gr.grow ?_ _ | (refine Gr.trans ?_ (by assumption)))))).mono ?_); rintro e wG ⟨rfl, hgwG⟩); have A7 : Gr w wG := (by repeat (first | exact Gr.refl _ | refine Gr.setCell ?_ _ _ (by first | exact Nat.le_refl _ | (simp; omega) | (simp; done)) | refine Gr.grown ?_ _ _ | refine Gr.drewN ?_ _ | refine Gr.drew ?_ | refine Gr.alloc ?_ _ | refine Gr.grow ?_ _ | (refine Gr.trans ?_ (by assumption)))); have DG := (DB.gr ((Gr.refl _).alloc _)).gr hgwG; have XG := EB.gr hgwG; clear hgwG DB EB A2; have DG' := DG; obtain ⟨lt, k0, k1, k2, k3, f0, f1, f2, f3⟩ := DG; obtain ⟨xlt, x0, x1, x2⟩ := XG))
  go_ret
  exact ⟨rfl, (by repeat (first | exact Gr.refl _ | refine Gr.setCell ?_ _ _ (by first | exact Nat.le_refl _ | (simp; omega) | (simp; done)) | refine Gr.grown ?_ _ _ | refine Gr.drewN ?_ _ | refine Gr.drew ?_ | refine Gr.alloc ?_ _ | refine Gr.grow ?_ _ | (refine Gr.trans ?_ (by assumption))))⟩
theorem wholeDays_t (n : Int) (w : World) (G : GT w) (p : PT w) (h : (Lit.int .i64 n).wf = true) : Calls Tryq.prog 6 #[.int .i64 n] w fun e w' => e = .returned (.bool true) ∧ Gr w w' := by
  by_cases o : n < -1373427 ∨ 2278650 < n
  · exact days_out n w (fun W _ => hfrom_out n W o) (fun W _ => gfrom_out n W o) (fun W hW => awake_c W (G.gr hW) (p.gr hW))
  · obtain ⟨y, j, d, hv, hn⟩ := hd_of (n := n) (by omega) (by omega)
    obtain ⟨M, D, hok, hg⟩ := date_of n
    have a1 : ∀ W, Gr w W → Calls Tryq.prog 22 #[.int .i64 n] W fun e w' => e = .returned (.tuple #[.agg #[.int .i64 y, .int .i64 (cN (lp y) j), .bool (cL (lp y) j), .int .i64 d], .int .i64 0]) ∧ Gr W w' := fun W hW => hfrom_in y j d n W (G.gr hW) hv hn
    have a2 : ∀ W, Gr w W → Calls Tryq.prog 23 #[.int .i64 n] W fun e w' => e = .returned (.tuple #[.agg #[.int .i64 (gyr n), .int .i64 (M : Int), .int .i64 D], .int .i64 0]) ∧ Gr W w' := fun W _ => gfrom_in n _ M D W (by omega) (by omega) rfl hok hg
    have a3 : ∀ W, Gr w W → Calls Tryq.prog 24 #[.agg #[.int .i64 y, .int .i64 (cN (lp y) j), .bool (cL (lp y) j), .int .i64 d]] W fun e w' => e = .returned (.tuple #[.int .i64 n, .int .i64 0]) ∧ Gr W w' := fun W hW => by
      have := htoday_in y j d W (G.gr hW) hv; rwa [hn] at this
    have a4 : ∀ W, Gr w W → Calls Tryq.prog 25 #[.agg #[.int .i64 (gyr n), .int .i64 (M : Int), .int .i64 D]] W fun e w' => e = .returned (.tuple #[.int .i64 n, .int .i64 0]) ∧ Gr W w' := fun W _ => day_to (by omega) (by omega) rfl hok hg W
    have a7 : ∀ W, Gr w W → Calls Tryq.prog 11 #[] W fun e w' => e = .returned (.bool true) ∧ Gr W w' := fun W hW => awake_c W (G.gr hW) (p.gr hW)
    have a8 := fun W (hW : Gr w W) => hcheck_in y j d W (G.gr hW) hv
    rcases cnext_c y j d hv with ⟨Y2, J2, D2, h2, e2, c⟩ | ⟨hno, c⟩
    · exact days_core n y _ d _ _ D Y2 _ D2 0 _ _ w (by omega) (by omega) a1 a2 a3 a4 (fun W hW => hfrom_in Y2 J2 D2 (n + 1) W (G.gr hW) h2 (by omega)) (fun W hW => c W (G.gr hW)) a7 a8
    · refine days_core n y _ d _ _ D 0 0 0 2 _ false w (by omega) (by omega) a1 a2 a3 a4 (fun W _ => hfrom_out (n + 1) W ?_) (fun W hW => c W (G.gr hW)) a7 a8
      by_cases q : 2278650 < n + 1
      · exact .inr q
      · obtain ⟨y3, j3, d3, h3, e3⟩ := hd_of (n := n + 1) (by omega) (by omega)
        exact absurd (by omega) (hno y3 j3 d3 h3)
end Go.Proofs.YtegkbjpcgelomaaGreatDoor.Walks
end
