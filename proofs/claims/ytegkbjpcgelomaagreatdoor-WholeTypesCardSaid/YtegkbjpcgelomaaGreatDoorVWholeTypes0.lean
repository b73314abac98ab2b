/- WholeNineteen, walked. -/
import Derived.Test.YtegkbjpcgelomaaGreatDoorZ21
import Derived.Test.YtegkbjpcgelomaaGreatDoorZ14
import Derived.Test.YtegkbjpcgelomaaGreatDoorZ15
import Derived.Test.YtegkbjpcgelomaaGreatDoorZ16
import Derived.Test.YtegkbjpcgelomaaGreatDoorZ18
set_option linter.unusedVariables false
set_option linter.unusedSimpArgs false
section
namespace Go.Proofs.YtegkbjpcgelomaaGreatDoor.Walks
open Go Go.RowKit Go.Sort Go.Proofs.YtegkbjpcgelomaaGreatDoor.Base Go.Proofs.YtegkbjpcgelomaaGreatDoor.Plain Go.Proofs.YtegkbjpcgelomaaGreatDoor.Math

theorem mo_far (n : Int) : 25920 * (moD (n + 235) - moD n) + moP (n + 235) - moP n = 179876755 := by unfold moD moP; omega
theorem bf_far (k : Int) : bf (k + 19) + 1 - 1 = (bf k + 1 - 1) + 235 := by unfold bf; omega
theorem mo_range {k : Int} (h0 : 0 ≤ k) (h1 : k ≤ 10001) : -10000000 ≤ moD (bf k + 1 - 1) ∧ moD (bf k + 1 - 1) ≤ 10000000 ∧ 0 ≤ moP (bf k + 1 - 1) ∧ moP (bf k + 1 - 1) ≤ 25920 := by
  have := bf_range h0 h1
  unfold moD moP
  omega
set_option maxHeartbeats 4000000 in
theorem nineteen_c (y : Int) (w : World) (G : GT w) (p : PT w) (y0 : 0 ≤ y) (y1 : y ≤ 65535) : Calls Tryq.prog 3 #[.int .u16 y] w fun e w' => e = .returned (.bool true) ∧ Gr w w' := by
  obtain ⟨k, hk⟩ : ∃ k, 1 + y % 9980 = k := ⟨_, rfl⟩
  have k0 : 1 ≤ k := by omega
  have k1 : k ≤ 9980 := by omega
  have m1 := ml_range k
  have m2 := ml_range (k + 19)
  have C1 := Lib.hid fun W => of_in k 1 W (by omega) (by omega) (by omega) (by omega)
  have C2 := Lib.hid fun W => of_in (k + 19) 1 W (by omega) (by omega) (by omega) (by omega)
  have C3 := Lib.hid fun W (hW : Gr w W) => awake_c W (G.gr hW) (p.gr hW)
  have hf := mo_far (bf k + 1 - 1)
  rw [← bf_far] at hf
  have r1 := mo_range (k := k) (by omega) (by omega)
  have r2 := mo_range (k := k + 19) (by omega) (by omega)
  obtain ⟨D, hD⟩ : ∃ D, moD (bf k + 1 - 1) = D := ⟨_, rfl⟩
  obtain ⟨P, hP⟩ : ∃ D, moP (bf k + 1 - 1) = D := ⟨_, rfl⟩
  obtain ⟨A, hA⟩ : ∃ D, moD (bf (k + 19) + 1 - 1) = D := ⟨_, rfl⟩
  obtain ⟨B, hB⟩ : ∃ D, moP (bf (k + 19) + 1 - 1) = D := ⟨_, rfl⟩
  rw [hD, hP] at C1 r1
  rw [hA, hB] at C2 r2
  rw [hA, hB, hD, hP] at hf
  clear hD hP hA hB m1 m2 G p
  obtain ⟨a0, a1, a2, a3⟩ := r1
  obtain ⟨b0, b1, b2, b3⟩ := r2
  have hb : (25920 * (A - D) + B - P == 179876755) = true := beq_iff_eq.2 hf
  go_enter Tryq.func3, Tryq.ntmps3
  go_wp2_with (first | (go_at_call 10; (with_reducible refine (C1.out _).mono ?_); rintro e wA ⟨rfl, hgA⟩; have lA : 0 < wA.heap.size + 1 := Nat.succ_pos _) | (go_at_call 10; (with_reducible refine (C2.out _).mono ?_); rintro e wB ⟨rfl, hgB⟩; have lB : wA.heap.size < wB.heap.size := (by have h := hgB.size; simp at h; omega); have k0 := hgB.keep (b := wA.heap.size) (o := 0) (v := .int .i64 D) (by first | (simp; done) | (simp; omega)) (by simp [go_sem]); have k1 := hgB.keep (b := wA.heap.size) (o := 1) (v := .int .i64 P) (by first | (simp; done) | (simp; omega)) (by simp [go_sem])) | (go_at_call 11; (with_reducible refine (C3.out _ ((by repeat (first | exact Gr.refl _ | refine Gr.setCell ?_ _ _ (by first | exact Nat.le_refl _ | (simp; omega) | (simp; done)) | refine Gr.grown ?_ _ _ | refine Gr.drewN ?_ _ | refine Gr.drew ?_ | refine Gr.alloc ?_ _ | refine Gr.grow ?_ _ | (refine Gr.trans ?_ (by assumption)))))).mono ?_); rintro e wC ⟨rfl, hgC⟩))

  go_ret
  exact ⟨rfl, (by repeat (first | exact Gr.refl _ | refine Gr.setCell ?_ _ _ (by first | exact Nat.le_refl _ | (simp; omega) | (simp; done)) | refine Gr.grown ?_ _ _ | refine Gr.drewN ?_ _ | refine Gr.drew ?_ | refine Gr.alloc ?_ _ | refine Gr.grow ?_ _ | (refine Gr.trans ?_ (by assumption))))⟩
theorem u16_of {a : Int} (h : (Lit.int .u16 a).wf = true) : 0 ≤ a ∧ a ≤ 65535 := by
  have e0 : IntKind.u16.min = 0 := rfl
  have e1 : IntKind.u16.max = 65535 := rfl
  simpa only [Lit.wf, e0, e1, Bool.and_eq_true, decide_eq_true_eq] using h
theorem wholeNineteen_t (y : Int) (w : World) (G : GT w) (p : PT w) (h : (Lit.int .u16 y).wf = true) : Calls Tryq.prog 3 #[.int .u16 y] w fun e w' => e = .returned (.bool true) ∧ Gr w w' :=
  nineteen_c y w G p (u16_of h).1 (u16_of h).2
end Go.Proofs.YtegkbjpcgelomaaGreatDoor.Walks
end
/- WholeYears, walked. -/
section
namespace Go.Proofs.YtegkbjpcgelomaaGreatDoor.Walks
open Go Go.RowKit Go.Sort Go.Proofs.YtegkbjpcgelomaaGreatDoor.Base Go.Proofs.YtegkbjpcgelomaaGreatDoor.Plain Go.Proofs.YtegkbjpcgelomaaGreatDoor.Math

theorem tnum_all : allB (fun k => knum (kB k) (kK k) (kL k) == (k : Int) + 1) 14 = true := by decide
theorem tnum_at {k : Nat} (hk : k < 14) : knum (kB k) (kK k) (kL k) = (k : Int) + 1 := beq_iff_eq.1 (allB_at tnum_all k hk)
theorem topyear_c (y : Int) (w : World) (y0 : 0 ≤ y) (y1 : y ≤ 65535) : Calls Tryq.prog 13 #[.int .u16 y] w fun e w' => e = .returned (.int .i64 (1 + y % 9999)) ∧ Gr w w' := by
  go_enter Tryq.func13, Tryq.ntmps13
  go_wp2
  exact bodyPost_ret (v := .int .i64 (1 + y % 9999)) (by simp [results, Tryz.results13, go_sem, *]) rfl ⟨rfl, (by repeat (first | exact Gr.refl _ | refine Gr.setCell ?_ _ _ (by first | exact Nat.le_refl _ | (simp; omega) | (simp; done)) | refine Gr.grown ?_ _ _ | refine Gr.drewN ?_ _ | refine Gr.drew ?_ | refine Gr.alloc ?_ _ | refine Gr.grow ?_ _ | (refine Gr.trans ?_ (by assumption))))⟩
set_option maxRecDepth 20000 in
set_option maxHeartbeats 4000000 in
theorem years_core_f (y A L B K D P N d1 d2 : Int) (w : World) (y0 : 0 ≤ y) (y1 : y ≤ 65535) (a0 : -7300000 ≤ A) (a1 : A ≤ 4540000) (l0 : 353 ≤ L) (l1 : L ≤ 355) (n0 : 1 ≤ N) (n1 : N ≤ 14) (D0 : D ≤ A) (D1 : A - D ≤ 2)
    (c0 : ∀ W, Calls Tryq.prog 13 #[.int .u16 y] W fun e w' => e = .returned (.int .i64 (1 + y % 9999)) ∧ Gr W w')
    (c1 : ∀ W, Calls Tryq.prog 15 #[.int .i64 (1 + y % 9999)] W fun e w' => e = .returned (.tuple #[.int .i64 A, .int .i64 0]) ∧ Gr W w')
    (c2 : ∀ W, Calls Tryq.prog 16 #[.int .i64 (1 + y % 9999)] W fun e w' => e = .returned (.tuple #[.int .i64 A, .int .i64 0]) ∧ Gr W w')
    (c3 : ∀ W, Calls Tryq.prog 17 #[.int .i64 (1 + y % 9999)] W fun e w' => e = .returned (.tuple #[.int .i64 L, .int .i64 0]) ∧ Gr W w')
    (c4 : ∀ W, Calls Tryq.prog 14 #[.int .i64 (1 + y % 9999)] W fun e w' => e = .returned (.tuple #[.agg #[.int .i64 B, .int .i64 K, .bool false], .int .i64 0]) ∧ Gr W w')
    (c5 : ∀ W, Calls Tryq.prog 18 #[.int .i64 (1 + y % 9999)] W fun e w' => e = .returned (.tuple #[.bool false, .int .i64 0]) ∧ Gr W w')
    (c6 : ∀ W, Calls Tryq.prog 10 #[.int .i64 (1 + y % 9999), .int .i64 1] W fun e w' => e = .returned (.tuple #[.agg #[.int .i64 D, .int .i64 P], .int .i64 0]) ∧ Gr W w')
    (c7 : ∀ W, Calls Tryq.prog 19 #[.int .i64 A] W fun e w' => e = .returned (.int .i64 B) ∧ Gr W w')
    (c8 : ∀ W, Gr w W → Calls Tryq.prog 11 #[] W fun e w' => e = .returned (.bool true) ∧ Gr W w')
    (c9 : ∀ W, Gr w W → Calls Tryq.prog 20 #[.agg #[.int .i64 B, .int .i64 K, .bool false]] W fun e w' => e = .returned (.int .i64 N) ∧ Gr W w')
    (cA : ∀ W, Gr w W → Calls Tryq.prog 21 #[.agg #[.int .i64 B, .int .i64 K, .bool false], .int .i64 2] W fun e w' => e = .returned (.int .i64 d1) ∧ Gr W w')
    (cB : ∀ W, Gr w W → Calls Tryq.prog 21 #[.agg #[.int .i64 B, .int .i64 K, .bool false], .int .i64 3] W fun e w' => e = .returned (.int .i64 d2) ∧ Gr W w')
    (w1 : (B == 0) = false) (w2 : (B == 3) = false) (w3 : (B == 5) = false) (v1 : ¬ B = 0) (v2 : ¬ B = 3) (v3 : ¬ B = 5) (u1 : (B != 0) = true) (u2 : (B != 3) = true) (u3 : (B != 5) = true)
    (q1 : (K == L - 353) = true) (q2 : ((d1 == 30) == (L == 355)) = true) (q3 : ((d2 == 29) == (L == 353)) = true) :
    Calls Tryq.prog 5 #[.int .u16 y] w fun e w' => e = .returned (.bool true) ∧ Gr w w' := by
  have C0 := Lib.hid c0
  have C1 := Lib.hid c1
  have C2 := Lib.hid c2
  have C3 := Lib.hid c3
  have C4 := Lib.hid c4
  have C5 := Lib.hid c5
  have C6 := Lib.hid c6
  have C7 := Lib.hid c7
  have C8 := Lib.hid c8
  have C9 := Lib.hid c9
  have CA := Lib.hid cA
  have CB := Lib.hid cB
  clear c0 c1 c2 c3 c4 c5 c6 c7 c8 c9 cA cB
  go_enter Tryq.func5, Tryq.ntmps5
  go_wp2_with (first | (go_at_call 13; (with_reducible refine (C0.out _).mono ?_); rintro e wY ⟨rfl, hgwY⟩; obtain ⟨hclwY, hfzwY, hszwY⟩ := gcell hgwY; (try simp [Nat.add_one_le_iff] at hszwY)) | (go_at_call 15; (with_reducible refine (C1.out _).mono ?_); rintro e wA ⟨rfl, hgwA⟩; obtain ⟨hclwA, hfzwA, hszwA⟩ := gcell hgwA; (try simp [Nat.add_one_le_iff] at hszwA)) | (go_at_call 16; (with_reducible refine (C2.out _).mono ?_); rintro e wB ⟨rfl, hgwB⟩; obtain ⟨hclwB, hfzwB, hszwB⟩ := gcell hgwB; (try simp [Nat.add_one_le_iff] at hszwB)) | (go_at_call 17; (with_reducible refine (C3.out _).mono ?_); rintro e wC ⟨rfl, hgwC⟩; obtain ⟨hclwC, hfzwC, hszwC⟩ := gcell hgwC; (try simp [Nat.add_one_le_iff] at hszwC)) | (go_at_call 14; (with_reducible refine (C4.out _).mono ?_); rintro e wD ⟨rfl, hgwD⟩; obtain ⟨hclwD, hfzwD, hszwD⟩ := gcell hgwD; (try simp [Nat.add_one_le_iff] at hszwD)) | (go_at_call 18; (with_reducible refine (C5.out _).mono ?_); rintro e wE ⟨rfl, hgwE⟩; obtain ⟨hclwE, hfzwE, hszwE⟩ := gcell hgwE; (try simp [Nat.add_one_le_iff] at hszwE); have hlwE_wD : wD.heap.size < wE.heap.size := (by omega)) | (go_at_call 10; (with_reducible refine (C6.out _).mono ?_); rintro e wF ⟨rfl, hgwF⟩; obtain ⟨hclwF, hfzwF, hszwF⟩ := gcell hgwF; (try simp [Nat.add_one_le_iff] at hszwF); have hlwF_wD : wD.heap.size < wF.heap.size := (by omega)) | (go_at_call 19; (with_reducible refine (C7.out _).mono ?_); rintro e wG ⟨rfl, hgwG⟩; obtain ⟨hclwG, hfzwG, hszwG⟩ := gcell hgwG; (try simp [Nat.add_one_le_iff] at hszwG); have hlwG_wD : wD.heap.size < wG.heap.size := (by omega); have hlwG_wF : wF.heap.size < wG.heap.size := (by omega)) | (go_at_call 11; (with_reducible refine (C8.out _ ((by repeat (first | exact Gr.refl _ | refine Gr.setCell ?_ _ _ (by first | exact Nat.le_refl _ | (simp; omega) | (simp; done)) | refine Gr.grown ?_ _ _ | refine Gr.drewN ?_ _ | refine Gr.drew ?_ | refine Gr.alloc ?_ _ | refine Gr.grow ?_ _ | (refine Gr.trans ?_ (by assumption)))))).mono ?_); rintro e wH ⟨rfl, hgwH⟩; obtain ⟨hclwH, hfzwH, hszwH⟩ := gcell hgwH; (try simp [Nat.add_one_le_iff] at hszwH); have hlwH_wD : wD.heap.size < wH.heap.size := (by omega); have hlwH_wF : wF.heap.size < wH.heap.size := (by omega)) | (go_at_call 20; (with_reducible refine (C9.out _ ((by repeat (first | exact Gr.refl _ | refine Gr.setCell ?_ _ _ (by first | exact Nat.le_refl _ | (simp; omega) | (simp; done)) | refine Gr.grown ?_ _ _ | refine Gr.drewN ?_ _ | refine Gr.drew ?_ | refine Gr.alloc ?_ _ | refine Gr.grow ?_ _ | (refine Gr.trans ?_ (by assumption)))))).mono ?_); rintro e wI ⟨rfl, hgwI⟩; obtain ⟨hclwI, hfzwI, hszwI⟩ := gcell hgwI; (try simp [Nat.add_one_le_iff] at hszwI); have hlwI_wD : wD.heap.size < wI.heap.size := (by omega); have hlwI_wF : wF.heap.size < wI.heap.size := (by omega)) | (go_at_call 21; (with_reducible refine (CA.out _ ((by repeat (first | exact Gr.refl _ | refine Gr.setCell ?_ _ _ (by first | exact Nat.le_refl _ | (simp; omega) | (simp; done)) | refine Gr.grown ?_ _ _ | refine Gr.drewN ?_ _ | refine Gr.drew ?_ | refine Gr.alloc ?_ _ | refine Gr.grow ?_ _ | (refine Gr.trans ?_ (by assumption)))))).mono ?_); rintro e wJ ⟨rfl, hgwJ⟩; obtain ⟨hclwJ, hfzwJ, hszwJ⟩ := gcell hgwJ; (try simp [Nat.add_one_le_iff] at hszwJ); have hlwJ_wD : wD.heap.size < wJ.heap.size := (by omega); have hlwJ_wF : wF.heap.size < wJ.heap.size := (by omega)) | (go_at_call 21; (with_reducible refine (CB.out _ ((by repeat (first | exact Gr.refl _ | refine Gr.setCell ?_ _ _ (by first | exact Nat.le_refl _ | (simp; omega) | (simp; done)) | refine Gr.grown ?_ _ _ | refine Gr.drewN ?_ _ | refine Gr.drew ?_ | refine Gr.alloc ?_ _ | refine Gr.grow ?_ _ | (refine Gr.trans ?_ (by assumption)))))).mono ?_); rintro e wK ⟨rfl, hgwK⟩; obtain ⟨hclwK, hfzwK, hszwK⟩ := gcell hgwK; (try simp [Nat.add_one_le_iff] at hszwK); have hlwK_wD : wD.heap.size < wK.heap.size := (by omega); have hlwK_wF : wF.heap.size < wK.heap.size := (by omega)))
  go_ret
  exact ⟨rfl, (by repeat (first | exact Gr.refl _ | refine Gr.setCell ?_ _ _ (by first | exact Nat.le_refl _ | (simp; omega) | (simp; done)) | refine Gr.grown ?_ _ _ | refine Gr.drewN ?_ _ | refine Gr.drew ?_ | refine Gr.alloc ?_ _ | refine Gr.grow ?_ _ | (refine Gr.trans ?_ (by assumption))))⟩

set_option maxRecDepth 20000 in
set_option maxHeartbeats 4000000 in
theorem years_core_t (y A L B K D P N d1 d2 : Int) (w : World) (y0 : 0 ≤ y) (y1 : y ≤ 65535) (a0 : -7300000 ≤ A) (a1 : A ≤ 4540000) (l0 : 353 ≤ L - 30) (l1 : L - 30 ≤ 355) (n0 : 1 ≤ N) (n1 : N ≤ 14) (D0 : D ≤ A) (D1 : A - D ≤ 2)
    (c0 : ∀ W, Calls Tryq.prog 13 #[.int .u16 y] W fun e w' => e = .returned (.int .i64 (1 + y % 9999)) ∧ Gr W w')
    (c1 : ∀ W, Calls Tryq.prog 15 #[.int .i64 (1 + y % 9999)] W fun e w' => e = .returned (.tuple #[.int .i64 A, .int .i64 0]) ∧ Gr W w')
    (c2 : ∀ W, Calls Tryq.prog 16 #[.int .i64 (1 + y % 9999)] W fun e w' => e = .returned (.tuple #[.int .i64 A, .int .i64 0]) ∧ Gr W w')
    (c3 : ∀ W, Calls Tryq.prog 17 #[.int .i64 (1 + y % 9999)] W fun e w' => e = .returned (.tuple #[.int .i64 L, .int .i64 0]) ∧ Gr W w')
    (c4 : ∀ W, Calls Tryq.prog 14 #[.int .i64 (1 + y % 9999)] W fun e w' => e = .returned (.tuple #[.agg #[.int .i64 B, .int .i64 K, .bool true], .int .i64 0]) ∧ Gr W w')
    (c5 : ∀ W, Calls Tryq.prog 18 #[.int .i64 (1 + y % 9999)] W fun e w' => e = .returned (.tuple #[.bool true, .int .i64 0]) ∧ Gr W w')
    (c6 : ∀ W, Calls Tryq.prog 10 #[.int .i64 (1 + y % 9999), .int .i64 1] W fun e w' => e = .returned (.tuple #[.agg #[.int .i64 D, .int .i64 P], .int .i64 0]) ∧ Gr W w')
    (c7 : ∀ W, Calls Tryq.prog 19 #[.int .i64 A] W fun e w' => e = .returned (.int .i64 B) ∧ Gr W w')
    (c8 : ∀ W, Gr w W → Calls Tryq.prog 11 #[] W fun e w' => e = .returned (.bool true) ∧ Gr W w')
    (c9 : ∀ W, Gr w W → Calls Tryq.prog 20 #[.agg #[.int .i64 B, .int .i64 K, .bool true]] W fun e w' => e = .returned (.int .i64 N) ∧ Gr W w')
    (cA : ∀ W, Gr w W → Calls Tryq.prog 21 #[.agg #[.int .i64 B, .int .i64 K, .bool true], .int .i64 2] W fun e w' => e = .returned (.int .i64 d1) ∧ Gr W w')
    (cB : ∀ W, Gr w W → Calls Tryq.prog 21 #[.agg #[.int .i64 B, .int .i64 K, .bool true], .int .i64 3] W fun e w' => e = .returned (.int .i64 d2) ∧ Gr W w')
    (w1 : (B == 0) = false) (w2 : (B == 3) = false) (w3 : (B == 5) = false) (v1 : ¬ B = 0) (v2 : ¬ B = 3) (v3 : ¬ B = 5) (u1 : (B != 0) = true) (u2 : (B != 3) = true) (u3 : (B != 5) = true)
    (q1 : (K == L - 30 - 353) = true) (q2 : ((d1 == 30) == (L - 30 == 355)) = true) (q3 : ((d2 == 29) == (L - 30 == 353)) = true) :
    Calls Tryq.prog 5 #[.int .u16 y] w fun e w' => e = .returned (.bool true) ∧ Gr w w' := by
  have C0 := Lib.hid c0
  have C1 := Lib.hid c1
  have C2 := Lib.hid c2
  have C3 := Lib.hid c3
  have C4 := Lib.hid c4
  have C5 := Lib.hid c5
  have C6 := Lib.hid c6
  have C7 := Lib.hid c7
  have C8 := Lib.hid c8
  have C9 := Lib.hid c9
  have CA := Lib.hid cA
  have CB := Lib.hid cB
  clear c0 c1 c2 c3 c4 c5 c6 c7 c8 c9 cA cB
  go_enter Tryq.func5, Tryq.ntmps5
  go_wp2_with (first | (go_at_call 13; (with_reducible refine (C0.out _).mono ?_); rintro e wY ⟨rfl, hgwY⟩; obtain ⟨hclwY, hfzwY, hszwY⟩ := gcell hgwY; (try simp [Nat.add_one_le_iff] at hszwY)) | (go_at_call 15; (with_reducible refine (C1.out _).mono ?_); rintro e wA ⟨rfl, hgwA⟩; obtain ⟨hclwA, hfzwA, hszwA⟩ := gcell hgwA; (try simp [Nat.add_one_le_iff] at hszwA)) | (go_at_call 16; (with_reducible refine (C2.out _).mono ?_); rintro e wB ⟨rfl, hgwB⟩; obtain ⟨hclwB, hfzwB, hszwB⟩ := gcell hgwB; (try simp [Nat.add_one_le_iff] at hszwB)) | (go_at_call 17; (with_reducible refine (C3.out _).mono ?_); rintro e wC ⟨rfl, hgwC⟩; obtain ⟨hclwC, hfzwC, hszwC⟩ := gcell hgwC; (try simp [Nat.add_one_le_iff] at hszwC)) | (go_at_call 14; (with_reducible refine (C4.out _).mono ?_); rintro e wD ⟨rfl, hgwD⟩; obtain ⟨hclwD, hfzwD, hszwD⟩ := gcell hgwD; (try simp [Nat.add_one_le_iff] at hszwD)) | (go_at_call 18; (with_reducible refine (C5.out _).mono ?_); rintro e wE ⟨rfl, hgwE⟩; obtain ⟨hclwE, hfzwE, hszwE⟩ := gcell hgwE; (try simp [Nat.add_one_le_iff] at hszwE); have hlwE_wD : wD.heap.size < wE.heap.size := (by omega)) | (go_at_call 10; (with_reducible refine (C6.out _).mono ?_); rintro e wF ⟨rfl, hgwF⟩; obtain ⟨hclwF, hfzwF, hszwF⟩ := gcell hgwF; (try simp [Nat.add_one_le_iff] at hszwF); have hlwF_wD : wD.heap.size < wF.heap.size := (by omega)) | (go_at_call 19; (with_reducible refine (C7.out _).mono ?_); rintro e wG ⟨rfl, hgwG⟩; obtain ⟨hclwG, hfzwG, hszwG⟩ := gcell hgwG; (try simp [Nat.add_one_le_iff] at hszwG); have hlwG_wD : wD.heap.size < wG.heap.size := (by omega); have hlwG_wF : wF.heap.size < wG.heap.size := (by omega)) | (go_at_call 11; (with_reducible refine (C8.out _ ((by repeat (first | exact Gr.refl _ | refine Gr.setCell ?_ _ _ (by first | exact Nat.le_refl _ | (simp; omega) | (simp; done)) | refine Gr.grown ?_ _ _ | refine Gr.drewN ?_ _ | refine Gr.drew ?_ | refine Gr.alloc ?_ _ | refine Gr.grow ?_ _ | (refine Gr.trans ?_ (by assumption)))))).mono ?_); rintro e wH ⟨rfl, hgwH⟩; obtain ⟨hclwH, hfzwH, hszwH⟩ := gcell hgwH; (try simp [Nat.add_one_le_iff] at hszwH); have hlwH_wD : wD.heap.size < wH.heap.size := (by omega); have hlwH_wF : wF.heap.size < wH.heap.size := (by omega)) | (go_at_call 20; (with_reducible refine (C9.out _ ((by repeat (first | exact Gr.refl _ | refine Gr.setCell ?_ _ _ (by first | exact Nat.le_refl _ | (simp; omega) | (simp; done)) | refine Gr.grown ?_ _ _ | refine Gr.drewN ?_ _ | refine Gr.drew ?_ | refine Gr.alloc ?_ _ | refine Gr.grow ?_ _ | (refine Gr.trans ?_ (by assumption)))))).mono ?_); rintro e wI ⟨rfl, hgwI⟩; obtain ⟨hclwI, hfzwI, hszwI⟩ := gcell hgwI; (try simp [Nat.add_one_le_iff] at hszwI); have hlwI_wD : wD.heap.size < wI.heap.size := (by omega); have hlwI_wF : wF.heap.size < wI.heap.size := (by omega)) | (go_at_call 21; (with_reducible refine (CA.out _ ((by repeat (first | exact Gr.refl _ | refine Gr.setCell ?_ _ _ (by first | exact Nat.le_refl _ | (simp; omega) | (simp; done)) | refine Gr.grown ?_ _ _ | refine Gr.drewN ?_ _ | refine Gr.drew ?_ | refine Gr.alloc ?_ _ | refine Gr.grow ?_ _ | (refine Gr.trans ?_ (by assumption)))))).mono ?_); rintro e wJ ⟨rfl, hgwJ⟩; obtain ⟨hclwJ, hfzwJ, hszwJ⟩ := gcell hgwJ; (try simp [Nat.add_one_le_iff] at hszwJ); have hlwJ_wD : wD.heap.size < wJ.heap.size := (by omega); have hlwJ_wF : wF.heap.size < wJ.heap.size := (by omega)) | (go_at_call 21; (with_reducible refine (CB.out _ ((by repeat (first | exact Gr.refl _ | refine Gr.setCell ?_ _ _ (by first | exact Nat.le_refl _ | (simp; omega) | (simp; done)) | refine Gr.grown ?_ _ _ | refine Gr.drewN ?_ _ | refine Gr.drew ?_ | refine Gr.alloc ?_ _ | refine Gr.grow ?_ _ | (refine Gr.trans ?_ (by assumption)))))).mono ?_); rintro e wK ⟨rfl, hgwK⟩; obtain ⟨hclwK, hfzwK, hszwK⟩ := gcell hgwK; (try simp [Nat.add_one_le_iff] at hszwK); have hlwK_wD : wD.heap.size < wK.heap.size := (by omega); have hlwK_wF : wF.heap.size < wK.heap.size := (by omega)))
  go_ret
  exact ⟨rfl, (by repeat (first | exact Gr.refl _ | refine Gr.setCell ?_ _ _ (by first | exact Nat.le_refl _ | (simp; omega) | (simp; done)) | refine Gr.grown ?_ _ _ | refine Gr.drewN ?_ _ | refine Gr.drew ?_ | refine Gr.alloc ?_ _ | refine Gr.grow ?_ _ | (refine Gr.trans ?_ (by assumption))))⟩

theorem wholeYears_t (y : Int) (w : World) (G : GT w) (p : PT w) (w0 : (Lit.int .u16 y).wf = true) : Calls Tryq.prog 5 #[.int .u16 y] w fun e w' => e = .returned (.bool true) ∧ Gr w w' := by
  have h0 := u16_of w0
  obtain ⟨n, hn⟩ : ∃ n, 1 + y % 9999 = n := ⟨_, rfl⟩
  have n0 : 1 ≤ n := by omega
  have n1 : n ≤ 9999 := by omega
  obtain ⟨i, hi, e1, e2, e3⟩ := ky_in n0 n1
  have rA := fy_range (y := n) (by omega) (by omega)
  have rL := kln_range n0 n1
  have rk := kk_leap n0 n1
  have hK : knum (kb n) (kk n) (lp n) = (i : Int) + 1 := by rw [e1, e2, e3]; exact tnum_at hi
  have hN : mN (kb n) (kk n) (lp n) = mct (lp n) := by unfold mN; rw [if_pos (by omega)]
  have hm := mct_le (lp n)
  have hB : kb n = 1 ∨ kb n = 2 ∨ kb n = 4 ∨ kb n = 6 := by
    rw [e1]
    have : i = 0 ∨ i = 1 ∨ i = 2 ∨ i = 3 ∨ i = 4 ∨ i = 5 ∨ i = 6 ∨ i = 7 ∨ i = 8 ∨ i = 9 ∨ i = 10 ∨ i = 11 ∨ i = 12 ∨ i = 13 := by omega
    rcases this with rfl | rfl | rfl | rfl | rfl | rfl | rfl | rfl | rfl | rfl | rfl | rfl | rfl | rfl <;> decide
  have hD : moD (bf n + 1 - 1) ≤ fy n ∧ fy n - moD (bf n + 1 - 1) ≤ 2 := by
    have := dly_range (moD (bf n)) (moP (bf n)) (lp n) (lp (n - 1))
    rw [show bf n + 1 - 1 = bf n from by omega]
    unfold fy
    omega
  have m1 : 1 ≤ ml n := by have := ml_range n; omega
  have C1 : ∀ W, Calls Tryq.prog 15 #[.int .i64 (1 + y % 9999)] W fun e w' => e = .returned (.tuple #[.int .i64 (fy n), .int .i64 0]) ∧ Gr W w' := fun W => by rw [hn]; exact first_in n W (by omega) (by omega)
  have C2 : ∀ W, Calls Tryq.prog 16 #[.int .i64 (1 + y % 9999)] W fun e w' => e = .returned (.tuple #[.int .i64 (fy n), .int .i64 0]) ∧ Gr W w' := fun W => by
    have h := cFirst_c n W
    rw [hn]
    rwa [show fyN n = fy n from fyN_in (by omega) (by omega), show yE n = 0 from yE_in (by omega) (by omega)] at h
  have C3 : ∀ W, Calls Tryq.prog 17 #[.int .i64 (1 + y % 9999)] W fun e w' => e = .returned (.tuple #[.int .i64 (kln n), .int .i64 0]) ∧ Gr W w' := fun W => by rw [hn]; exact klong_in n W n0 n1
  have C4 : ∀ W, Calls Tryq.prog 14 #[.int .i64 (1 + y % 9999)] W fun e w' => e = .returned (.tuple #[.agg #[.int .i64 (kb n), .int .i64 (kk n), .bool (lp n)], .int .i64 0]) ∧ Gr W w' := fun W => by rw [hn]; exact kof_in n W n0 n1
  have C5 : ∀ W, Calls Tryq.prog 18 #[.int .i64 (1 + y % 9999)] W fun e w' => e = .returned (.tuple #[.bool (lp n), .int .i64 0]) ∧ Gr W w' := fun W => by rw [hn]; exact leap_in n W (by omega) (by omega)
  have C6 : ∀ W, Calls Tryq.prog 10 #[.int .i64 (1 + y % 9999), .int .i64 1] W fun e w' => e = .returned (.tuple #[.agg #[.int .i64 (moD (bf n + 1 - 1)), .int .i64 (moP (bf n + 1 - 1))], .int .i64 0]) ∧ Gr W w' := fun W => by rw [hn]; exact of_in n 1 W (by omega) (by omega) (by omega) m1
  have C7 : ∀ W, Calls Tryq.prog 19 #[.int .i64 (fy n)] W fun e w' => e = .returned (.int .i64 (kb n)) ∧ Gr W w' := fun W => wd_c (fy n) W (by omega) (by omega)
  have C8 : ∀ W, Gr w W → Calls Tryq.prog 11 #[] W fun e w' => e = .returned (.bool true) ∧ Gr W w' := fun W hW => awake_c W (G.gr hW) (p.gr hW)
  have C9 : ∀ W, Gr w W → Calls Tryq.prog 20 #[.agg #[.int .i64 (kb n), .int .i64 (kk n), .bool (lp n)]] W fun e w' => e = .returned (.int .i64 ((i : Int) + 1)) ∧ Gr W w' := fun W hW => by
    have := knumber_c (kb n) (kk n) (lp n) W (G.gr hW).t; rwa [hK] at this
  have CA : ∀ W, Gr w W → Calls Tryq.prog 21 #[.agg #[.int .i64 (kb n), .int .i64 (kk n), .bool (lp n)], .int .i64 2] W fun e w' => e = .returned (.int .i64 (mlen (kk n) (lp n) 1)) ∧ Gr W w' := fun W hW => mdays_in (kb n) (kk n) (lp n) 1 W (G.gr hW) (by omega)
  have CB : ∀ W, Gr w W → Calls Tryq.prog 21 #[.agg #[.int .i64 (kb n), .int .i64 (kk n), .bool (lp n)], .int .i64 3] W fun e w' => e = .returned (.int .i64 (mlen (kk n) (lp n) 2)) ∧ Gr W w' := fun W hW => mdays_in (kb n) (kk n) (lp n) 2 W (G.gr hW) (by omega)
  clear hn hK hN e1 e2 e3 G p
  obtain ⟨k1, k2, k3⟩ := rk
  have nb : ∀ {x : Int}, ¬ kb n = x → (kb n == x) = false ∧ (kb n != x) = true := fun h => ⟨by simpa using h, by simpa using h⟩
  have z0 : ¬ kb n = 0 := by omega
  have z3 : ¬ kb n = 3 := by omega
  have z5 : ¬ kb n = 5 := by omega
  have hk : kk n = 0 ∨ kk n = 1 ∨ kk n = 2 := by omega
  generalize hl : lp n = l at *
  generalize kb n = B at *
  generalize kk n = K at *
  generalize kln n = L at *
  cases l
  · simp only [Bool.false_eq_true, if_false, Int.add_zero] at k1
    refine years_core_f y (fy n) L B K _ _ _ _ _ w h0.1 h0.2 rA.1 rA.2 (by omega) (by omega) (by omega) (by omega) hD.1 hD.2 (fun W => topyear_c y W h0.1 h0.2) C1 C2 C3 C4 C5 C6 C7 C8 C9 CA CB (nb z0).1 (nb z3).1 (nb z5).1 z0 z3 z5 (nb z0).2 (nb z3).2 (nb z5).2 (by rw [beq_iff_eq]; omega) ?_ ?_
    · obtain rfl : L = K + 353 := by omega
      rcases hk with rfl | rfl | rfl <;> decide
    · obtain rfl : L = K + 353 := by omega
      rcases hk with rfl | rfl | rfl <;> decide
  · simp only [if_true] at k1
    refine years_core_t y (fy n) L B K _ _ _ _ _ w h0.1 h0.2 rA.1 rA.2 (by omega) (by omega) (by omega) (by omega) hD.1 hD.2 (fun W => topyear_c y W h0.1 h0.2) C1 C2 C3 C4 C5 C6 C7 C8 C9 CA CB (nb z0).1 (nb z3).1 (nb z5).1 z0 z3 z5 (nb z0).2 (nb z3).2 (nb z5).2 (by rw [beq_iff_eq]; omega) ?_ ?_
    · obtain rfl : L = K + 383 := by omega
      rcases hk with rfl | rfl | rfl <;> decide
    · obtain rfl : L = K + 383 := by omega
      rcases hk with rfl | rfl | rfl <;> decide
end Go.Proofs.YtegkbjpcgelomaaGreatDoor.Walks
end
/- WholeTypes, walked. -/
section
namespace Go.Proofs.YtegkbjpcgelomaaGreatDoor.Walks
open Go Go.RowKit Go.Sort Go.Proofs.YtegkbjpcgelomaaGreatDoor.Base Go.Proofs.YtegkbjpcgelomaaGreatDoor.Plain Go.Proofs.YtegkbjpcgelomaaGreatDoor.Math

/-- A year of each type. -/
def wtY (k : Nat) : Int := ([15, 1, 4, 7, 23, 26, 2, 8, 14, 27, 3, 6, 19, 25] : List Int).getD k 0
def wtOk (k : Nat) : Bool := decide (1 ≤ wtY k ∧ wtY k ≤ 9999 ∧ kb (wtY k) = kB k ∧ kk (wtY k) = kK k ∧ lp (wtY k) = kL k)
theorem wt_all : allB wtOk 14 = true := by decide +kernel
/-- The year i steps on from year a, round. -/
def wtR (a : Int) (i : Nat) : Int := 1 + (a - 1 + (i : Int)) % 9999
theorem wtR_in (a : Int) (i : Nat) : 1 ≤ wtR a i ∧ wtR a i ≤ 9999 := by unfold wtR; omega
theorem wtR_next (a : Int) (i : Nat) : 1 + wtR a i % 9999 = wtR a (i + 1) := by unfold wtR; omega
theorem wt_least (P : Nat → Prop) (n : Nat) (h : P n) : ∃ m, m ≤ n ∧ P m ∧ ∀ j, j < m → ¬ P j := by
  induction n using Nat.strongRecOn with
  | ind n ih =>
    by_cases e : ∃ j, j < n ∧ P j
    · obtain ⟨j, hj, pj⟩ := e
      obtain ⟨m, a, b, c⟩ := ih j hj pj
      exact ⟨m, by omega, b, c⟩
    · exact ⟨n, Nat.le_refl _, h, fun j hj pj => e ⟨j, hj, pj⟩⟩
theorem wt_is (a : Int) (k : Nat) (a0 : 1 ≤ a) (a1 : a ≤ 9999) (hk : k < 14) : ∃ M, M < 9999 ∧ (kb (wtR a M) = kB k ∧ kk (wtR a M) = kK k ∧ lp (wtR a M) = kL k) ∧ ∀ j, j < M → ¬ (kb (wtR a j) = kB k ∧ kk (wtR a j) = kK k ∧ lp (wtR a j) = kL k) := by
  have h := of_decide_eq_true (allB_at wt_all k hk)
  obtain ⟨h0, h1, h2⟩ := h
  have e : wtR a ((wtY k - a) % 9999).toNat = wtY k := by unfold wtR; omega
  obtain ⟨m, hm, p, q⟩ := wt_least (fun i => kb (wtR a i) = kB k ∧ kk (wtR a i) = kK k ∧ lp (wtR a i) = kL k) ((wtY k - a) % 9999).toNat (by rw [e]; exact h2)
  exact ⟨m, by omega, p, q⟩

set_option maxRecDepth 20000 in
set_option maxHeartbeats 4000000 in
theorem types_core (n y a : Int) (k M : Nat) (w : World) (n0 : 0 ≤ n) (n1 : n ≤ 255) (y0 : 0 ≤ y) (y1 : y ≤ 65535) (hk : k < 14) (hM : M < 9999) (B K : Int) (l : Bool)
    (hn : 1 + n % 14 = (k : Int) + 1)
    (c0 : ∀ W, Gr w W → Calls Tryq.prog 12 #[.int .i64 (1 + n % 14)] W fun e w' => e = .returned (.tuple #[.agg #[.int .i64 B, .int .i64 K, .bool l], .bool true]) ∧ Gr W w')
    (c1 : ∀ W, Calls Tryq.prog 13 #[.int .u16 y] W fun e w' => e = .returned (.int .i64 (wtR a 0)) ∧ Gr W w')
    (c2 : ∀ W (i : Nat), Calls Tryq.prog 14 #[.int .i64 (wtR a i)] W fun e w' => e = .returned (.tuple #[.agg #[.int .i64 (kb (wtR a i)), .int .i64 (kk (wtR a i)), .bool (lp (wtR a i))], .int .i64 0]) ∧ Gr W w')
    (c3 : ∀ W, Gr w W → Calls Tryq.prog 11 #[] W fun e w' => e = .returned (.bool true) ∧ Gr W w')
    (hy : kb (wtR a M) = B ∧ kk (wtR a M) = K ∧ lp (wtR a M) = l) (hx : ∀ j, j < M → ¬ (kb (wtR a j) = B ∧ kk (wtR a j) = K ∧ lp (wtR a j) = l)) :
    Calls Tryq.prog 4 #[.int .u8 n, .int .u16 y] w fun e w' => e = .returned (.bool true) ∧ Gr w w' := by
  have C0 := Lib.hid c0
  have C1 := Lib.hid c1
  have C2 := Lib.hid c2
  have C3 := Lib.hid c3
  have HY := Lib.hid hy
  have HX := Lib.hid hx
  clear c0 c1 c2 c3 hy hx hn
  go_enter Tryq.func4, Tryq.ntmps4
  go_wp2_with (first | ((go_at_call 12; (with_reducible refine (C0.out _ ((by repeat (first | exact Gr.refl _ | refine Gr.setCell ?_ _ _ (by first | exact Nat.le_refl _ | (simp; omega) | (simp; done)) | refine Gr.grown ?_ _ _ | refine Gr.drewN ?_ _ | refine Gr.drew ?_ | refine Gr.alloc ?_ _ | refine Gr.grow ?_ _ | (refine Gr.trans ?_ (by assumption)))))).mono ?_); rintro e wA ⟨rfl, hgwA⟩); have KA := K3.at wA B K l; have GA : Gr w wA := (by repeat (first | exact Gr.refl _ | refine Gr.setCell ?_ _ _ (by first | exact Nat.le_refl _ | (simp; omega) | (simp; done)) | refine Gr.grown ?_ _ _ | refine Gr.drewN ?_ _ | refine Gr.drew ?_ | refine Gr.alloc ?_ _ | refine Gr.grow ?_ _ | (refine Gr.trans ?_ (by assumption))))) | ((go_at_call 13; (with_reducible refine (C1.out _).mono ?_); rintro e wB ⟨rfl, hgwB⟩); have KB := KA.gr hgwB; have GB : Gr w wB := (by repeat (first | exact Gr.refl _ | refine Gr.setCell ?_ _ _ (by first | exact Nat.le_refl _ | (simp; omega) | (simp; done)) | refine Gr.grown ?_ _ _ | refine Gr.drewN ?_ _ | refine Gr.drew ?_ | refine Gr.alloc ?_ _ | refine Gr.grow ?_ _ | (refine Gr.trans ?_ (by assumption)))); clear KA))
  go_loopg [8, 9] (M + 1) (fun kx s8 s9 wr => ∃ i : Nat, i ≤ M ∧ M + 1 - i ≤ kx ∧ s8 = .int .i64 (wtR a i) ∧ s9 = .int .i64 (i : Int) ∧ K3 wr wA.heap.size B K l ∧ Gr w wr)
  case atStart => exact ⟨0, by omega, by omega, rfl, rfl, KB, GB⟩
  case round =>
    obtain ⟨i, hi, hm, rfl, rfl, KR, hg⟩ := hrel
    have i1 : (i : Int) < 9999 := by omega
    have r := wtR_in a i
    obtain ⟨r0, r1⟩ := r
    have hnx := Lib.hid (wtR_next a i)
    have Ci := Lib.hid fun W => C2.out W i
    have HXi := Lib.hid fun (h : i < M) => HX.out i h
    have HYi := Lib.hid fun (h : i = M) => (h ▸ HY.out : kb (wtR a i) = B ∧ kk (wtR a i) = K ∧ lp (wtR a i) = l)
    generalize wtR a i = Y at *
    generalize kb Y = b at *
    generalize kk Y = kd at *
    generalize lp Y = c at *
    clear KB GB GA
    by_cases z : i = M
    · obtain ⟨e1, e2, e3⟩ := HYi.out z
      subst e1 e2 e3
      clear HXi HYi HX HY hnx C0 C1 C2 hm z hi
      go_wp2_with (first | ((go_at_call 14; (with_reducible refine (Ci.out _).mono ?_); rintro e wC ⟨rfl, hgwC⟩); have KC := KR.gr hgwC; obtain ⟨lt, k0, k1, k2, f0, f1, f2⟩ := KC; have GC : Gr w wC := hg.trans hgwC; clear KR hg) | ((go_at_call 11; (with_reducible refine (C3.out _ ((by repeat (first | exact Gr.refl _ | refine Gr.setCell ?_ _ _ (by first | exact Nat.le_refl _ | (simp; omega) | (simp; done)) | refine Gr.grown ?_ _ _ | refine Gr.drewN ?_ _ | refine Gr.drew ?_ | refine Gr.alloc ?_ _ | refine Gr.grow ?_ _ | (refine Gr.trans ?_ (by assumption)))))).mono ?_); rintro e wD ⟨rfl, hgwD⟩)))
      go_ret
      exact ⟨rfl, (by repeat (first | exact Gr.refl _ | refine Gr.setCell ?_ _ _ (by first | exact Nat.le_refl _ | (simp; omega) | (simp; done)) | refine Gr.grown ?_ _ _ | refine Gr.drewN ?_ _ | refine Gr.drew ?_ | refine Gr.alloc ?_ _ | refine Gr.grow ?_ _ | (refine Gr.trans ?_ (by assumption))))⟩
    · have hno := HXi.out (by omega)
      clear HXi HYi
      by_cases q1 : b = B
      · subst q1
        by_cases q2 : kd = K
        · subst q2
          have q3 : (c == l) = false := beq_eq_false_iff_ne.2 fun h => hno ⟨rfl, rfl, h⟩
          clear hno HX HY
          go_wp2_with (first | ((go_at_call 14; (with_reducible refine (Ci.out _).mono ?_); rintro e wC ⟨rfl, hgwC⟩); have KC := KR.gr hgwC; have KC2 := KC; obtain ⟨lt, k0, k1, k2, f0, f1, f2⟩ := KC2; have GC : Gr w wC := hg.trans hgwC; clear KR hg))
          go_roundg (M + 1 - (i + 1))
          case measure => omega
          case rel => exact ⟨i + 1, by omega, Nat.le_refl _, (by rw [hnx.out]), by go_num, KC.gr ((Gr.refl _).alloc _), (by repeat (first | exact Gr.refl _ | refine Gr.setCell ?_ _ _ (by first | exact Nat.le_refl _ | (simp; omega) | (simp; done)) | refine Gr.grown ?_ _ _ | refine Gr.drewN ?_ _ | refine Gr.drew ?_ | refine Gr.alloc ?_ _ | refine Gr.grow ?_ _ | (refine Gr.trans ?_ (by assumption))))⟩
        · have q3 : (kd == K) = false := beq_eq_false_iff_ne.2 q2
          clear hno q2 HX HY
          go_wp2_with (first | ((go_at_call 14; (with_reducible refine (Ci.out _).mono ?_); rintro e wC ⟨rfl, hgwC⟩); have KC := KR.gr hgwC; have KC2 := KC; obtain ⟨lt, k0, k1, k2, f0, f1, f2⟩ := KC2; have GC : Gr w wC := hg.trans hgwC; clear KR hg))
          go_roundg (M + 1 - (i + 1))
          case measure => omega
          case rel => exact ⟨i + 1, by omega, Nat.le_refl _, (by rw [hnx.out]), by go_num, KC.gr ((Gr.refl _).alloc _), (by repeat (first | exact Gr.refl _ | refine Gr.setCell ?_ _ _ (by first | exact Nat.le_refl _ | (simp; omega) | (simp; done)) | refine Gr.grown ?_ _ _ | refine Gr.drewN ?_ _ | refine Gr.drew ?_ | refine Gr.alloc ?_ _ | refine Gr.grow ?_ _ | (refine Gr.trans ?_ (by assumption))))⟩
      · have q3 : (b == B) = false := beq_eq_false_iff_ne.2 q1
        clear hno q1 HX HY
        go_wp2_with (first | ((go_at_call 14; (with_reducible refine (Ci.out _).mono ?_); rintro e wC ⟨rfl, hgwC⟩); have KC := KR.gr hgwC; have KC2 := KC; obtain ⟨lt, k0, k1, k2, f0, f1, f2⟩ := KC2; have GC : Gr w wC := hg.trans hgwC; clear KR hg))
        go_roundg (M + 1 - (i + 1))
        case measure => omega
        case rel => exact ⟨i + 1, by omega, Nat.le_refl _, (by rw [hnx.out]), by go_num, KC.gr ((Gr.refl _).alloc _), (by repeat (first | exact Gr.refl _ | refine Gr.setCell ?_ _ _ (by first | exact Nat.le_refl _ | (simp; omega) | (simp; done)) | refine Gr.grown ?_ _ _ | refine Gr.drewN ?_ _ | refine Gr.drew ?_ | refine Gr.alloc ?_ _ | refine Gr.grow ?_ _ | (refine Gr.trans ?_ (by assumption))))⟩
theorem wholeTypes_t (n y : Int) (w : World) (G : GT w) (p : PT w) (w0 : (Lit.int .u8 n).wf = true) (w1 : (Lit.int .u16 y).wf = true) : Calls Tryq.prog 4 #[.int .u8 n, .int .u16 y] w fun e w' => e = .returned (.bool true) ∧ Gr w w' := by
  have b0 : 0 ≤ n ∧ n ≤ 255 := by
    have e0 : IntKind.u8.min = 0 := rfl
    have e1 : IntKind.u8.max = 255 := rfl
    simpa only [Lit.wf, e0, e1, Bool.and_eq_true, decide_eq_true_eq] using w0
  have b1 := u16_of w1
  obtain ⟨k, hk⟩ : ∃ k : Nat, 1 + n % 14 = (k : Int) + 1 := ⟨(n % 14).toNat, by omega⟩
  have hk2 : k < 14 := by omega
  obtain ⟨M, hM, hy, hx⟩ := wt_is (1 + y % 9999) k (by omega) (by omega) hk2
  refine types_core n y (1 + y % 9999) k M w b0.1 b0.2 b1.1 b1.2 hk2 hM (kB k) (kK k) (kL k) hk (fun W hW => by rw [hk]; exact ktype_in k W hk2 (G.gr hW).t) (fun W => ?_) (fun W i => ?_) (fun W hW => awake_c W (G.gr hW) (p.gr hW)) hy hx
  · rw [show wtR (1 + y % 9999) 0 = 1 + y % 9999 from by unfold wtR; omega]; exact topyear_c y W b1.1 b1.2
  · have := wtR_in (1 + y % 9999) i
    exact kof_in _ W this.1 this.2
end Go.Proofs.YtegkbjpcgelomaaGreatDoor.Walks
end
