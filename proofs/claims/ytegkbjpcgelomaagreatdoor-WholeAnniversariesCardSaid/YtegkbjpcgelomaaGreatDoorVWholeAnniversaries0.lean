/- WholeNineteen, walked. -/
import Derived.Test.YtegkbjpcgelomaaGreatDoorZ21
import Derived.Test.YtegkbjpcgelomaaGreatDoorZ14
import Derived.Test.YtegkbjpcgelomaaGreatDoorZ15
import Derived.Test.YtegkbjpcgelomaaGreatDoorZ16
import Derived.Test.YtegkbjpcgelomaaGreatDoorZ17
import Derived.Test.YtegkbjpcgelomaaGreatDoorZ18
set_option linter.unusedVariables false
set_option linter.unusedSimpArgs false
section
namespace Go.Proofs.YtegkbjpcgelomaaGreatDoor.Walks
open Go Go.RowKit Go.Sort Go.Proofs.YtegkbjpcgelomaaGreatDoor.Base Go.Proofs.YtegkbjpcgelomaaGreatDoor.Plain Go.Proofs.YtegkbjpcgelomaaGreatDoor.Math

theorem mo_far (n : Int) : 25920 * (moD (n + 235) - moD n) + moP (n + 235) - moP n = 179876755 := by unfold moD moP; omega
theorem bf_far (k : Int) : bf (k + 19) + 1 - 1 = (bf k + 1 - 1) + 235 := by unfold bf; omega
theorem mo_range {k : Int} (h0 : 0 ≤ k) (h1 : k ≤ 10001) : -10000000 ≤ moD (bf k + 1 - 1) ∧ moD (bf k + 1 - 1) ≤ 10000000 ∧ 0 ≤ moP (bf k + 1 - 1) ∧ moP (bf k + 1 - 1) ≤ 25920 := by
  have := bf_range h0 h1
  unfold moD moP
  omega
set_option maxHeartbeats 4000000 in
theorem nineteen_c (y : Int) (w : World) (G : GT w) (p : PT w) (y0 : 0 ≤ y) (y1 : y ≤ 65535) : Calls Tryq.prog 3 #[.int .u16 y] w fun e w' => e = .returned (.bool true) ∧ Gr w w' := by
  obtain ⟨k, hk⟩ : ∃ k, 1 + y % 9980 = k := ⟨_, rfl⟩
  have k0 : 1 ≤ k := by omega
  have k1 : k ≤ 9980 := by omega
  have m1 := ml_range k
  have m2 := ml_range (k + 19)
  have C1 := Lib.hid fun W => of_in k 1 W (by omega) (by omega) (by omega) (by omega)
  have C2 := Lib.hid fun W => of_in (k + 19) 1 W (by omega) (by omega) (by omega) (by omega)
  have C3 := Lib.hid fun W (hW : Gr w W) => awake_c W (G.gr hW) (p.gr hW)
  have hf := mo_far (bf k + 1 - 1)
  rw [← bf_far] at hf
  have r1 := mo_range (k := k) (by omega) (by omega)
  have r2 := mo_range (k := k + 19) (by omega) (by omega)
  obtain ⟨D, hD⟩ : ∃ D, moD (bf k + 1 - 1) = D := ⟨_, rfl⟩
  obtain ⟨P, hP⟩ : ∃ D, moP (bf k + 1 - 1) = D := ⟨_, rfl⟩
  obtain ⟨A, hA⟩ : ∃ D, moD (bf (k + 19) + 1 - 1) = D := ⟨_, rfl⟩
  obtain ⟨B, hB⟩ : ∃ D, moP (bf (k + 19) + 1 - 1) = D := ⟨_, rfl⟩
  rw [hD, hP] at C1 r1
  rw [hA, hB] at C2 r2
  rw [hA, hB, hD, hP] at hf
  clear hD hP hA hB m1 m2 G p
  obtain ⟨a0, a1, a2, a3⟩ := r1
  obtain ⟨b0, b1, b2, b3⟩ := r2
  have hb : (25920 * (A - D) + B - P == 179876755) = true := beq_iff_eq.2 hf
  go_enter Tryq.func3, Tryq.ntmps3
  go_wp2_with (first | (go_at_call 10; (with_reducible refine (C1.out _).mono ?_); rintro e wA ⟨rfl, hgA⟩; have lA : 0 < wA.heap.size + 1 := Nat.succ_pos _) | (go_at_call 10; (with_reducible refine (C2.out _).mono ?_); rintro e wB ⟨rfl, hgB⟩; have lB : wA.heap.size < wB.heap.size := (by have h := hgB.size; simp at h; omega); have k0 := hgB.keep (b := wA.heap.size) (o := 0) (v := .int .i64 D) (by first | (simp; done) | (simp; omega)) (by simp [go_sem]); have k1 := hgB.keep (b := wA.heap.size) (o := 1) (v := .int .i64 P) (by first | (simp; done) | (simp; omega)) (by simp [go_sem])) | (go_at_call 11; (with_reducible refine (C3.out _ ((by repeat (first | exact Gr.refl _ | refine Gr.setCell ?_ _ _ (by first | exact Nat.le_refl _ | (simp; omega) | (simp; done)) | refine Gr.grown ?_ _ _ | refine Gr.drewN ?_ _ | refine Gr.drew ?_ | refine Gr.alloc ?_ _ | refine Gr.grow ?_ _ | (refine Gr.trans ?_ (by assumption)))))).mono ?_); rintro e wC ⟨rfl, hgC⟩))

  go_ret
  exact ⟨rfl, (by repeat (first | exact Gr.refl _ | refine Gr.setCell ?_ _ _ (by first | exact Nat.le_refl _ | (simp; omega) | (simp; done)) | refine Gr.grown ?_ _ _ | refine Gr.drewN ?_ _ | refine Gr.drew ?_ | refine Gr.alloc ?_ _ | refine Gr.grow ?_ _ | (refine Gr.trans ?_ (by assumption))))⟩
theorem u16_of {a : Int} (h : (Lit.int .u16 a).wf = true) : 0 ≤ a ∧ a ≤ 65535 := by
  have e0 : IntKind.u16.min = 0 := rfl
  have e1 : IntKind.u16.max = 65535 := rfl
  simpa only [Lit.wf, e0, e1, Bool.and_eq_true, decide_eq_true_eq] using h
theorem wholeNineteen_t (y : Int) (w : World) (G : GT w) (p : PT w) (h : (Lit.int .u16 y).wf = true) : Calls Tryq.prog 3 #[.int .u16 y] w fun e w' => e = .returned (.bool true) ∧ Gr w w' :=
  nineteen_c y w G p (u16_of h).1 (u16_of h).2
end Go.Proofs.YtegkbjpcgelomaaGreatDoor.Walks
end
/- WholeYears, walked. -/
section
namespace Go.Proofs.YtegkbjpcgelomaaGreatDoor.Walks
open Go Go.RowKit Go.Sort Go.Proofs.YtegkbjpcgelomaaGreatDoor.Base Go.Proofs.YtegkbjpcgelomaaGreatDoor.Plain Go.Proofs.YtegkbjpcgelomaaGreatDoor.Math

theorem tnum_all : allB (fun k => knum (kB k) (kK k) (kL k) == (k : Int) + 1) 14 = true := by decide
theorem tnum_at {k : Nat} (hk : k < 14) : knum (kB k) (kK k) (kL k) = (k : Int) + 1 := beq_iff_eq.1 (allB_at tnum_all k hk)
theorem topyear_c (y : Int) (w : World) (y0 : 0 ≤ y) (y1 : y ≤ 65535) : Calls Tryq.prog 13 #[.int .u16 y] w fun e w' => e = .returned (.int .i64 (1 + y % 9999)) ∧ Gr w w' := by
  go_enter Tryq.func13, Tryq.ntmps13
  go_wp2
  exact bodyPost_ret (v := .int .i64 (1 + y % 9999)) (by simp [results, Tryz.results13, go_sem, *]) rfl ⟨rfl, (by repeat (first | exact Gr.refl _ | refine Gr.setCell ?_ _ _ (by first | exact Nat.le_refl _ | (simp; omega) | (simp; done)) | refine Gr.grown ?_ _ _ | refine Gr.drewN ?_ _ | refine Gr.drew ?_ | refine Gr.alloc ?_ _ | refine Gr.grow ?_ _ | (refine Gr.trans ?_ (by assumption))))⟩
set_option maxRecDepth 20000 in
set_option maxHeartbeats 4000000 in
theorem years_core_f (y A L B K D P N d1 d2 : Int) (w : World) (y0 : 0 ≤ y) (y1 : y ≤ 65535) (a0 : -7300000 ≤ A) (a1 : A ≤ 4540000) (l0 : 353 ≤ L) (l1 : L ≤ 355) (n0 : 1 ≤ N) (n1 : N ≤ 14) (D0 : D ≤ A) (D1 : A - D ≤ 2)
    (c0 : ∀ W, Calls Tryq.prog 13 #[.int .u16 y] W fun e w' => e = .returned (.int .i64 (1 + y % 9999)) ∧ Gr W w')
    (c1 : ∀ W, Calls Tryq.prog 15 #[.int .i64 (1 + y % 9999)] W fun e w' => e = .returned (.tuple #[.int .i64 A, .int .i64 0]) ∧ Gr W w')
    (c2 : ∀ W, Calls Tryq.prog 16 #[.int .i64 (1 + y % 9999)] W fun e w' => e = .returned (.tuple #[.int .i64 A, .int .i64 0]) ∧ Gr W w')
    (c3 : ∀ W, Calls Tryq.prog 17 #[.int .i64 (1 + y % 9999)] W fun e w' => e = .returned (.tuple #[.int .i64 L, .int .i64 0]) ∧ Gr W w')
    (c4 : ∀ W, Calls Tryq.prog 14 #[.int .i64 (1 + y % 9999)] W fun e w' => e = .returned (.tuple #[.agg #[.int .i64 B, .int .i64 K, .bool false], .int .i64 0]) ∧ Gr W w')
    (c5 : ∀ W, Calls Tryq.prog 18 #[.int .i64 (1 + y % 9999)] W fun e w' => e = .returned (.tuple #[.bool false, .int .i64 0]) ∧ Gr W w')
    (c6 : ∀ W, Calls Tryq.prog 10 #[.int .i64 (1 + y % 9999), .int .i64 1] W fun e w' => e = .returned (.tuple #[.agg #[.int .i64 D, .int .i64 P], .int .i64 0]) ∧ Gr W w')
    (c7 : ∀ W, Calls Tryq.prog 19 #[.int .i64 A] W fun e w' => e = .returned (.int .i64 B) ∧ Gr W w')
    (c8 : ∀ W, Gr w W → Calls Tryq.prog 11 #[] W fun e w' => e = .returned (.bool true) ∧ Gr W w')
    (c9 : ∀ W, Gr w W → Calls Tryq.prog 20 #[.agg #[.int .i64 B, .int .i64 K, .bool false]] W fun e w' => e = .returned (.int .i64 N) ∧ Gr W w')
    (cA : ∀ W, Gr w W → Calls Tryq.prog 21 #[.agg #[.int .i64 B, .int .i64 K, .bool false], .int .i64 2] W fun e w' => e = .returned (.int .i64 d1) ∧ Gr W w')
    (cB : ∀ W, Gr w W → Calls Tryq.prog 21 #[.agg #[.int .i64 B, .int .i64 K, .bool false], .int .i64 3] W fun e w' => e = .returned (.int .i64 d2) ∧ Gr W w')
    (w1 : (B == 0) = false) (w2 : (B == 3) = false) (w3 : (B == 5) = false) (v1 : ¬ B = 0) (v2 : ¬ B = 3) (v3 : ¬ B = 5) (u1 : (B != 0) = true) (u2 : (B != 3) = true) (u3 : (B != 5) = true)
    (q1 : (K == L - 353) = true) (q2 : ((d1 == 30) == (L == 355)) = true) (q3 : ((d2 == 29) == (L == 353)) = true) :
    Calls Tryq.prog 5 #[.int .u16 y] w fun e w' => e = .returned (.bool true) ∧ Gr w w' := by
  have C0 := Lib.hid c0
  have C1 := Lib.hid c1
  have C2 := Lib.hid c2
  have C3 := Lib.hid c3
  have C4 := Lib.hid c4
  have C5 := Lib.hid c5
  have C6 := Lib.hid c6
  have C7 := Lib.hid c7
  have C8 := Lib.hid c8
  have C9 := Lib.hid c9
  have CA := Lib.hid cA
  have CB := Lib.hid cB
  clear c0 c1 c2 c3 c4 c5 c6 c7 c8 c9 cA cB
  go_enter Tryq.func5, Tryq.ntmps5
  go_wp2_with (first | (go_at_call 13; (with_reducible refine (C0.out _).mono ?_); rintro e wY ⟨rfl, hgwY⟩; obtain ⟨hclwY, hfzwY, hszwY⟩ := gcell hgwY; (try simp [Nat.add_one_le_iff] at hszwY)) | (go_at_call 15; (with_reducible refine (C1.out _).mono ?_); rintro e wA ⟨rfl, hgwA⟩; obtain ⟨hclwA, hfzwA, hszwA⟩ := gcell hgwA; (try simp [Nat.add_one_le_iff] at hszwA)) | (go_at_call 16; (with_reducible refine (C2.out _).mono ?_); rintro e wB ⟨rfl, hgwB⟩; obtain ⟨hclwB, hfzwB, hszwB⟩ := gcell hgwB; (try simp [Nat.add_one_le_iff] at hszwB)) | (go_at_call 17; (with_reducible refine (C3.out _).mono ?_); rintro e wC ⟨rfl, hgwC⟩; obtain ⟨hclwC, hfzwC, hszwC⟩ := gcell hgwC; (try simp [Nat.add_one_le_iff] at hszwC)) | (go_at_call 14; (with_reducible refine (C4.out _).mono ?_); rintro e wD ⟨rfl, hgwD⟩; obtain ⟨hclwD, hfzwD, hszwD⟩ := gcell hgwD; (try simp [Nat.add_one_le_iff] at hszwD)) | (go_at_call 18; (with_reducible refine (C5.out _).mono ?_); rintro e wE ⟨rfl, hgwE⟩; obtain ⟨hclwE, hfzwE, hszwE⟩ := gcell hgwE; (try simp [Nat.add_one_le_iff] at hszwE); have hlwE_wD : wD.heap.size < wE.heap.size := (by omega)) | (go_at_call 10; (with_reducible refine (C6.out _).mono ?_); rintro e wF ⟨rfl, hgwF⟩; obtain ⟨hclwF, hfzwF, hszwF⟩ := gcell hgwF; (try simp [Nat.add_one_le_iff] at hszwF); have hlwF_wD : wD.heap.size < wF.heap.size := (by omega)) | (go_at_call 19; (with_reducible refine (C7.out _).mono ?_); rintro e wG ⟨rfl, hgwG⟩; obtain ⟨hclwG, hfzwG, hszwG⟩ := gcell hgwG; (try simp [Nat.add_one_le_iff] at hszwG); have hlwG_wD : wD.heap.size < wG.heap.size := (by omega); have hlwG_wF : wF.heap.size < wG.heap.size := (by omega)) | (go_at_call 11; (with_reducible refine (C8.out _ ((by repeat (first | exact Gr.refl _ | refine Gr.setCell ?_ _ _ (by first | exact Nat.le_refl _ | (simp; omega) | (simp; done)) | refine Gr.grown ?_ _ _ | refine Gr.drewN ?_ _ | refine Gr.drew ?_ | refine Gr.alloc ?_ _ | refine Gr.grow ?_ _ | (refine Gr.trans ?_ (by assumption)))))).mono ?_); rintro e wH ⟨rfl, hgwH⟩; obtain ⟨hclwH, hfzwH, hszwH⟩ := gcell hgwH; (try simp [Nat.add_one_le_iff] at hszwH); have hlwH_wD : wD.heap.size < wH.heap.size := (by omega); have hlwH_wF : wF.heap.size < wH.heap.size := (by omega)) | (go_at_call 20; (with_reducible refine (C9.out _ ((by repeat (first | exact Gr.refl _ | refine Gr.setCell ?_ _ _ (by first | exact Nat.le_refl _ | (simp; omega) | (simp; done)) | refine Gr.grown ?_ _ _ | refine Gr.drewN ?_ _ | refine Gr.drew ?_ | refine Gr.alloc ?_ _ | refine Gr.grow ?_ _ | (refine Gr.trans ?_ (by assumption)))))).mono ?_); rintro e wI ⟨rfl, hgwI⟩; obtain ⟨hclwI, hfzwI, hszwI⟩ := gcell hgwI; (try simp [Nat.add_one_le_iff] at hszwI); have hlwI_wD : wD.heap.size < wI.heap.size := (by omega); have hlwI_wF : wF.heap.size < wI.heap.size := (by omega)) | (go_at_call 21; (with_reducible refine (CA.out _ ((by repeat (first | exact Gr.refl _ | refine Gr.setCell ?_ _ _ (by first | exact Nat.le_refl _ | (simp; omega) | (simp; done)) | refine Gr.grown ?_ _ _ | refine Gr.drewN ?_ _ | refine Gr.drew ?_ | refine Gr.alloc ?_ _ | refine Gr.grow ?_ _ | (refine Gr.trans ?_ (by assumption)))))).mono ?_); rintro e wJ ⟨rfl, hgwJ⟩; obtain ⟨hclwJ, hfzwJ, hszwJ⟩ := gcell hgwJ; (try simp [Nat.add_one_le_iff] at hszwJ); have hlwJ_wD : wD.heap.size < wJ.heap.size := (by omega); have hlwJ_wF : wF.heap.size < wJ.heap.size := (by omega)) | (go_at_call 21; (with_reducible refine (CB.out _ ((by repeat (first | exact Gr.refl _ | refine Gr.setCell ?_ _ _ (by first | exact Nat.le_refl _ | (simp; omega) | (simp; done)) | refine Gr.grown ?_ _ _ | refine Gr.drewN ?_ _ | refine Gr.drew ?_ | refine Gr.alloc ?_ _ | refine Gr.grow ?_ _ | (refine Gr.trans ?_ (by assumption)))))).mono ?_); rintro e wK ⟨rfl, hgwK⟩; obtain ⟨hclwK, hfzwK, hszwK⟩ := gcell hgwK; (try simp [Nat.add_one_le_iff] at hszwK); have hlwK_wD : wD.heap.size < wK.heap.size := (by omega); have hlwK_wF : wF.heap.size < wK.heap.size := (by omega)))
  go_ret
  exact ⟨rfl, (by repeat (first | exact Gr.refl _ | refine Gr.setCell ?_ _ _ (by first | exact Nat.le_refl _ | (simp; omega) | (simp; done)) | refine Gr.grown ?_ _ _ | refine Gr.drewN ?_ _ | refine Gr.drew ?_ | refine Gr.alloc ?_ _ | refine Gr.grow ?_ _ | (refine Gr.trans ?_ (by assumption))))⟩

set_option maxRecDepth 20000 in
set_option maxHeartbeats 4000000 in
theorem years_core_t (y A L B K D P N d1 d2 : Int) (w : World) (y0 : 0 ≤ y) (y1 : y ≤ 65535) (a0 : -7300000 ≤ A) (a1 : A ≤ 4540000) (l0 : 353 ≤ L - 30) (l1 : L - 30 ≤ 355) (n0 : 1 ≤ N) (n1 : N ≤ 14) (D0 : D ≤ A) (D1 : A - D ≤ 2)
    (c0 : ∀ W, Calls Tryq.prog 13 #[.int .u16 y] W fun e w' => e = .returned (.int .i64 (1 + y % 9999)) ∧ Gr W w')
    (c1 : ∀ W, Calls Tryq.prog 15 #[.int .i64 (1 + y % 9999)] W fun e w' => e = .returned (.tuple #[.int .i64 A, .int .i64 0]) ∧ Gr W w')
    (c2 : ∀ W, Calls Tryq.prog 16 #[.int .i64 (1 + y % 9999)] W fun e w' => e = .returned (.tuple #[.int .i64 A, .int .i64 0]) ∧ Gr W w')
    (c3 : ∀ W, Calls Tryq.prog 17 #[.int .i64 (1 + y % 9999)] W fun e w' => e = .returned (.tuple #[.int .i64 L, .int .i64 0]) ∧ Gr W w')
    (c4 : ∀ W, Calls Tryq.prog 14 #[.int .i64 (1 + y % 9999)] W fun e w' => e = .returned (.tuple #[.agg #[.int .i64 B, .int .i64 K, .bool true], .int .i64 0]) ∧ Gr W w')
    (c5 : ∀ W, Calls Tryq.prog 18 #[.int .i64 (1 + y % 9999)] W fun e w' => e = .returned (.tuple #[.bool true, .int .i64 0]) ∧ Gr W w')
    (c6 : ∀ W, Calls Tryq.prog 10 #[.int .i64 (1 + y % 9999), .int .i64 1] W fun e w' => e = .returned (.tuple #[.agg #[.int .i64 D, .int .i64 P], .int .i64 0]) ∧ Gr W w')
    (c7 : ∀ W, Calls Tryq.prog 19 #[.int .i64 A] W fun e w' => e = .returned (.int .i64 B) ∧ Gr W w')
    (c8 : ∀ W, Gr w W → Calls Tryq.prog 11 #[] W fun e w' => e = .returned (.bool true) ∧ Gr W w')
    (c9 : ∀ W, Gr w W → Calls Tryq.prog 20 #[.agg #[.int .i64 B, .int .i64 K, .bool true]] W fun e w' => e = .returned (.int .i64 N) ∧ Gr W w')
    (cA : ∀ W, Gr w W → Calls Tryq.prog 21 #[.agg #[.int .i64 B, .int .i64 K, .bool true], .int .i64 2] W fun e w' => e = .returned (.int .i64 d1) ∧ Gr W w')
    (cB : ∀ W, Gr w W → Calls Tryq.prog 21 #[.agg #[.int .i64 B, .int .i64 K, .bool true], .int .i64 3] W fun e w' => e = .returned (.int .i64 d2) ∧ Gr W w')
    (w1 : (B == 0) = false) (w2 : (B == 3) = false) (w3 : (B == 5) = false) (v1 : ¬ B = 0) (v2 : ¬ B = 3) (v3 : ¬ B = 5) (u1 : (B != 0) = true) (u2 : (B != 3) = true) (u3 : (B != 5) = true)
    (q1 : (K == L - 30 - 353) = true) (q2 : ((d1 == 30) == (L - 30 == 355)) = true) (q3 : ((d2 == 29) == (L - 30 == 353)) = true) :
    Calls Tryq.prog 5 #[.int .u16 y] w fun e w' => e = .returned (.bool true) ∧ Gr w w' := by
  have C0 := Lib.hid c0
  have C1 := Lib.hid c1
  have C2 := Lib.hid c2
  have C3 := Lib.hid c3
  have C4 := Lib.hid c4
  have C5 := Lib.hid c5
  have C6 := Lib.hid c6
  have C7 := Lib.hid c7
  have C8 := Lib.hid c8
  have C9 := Lib.hid c9
  have CA := Lib.hid cA
  have CB := Lib.hid cB
  clear c0 c1 c2 c3 c4 c5 c6 c7 c8 c9 cA cB
  go_enter Tryq.func5, Tryq.ntmps5
  go_wp2_with (first | (go_at_call 13; (with_reducible refine (C0.out _).mono ?_); rintro e wY ⟨rfl, hgwY⟩; obtain ⟨hclwY, hfzwY, hszwY⟩ := gcell hgwY; (try simp [Nat.add_one_le_iff] at hszwY)) | (go_at_call 15; (with_reducible refine (C1.out _).mono ?_); rintro e wA ⟨rfl, hgwA⟩; obtain ⟨hclwA, hfzwA, hszwA⟩ := gcell hgwA; (try simp [Nat.add_one_le_iff] at hszwA)) | (go_at_call 16; (with_reducible refine (C2.out _).mono ?_); rintro e wB ⟨rfl, hgwB⟩; obtain ⟨hclwB, hfzwB, hszwB⟩ := gcell hgwB; (try simp [Nat.add_one_le_iff] at hszwB)) | (go_at_call 17; (with_reducible refine (C3.out _).mono ?_); rintro e wC ⟨rfl, hgwC⟩; obtain ⟨hclwC, hfzwC, hszwC⟩ := gcell hgwC; (try simp [Nat.add_one_le_iff] at hszwC)) | (go_at_call 14; (with_reducible refine (C4.out _).mono ?_); rintro e wD ⟨rfl, hgwD⟩; obtain ⟨hclwD, hfzwD, hszwD⟩ := gcell hgwD; (try simp [Nat.add_one_le_iff] at hszwD)) | (go_at_call 18; (with_reducible refine (C5.out _).mono ?_); rintro e wE ⟨rfl, hgwE⟩; obtain ⟨hclwE, hfzwE, hszwE⟩ := gcell hgwE; (try simp [Nat.add_one_le_iff] at hszwE); have hlwE_wD : wD.heap.size < wE.heap.size := (by omega)) | (go_at_call 10; (with_reducible refine (C6.out _).mono ?_); rintro e wF ⟨rfl, hgwF⟩; obtain ⟨hclwF, hfzwF, hszwF⟩ := gcell hgwF; (try simp [Nat.add_one_le_iff] at hszwF); have hlwF_wD : wD.heap.size < wF.heap.size := (by omega)) | (go_at_call 19; (with_reducible refine (C7.out _).mono ?_); rintro e wG ⟨rfl, hgwG⟩; obtain ⟨hclwG, hfzwG, hszwG⟩ := gcell hgwG; (try simp [Nat.add_one_le_iff] at hszwG); have hlwG_wD : wD.heap.size < wG.heap.size := (by omega); have hlwG_wF : wF.heap.size < wG.heap.size := (by omega)) | (go_at_call 11; (with_reducible refine (C8.out _ ((by repeat (first | exact Gr.refl _ | refine Gr.setCell ?_ _ _ (by first | exact Nat.le_refl _ | (simp; omega) | (simp; done)) | refine Gr.grown ?_ _ _ | refine Gr.drewN ?_ _ | refine Gr.drew ?_ | refine Gr.alloc ?_ _ | refine Gr.grow ?_ _ | (refine Gr.trans ?_ (by assumption)))))).mono ?_); rintro e wH ⟨rfl, hgwH⟩; obtain ⟨hclwH, hfzwH, hszwH⟩ := gcell hgwH; (try simp [Nat.add_one_le_iff] at hszwH); have hlwH_wD : wD.heap.size < wH.heap.size := (by omega); have hlwH_wF : wF.heap.size < wH.heap.size := (by omega)) | (go_at_call 20; (with_reducible refine (C9.out _ ((by repeat (first | exact Gr.refl _ | refine Gr.setCell ?_ _ _ (by first | exact Nat.le_refl _ | (simp; omega) | (simp; done)) | refine Gr.grown ?_ _ _ | refine Gr.drewN ?_ _ | refine Gr.drew ?_ | refine Gr.alloc ?_ _ | refine Gr.grow ?_ _ | (refine Gr.trans ?_ (by assumption)))))).mono ?_); rintro e wI ⟨rfl, hgwI⟩; obtain ⟨hclwI, hfzwI, hszwI⟩ := gcell hgwI; (try simp [Nat.add_one_le_iff] at hszwI); have hlwI_wD : wD.heap.size < wI.heap.size := (by omega); have hlwI_wF : wF.heap.size < wI.heap.size := (by omega)) | (go_at_call 21; (with_reducible refine (CA.out _ ((by repeat (first | exact Gr.refl _ | refine Gr.setCell ?_ _ _ (by first | exact Nat.le_refl _ | (simp; omega) | (simp; done)) | refine Gr.grown ?_ _ _ | refine Gr.drewN ?_ _ | refine Gr.drew ?_ | refine Gr.alloc ?_ _ | refine Gr.grow ?_ _ | (refine Gr.trans ?_ (by assumption)))))).mono ?_); rintro e wJ ⟨rfl, hgwJ⟩; obtain ⟨hclwJ, hfzwJ, hszwJ⟩ := gcell hgwJ; (try simp [Nat.add_one_le_iff] at hszwJ); have hlwJ_wD : wD.heap.size < wJ.heap.size := (by omega); have hlwJ_wF : wF.heap.size < wJ.heap.size := (by omega)) | (go_at_call 21; (with_reducible refine (CB.out _ ((by repeat (first | exact Gr.refl _ | refine Gr.setCell ?_ _ _ (by first | exact Nat.le_refl _ | (simp; omega) | (simp; done)) | refine Gr.grown ?_ _ _ | refine Gr.drewN ?_ _ | refine Gr.drew ?_ | refine Gr.alloc ?_ _ | refine Gr.grow ?_ _ | (refine Gr.trans ?_ (by assumption)))))).mono ?_); rintro e wK ⟨rfl, hgwK⟩; obtain ⟨hclwK, hfzwK, hszwK⟩ := gcell hgwK; (try simp [Nat.add_one_le_iff] at hszwK); have hlwK_wD : wD.heap.size < wK.heap.size := (by omega); have hlwK_wF : wF.heap.size < wK.heap.size := (by omega)))
  go_ret
  exact ⟨rfl, (by repeat (first | exact Gr.refl _ | refine Gr.setCell ?_ _ _ (by first | exact Nat.le_refl _ | (simp; omega) | (simp; done)) | refine Gr.grown ?_ _ _ | refine Gr.drewN ?_ _ | refine Gr.drew ?_ | refine Gr.alloc ?_ _ | refine Gr.grow ?_ _ | (refine Gr.trans ?_ (by assumption))))⟩

theorem wholeYears_t (y : Int) (w : World) (G : GT w) (p : PT w) (w0 : (Lit.int .u16 y).wf = true) : Calls Tryq.prog 5 #[.int .u16 y] w fun e w' => e = .returned (.bool true) ∧ Gr w w' := by
  have h0 := u16_of w0
  obtain ⟨n, hn⟩ : ∃ n, 1 + y % 9999 = n := ⟨_, rfl⟩
  have n0 : 1 ≤ n := by omega
  have n1 : n ≤ 9999 := by omega
  obtain ⟨i, hi, e1, e2, e3⟩ := ky_in n0 n1
  have rA := fy_range (y := n) (by omega) (by omega)
  have rL := kln_range n0 n1
  have rk := kk_leap n0 n1
  have hK : knum (kb n) (kk n) (lp n) = (i : Int) + 1 := by rw [e1, e2, e3]; exact tnum_at hi
  have hN : mN (kb n) (kk n) (lp n) = mct (lp n) := by unfold mN; rw [if_pos (by omega)]
  have hm := mct_le (lp n)
  have hB : kb n = 1 ∨ kb n = 2 ∨ kb n = 4 ∨ kb n = 6 := by
    rw [e1]
    have : i = 0 ∨ i = 1 ∨ i = 2 ∨ i = 3 ∨ i = 4 ∨ i = 5 ∨ i = 6 ∨ i = 7 ∨ i = 8 ∨ i = 9 ∨ i = 10 ∨ i = 11 ∨ i = 12 ∨ i = 13 := by omega
    rcases this with rfl | rfl | rfl | rfl | rfl | rfl | rfl | rfl | rfl | rfl | rfl | rfl | rfl | rfl <;> decide
  have hD : moD (bf n + 1 - 1) ≤ fy n ∧ fy n - moD (bf n + 1 - 1) ≤ 2 := by
    have := dly_range (moD (bf n)) (moP (bf n)) (lp n) (lp (n - 1))
    rw [show bf n + 1 - 1 = bf n from by omega]
    unfold fy
    omega
  have m1 : 1 ≤ ml n := by have := ml_range n; omega
  have C1 : ∀ W, Calls Tryq.prog 15 #[.int .i64 (1 + y % 9999)] W fun e w' => e = .returned (.tuple #[.int .i64 (fy n), .int .i64 0]) ∧ Gr W w' := fun W => by rw [hn]; exact first_in n W (by omega) (by omega)
  have C2 : ∀ W, Calls Tryq.prog 16 #[.int .i64 (1 + y % 9999)] W fun e w' => e = .returned (.tuple #[.int .i64 (fy n), .int .i64 0]) ∧ Gr W w' := fun W => by
    have h := cFirst_c n W
    rw [hn]
    rwa [show fyN n = fy n from fyN_in (by omega) (by omega), show yE n = 0 from yE_in (by omega) (by omega)] at h
  have C3 : ∀ W, Calls Tryq.prog 17 #[.int .i64 (1 + y % 9999)] W fun e w' => e = .returned (.tuple #[.int .i64 (kln n), .int .i64 0]) ∧ Gr W w' := fun W => by rw [hn]; exact klong_in n W n0 n1
  have C4 : ∀ W, Calls Tryq.prog 14 #[.int .i64 (1 + y % 9999)] W fun e w' => e = .returned (.tuple #[.agg #[.int .i64 (kb n), .int .i64 (kk n), .bool (lp n)], .int .i64 0]) ∧ Gr W w' := fun W => by rw [hn]; exact kof_in n W n0 n1
  have C5 : ∀ W, Calls Tryq.prog 18 #[.int .i64 (1 + y % 9999)] W fun e w' => e = .returned (.tuple #[.bool (lp n), .int .i64 0]) ∧ Gr W w' := fun W => by rw [hn]; exact leap_in n W (by omega) (by omega)
  have C6 : ∀ W, Calls Tryq.prog 10 #[.int .i64 (1 + y % 9999), .int .i64 1] W fun e w' => e = .returned (.tuple #[.agg #[.int .i64 (moD (bf n + 1 - 1)), .int .i64 (moP (bf n + 1 - 1))], .int .i64 0]) ∧ Gr W w' := fun W => by rw [hn]; exact of_in n 1 W (by omega) (by omega) (by omega) m1
  have C7 : ∀ W, Calls Tryq.prog 19 #[.int .i64 (fy n)] W fun e w' => e = .returned (.int .i64 (kb n)) ∧ Gr W w' := fun W => wd_c (fy n) W (by omega) (by omega)
  have C8 : ∀ W, Gr w W → Calls Tryq.prog 11 #[] W fun e w' => e = .returned (.bool true) ∧ Gr W w' := fun W hW => awake_c W (G.gr hW) (p.gr hW)
  have C9 : ∀ W, Gr w W → Calls Tryq.prog 20 #[.agg #[.int .i64 (kb n), .int .i64 (kk n), .bool (lp n)]] W fun e w' => e = .returned (.int .i64 ((i : Int) + 1)) ∧ Gr W w' := fun W hW => by
    have := knumber_c (kb n) (kk n) (lp n) W (G.gr hW).t; rwa [hK] at this
  have CA : ∀ W, Gr w W → Calls Tryq.prog 21 #[.agg #[.int .i64 (kb n), .int .i64 (kk n), .bool (lp n)], .int .i64 2] W fun e w' => e = .returned (.int .i64 (mlen (kk n) (lp n) 1)) ∧ Gr W w' := fun W hW => mdays_in (kb n) (kk n) (lp n) 1 W (G.gr hW) (by omega)
  have CB : ∀ W, Gr w W → Calls Tryq.prog 21 #[.agg #[.int .i64 (kb n), .int .i64 (kk n), .bool (lp n)], .int .i64 3] W fun e w' => e = .returned (.int .i64 (mlen (kk n) (lp n) 2)) ∧ Gr W w' := fun W hW => mdays_in (kb n) (kk n) (lp n) 2 W (G.gr hW) (by omega)
  clear hn hK hN e1 e2 e3 G p
  obtain ⟨k1, k2, k3⟩ := rk
  have nb : ∀ {x : Int}, ¬ kb n = x → (kb n == x) = false ∧ (kb n != x) = true := fun h => ⟨by simpa using h, by simpa using h⟩
  have z0 : ¬ kb n = 0 := by omega
  have z3 : ¬ kb n = 3 := by omega
  have z5 : ¬ kb n = 5 := by omega
  have hk : kk n = 0 ∨ kk n = 1 ∨ kk n = 2 := by omega
  generalize hl : lp n = l at *
  generalize kb n = B at *
  generalize kk n = K at *
  generalize kln n = L at *
  cases l
  · simp only [Bool.false_eq_true, if_false, Int.add_zero] at k1
    refine years_core_f y (fy n) L B K _ _ _ _ _ w h0.1 h0.2 rA.1 rA.2 (by omega) (by omega) (by omega) (by omega) hD.1 hD.2 (fun W => topyear_c y W h0.1 h0.2) C1 C2 C3 C4 C5 C6 C7 C8 C9 CA CB (nb z0).1 (nb z3).1 (nb z5).1 z0 z3 z5 (nb z0).2 (nb z3).2 (nb z5).2 (by rw [beq_iff_eq]; omega) ?_ ?_
    · obtain rfl : L = K + 353 := by omega
      rcases hk with rfl | rfl | rfl <;> decide
    · obtain rfl : L = K + 353 := by omega
      rcases hk with rfl | rfl | rfl <;> decide
  · simp only [if_true] at k1
    refine years_core_t y (fy n) L B K _ _ _ _ _ w h0.1 h0.2 rA.1 rA.2 (by omega) (by omega) (by omega) (by omega) hD.1 hD.2 (fun W => topyear_c y W h0.1 h0.2) C1 C2 C3 C4 C5 C6 C7 C8 C9 CA CB (nb z0).1 (nb z3).1 (nb z5).1 z0 z3 z5 (nb z0).2 (nb z3).2 (nb z5).2 (by rw [beq_iff_eq]; omega) ?_ ?_
    · obtain rfl : L = K + 383 := by omega
      rcases hk with rfl | rfl | rfl <;> decide
    · obtain rfl : L = K + 383 := by omega
      rcases hk with rfl | rfl | rfl <;> decide
end Go.Proofs.YtegkbjpcgelomaaGreatDoor.Walks
end
/- Walks of package shift: a code brought into a year, the month so many months away, a day fitted into a month. -/
section
namespace Go.Proofs.YtegkbjpcgelomaaGreatDoor.Walks
open Go Go.RowKit Go.Sort Go.Proofs.YtegkbjpcgelomaaGreatDoor.Base Go.Proofs.YtegkbjpcgelomaaGreatDoor.Plain Go.Proofs.YtegkbjpcgelomaaGreatDoor.Math

theorem sleap_c (y : Int) (w : World) : Calls Tryq.prog 96 #[.int .i64 y] w fun e w' => e = .returned (.bool (lpN y)) ∧ Gr w w' := by
  go_enter Tryq.func96, Tryq.ntmps96
  go_wp2_with (first | (go_at_call 18; (with_reducible refine (leap_c y _).mono ?_); rintro e wA ⟨rfl, hgwA⟩))
  go_ret
  exact ⟨rfl, (by repeat (first | exact Gr.refl _ | refine Gr.setCell ?_ _ _ (by first | exact Nat.le_refl _ | (simp; omega) | (simp; done)) | refine Gr.grown ?_ _ _ | refine Gr.drewN ?_ _ | refine Gr.drew ?_ | refine Gr.alloc ?_ _ | refine Gr.grow ?_ _ | (refine Gr.trans ?_ (by assumption))))⟩
theorem sleap_in (y : Int) (w : World) (h0 : 0 ≤ y) (h1 : y ≤ 10001) : Calls Tryq.prog 96 #[.int .i64 y] w fun e w' => e = .returned (.bool (lp y)) ∧ Gr w w' := by
  have := sleap_c y w
  rwa [lpN_in h0 h1] at this

/-- The error, and the code, of a code brought into a year. -/
def inE (y n : Int) (c : Bool) (m : Int) : Int :=
  if m = 0 ∨ m = 1 then (if 1 ≤ y ∧ y ≤ 9999 then (if cR n c = true then (if cHas (lp y) n c = true then 0 else if m = 1 then 7 else 0) else 3) else 2) else 1
def inNum (y n : Int) (c : Bool) (m : Int) : Int := if inE y n c m = 0 then (if cHas (lp y) n c = true then n else n + 1) else 0
def inLp (y n : Int) (c : Bool) (m : Int) : Bool := if inE y n c m = 0 then (if cHas (lp y) n c = true then c else false) else false

/-- A code's box and a result's, laid ahead. -/
structure ZC (w : World) (b : Nat) : Prop where
  lt : b < w.heap.size
  c0 : w.cell? ⟨b, 0, none⟩ = some (.int .i64 0)
  c1 : w.cell? ⟨b, 1, none⟩ = some (.bool false)
  f0 : w.frozen? ⟨b, 0, none⟩ = false
  f1 : w.frozen? ⟨b, 1, none⟩ = false
theorem ZC.gr {w w' : World} {b : Nat} (h : ZC w b) (g : Gr w w') : ZC w' b := ⟨g.lt h.lt, g.keep h.lt h.c0, g.keep h.lt h.c1, g.thaw h.lt h.f0, g.thaw h.lt h.f1⟩
theorem ZC.new (w : World) : ZC (w.alloc (.cells #[.int .i64 0, .bool false] 46)) w.heap.size := ⟨by simp, by simp [go_sem], by simp [go_sem], by simp [go_sem], by simp [go_sem]⟩
theorem ZC.at {w : World} {b : Nat} (h : w.heap.size = b) : ZC (w.alloc (.cells #[.int .i64 0, .bool false] 46)) b := by subst h; exact ZC.new w

set_option maxHeartbeats 2000000 in
theorem sinto_mode (y n m : Int) (c : Bool) (w : World) (h : m ≠ 0 ∧ m ≠ 1) :
    Calls Tryq.prog 61 #[.int .i64 y, .agg #[.int .i64 n, .bool c], .int .i64 m] w fun e w' => e = .returned (.tuple #[.agg #[.int .i64 0, .bool false], .int .i64 1]) ∧ Gr w w' := by
  have q0 : (m == 0) = false := beq_eq_false_iff_ne.2 h.1
  have q1 : (m == 1) = false := beq_eq_false_iff_ne.2 h.2
  have p0 : (m != 0) = true := bne_iff_ne.2 h.1
  have p1 : (m != 1) = true := bne_iff_ne.2 h.2
  clear h
  go_enter Tryq.func61, Tryq.ntmps61
  go_wp2
  exact bodyPost_ret (v := .tuple #[.agg #[.int .i64 0, .bool false], .int .i64 1]) (by simp [results, Tryz.results61, go_sem, *]) rfl ⟨rfl, (by repeat (first | exact Gr.refl _ | refine Gr.setCell ?_ _ _ (by first | exact Nat.le_refl _ | (simp; omega) | (simp; done)) | refine Gr.grown ?_ _ _ | refine Gr.drewN ?_ _ | refine Gr.drew ?_ | refine Gr.alloc ?_ _ | refine Gr.grow ?_ _ | (refine Gr.trans ?_ (by assumption))))⟩
set_option maxHeartbeats 2000000 in
theorem sinto_y (y n m : Int) (c : Bool) (w : World) (h : m = 0 ∨ m = 1) (hy : y < 1 ∨ 9999 < y) :
    Calls Tryq.prog 61 #[.int .i64 y, .agg #[.int .i64 n, .bool c], .int .i64 m] w fun e w' => e = .returned (.tuple #[.agg #[.int .i64 0, .bool false], .int .i64 2]) ∧ Gr w w' := by
  rcases h with rfl | rfl
  all_goals (
    by_cases g : y < 1
    · clear hy
      go_enter Tryq.func61, Tryq.ntmps61
      go_wp2
      exact bodyPost_ret (v := .tuple #[.agg #[.int .i64 0, .bool false], .int .i64 2]) (by simp [results, Tryz.results61, go_sem, *]) rfl ⟨rfl, (by repeat (first | exact Gr.refl _ | refine Gr.setCell ?_ _ _ (by first | exact Nat.le_refl _ | (simp; omega) | (simp; done)) | refine Gr.grown ?_ _ _ | refine Gr.drewN ?_ _ | refine Gr.drew ?_ | refine Gr.alloc ?_ _ | refine Gr.grow ?_ _ | (refine Gr.trans ?_ (by assumption))))⟩
    · have g2 : 9999 < y := by omega
      clear hy
      go_enter Tryq.func61, Tryq.ntmps61
      go_wp2
      exact bodyPost_ret (v := .tuple #[.agg #[.int .i64 0, .bool false], .int .i64 2]) (by simp [results, Tryz.results61, go_sem, *]) rfl ⟨rfl, (by repeat (first | exact Gr.refl _ | refine Gr.setCell ?_ _ _ (by first | exact Nat.le_refl _ | (simp; omega) | (simp; done)) | refine Gr.grown ?_ _ _ | refine Gr.drewN ?_ _ | refine Gr.drew ?_ | refine Gr.alloc ?_ _ | refine Gr.grow ?_ _ | (refine Gr.trans ?_ (by assumption))))⟩)
set_option maxHeartbeats 2000000 in
theorem sinto_c3 (y n m : Int) (c : Bool) (w : World) (h : m = 0 ∨ m = 1) (h0 : 1 ≤ y) (h1 : y ≤ 9999) (hc : cR n c = false) :
    Calls Tryq.prog 61 #[.int .i64 y, .agg #[.int .i64 n, .bool c], .int .i64 m] w fun e w' => e = .returned (.tuple #[.agg #[.int .i64 0, .bool false], .int .i64 3]) ∧ Gr w w' := by
  have c1 := fun w => cright_c n c w
  rw [hc] at c1
  have C1 := Lib.hid c1
  clear c1 hc
  rcases h with rfl | rfl
  all_goals (
    go_enter Tryq.func61, Tryq.ntmps61
    go_wp2_with (first | ((go_at_call 91; (with_reducible refine (C1.out _).mono ?_); rintro e wA ⟨rfl, hgwA⟩); obtain ⟨lt, c0, c1, f0, f1⟩ := (ZC.at (w := w.alloc (.cells #[.int .i64 n, .bool c] 46)) (b := w.heap.size + 1) (by simp)).gr hgwA))
    exact bodyPost_ret (v := .tuple #[.agg #[.int .i64 0, .bool false], .int .i64 3]) (by simp [results, Tryz.results61, go_sem, *]) rfl ⟨rfl, (by repeat (first | exact Gr.refl _ | refine Gr.setCell ?_ _ _ (by first | exact Nat.le_refl _ | (simp; omega) | (simp; done)) | refine Gr.grown ?_ _ _ | refine Gr.drewN ?_ _ | refine Gr.drew ?_ | refine Gr.alloc ?_ _ | refine Gr.grow ?_ _ | (refine Gr.trans ?_ (by assumption))))⟩)
set_option maxHeartbeats 8000000 in
/-- A code that may be: brought into the year. -/
theorem sinto_at (y n m R E : Int) (c C o : Bool) (P : Int) (w : World) (hm : m = 0 ∨ m = 1) (h0 : 1 ≤ y) (h1 : y ≤ 9999) (hc : cR n c = true) (n0 : -100 ≤ n) (n1 : n ≤ 100)
    (hp : ∀ w, Calls Tryq.prog 95 #[.bool (lp y), .agg #[.int .i64 n, .bool c]] w fun e w' => e = .returned (.tuple #[.int .i64 P, .bool o]) ∧ Gr w w')
    (hr : (o = true ∧ R = n ∧ C = c ∧ E = 0) ∨ (o = false ∧ m = 0 ∧ R = n + 1 ∧ C = false ∧ E = 0) ∨ (o = false ∧ m = 1 ∧ R = 0 ∧ C = false ∧ E = 7)) :
    Calls Tryq.prog 61 #[.int .i64 y, .agg #[.int .i64 n, .bool c], .int .i64 m] w fun e w' => e = .returned (.tuple #[.agg #[.int .i64 R, .bool C], .int .i64 E]) ∧ Gr w w' := by
  have c1 := fun w => cright_c n c w
  rw [hc] at c1
  have C1 := Lib.hid c1
  have C2 := Lib.hid fun w => sleap_in y w (by omega) (by omega)
  have C3 := Lib.hid hp
  obtain ⟨l, hl⟩ : ∃ l, lp y = l := ⟨_, rfl⟩
  rw [hl] at C2 C3
  clear hc hp c1 hl
  rcases hr with ⟨rfl, rfl, rfl, rfl⟩ | ⟨rfl, rfl, rfl, rfl, rfl⟩ | ⟨rfl, rfl, rfl, rfl, rfl⟩
  · rcases hm with rfl | rfl
    all_goals (
      go_enter Tryq.func61, Tryq.ntmps61
      go_wp2_with (first | ((go_at_call 91; (with_reducible refine (C1.out _).mono ?_); rintro e wA ⟨rfl, hgwA⟩); have c0 := hgwA.keep (b := w.heap.size) (o := 0) (v := .int .i64 R) (by first | (simp; done) | (simp; omega)) (by simp [go_sem]); have c1 := hgwA.keep (b := w.heap.size) (o := 1) (v := .bool C) (by first | (simp; done) | (simp; omega)) (by simp [go_sem]); have hl0 := hgwA.lt (b := w.heap.size) (by simp; omega); have Z := (ZC.at (w := w.alloc (.cells #[.int .i64 R, .bool C] 46)) (b := w.heap.size + 1) (by simp)).gr hgwA; have GA : Gr w wA := (by repeat (first | exact Gr.refl _ | refine Gr.setCell ?_ _ _ (by first | exact Nat.le_refl _ | (simp; omega) | (simp; done)) | refine Gr.grown ?_ _ _ | refine Gr.drewN ?_ _ | refine Gr.drew ?_ | refine Gr.alloc ?_ _ | refine Gr.grow ?_ _ | (refine Gr.trans ?_ (by assumption))))))
      have x0 := gcell_in hl0 c0; have x1 := gcell_in hl0 c1
      clear hgwA c0 c1
      (refine wp_region_quiet_grown mixed (by kernel_rfl) ?_; (repeat (first | go_big_quiet_step ((first | (go_at_call 96; exact gr_of (C2.out _)) | (go_at_call 95; exact gr_of (C3.out _)))) | quiet_step ((first | (go_at_call 96; exact gr_of (C2.out _)) | (go_at_call 95; exact gr_of (C3.out _)))))); refine wpQuiet_nil ?_; intro _ hw'; obtain ⟨⟨nq, osq⟩, hw''⟩ := hw'; subst hw'')
      obtain ⟨lt, c0, c1, f0, f1⟩ := Z.gr ((Gr.refl wA).grown nq osq)
      go_wp2
      exact bodyPost_ret (v := .tuple #[.agg #[.int .i64 R, .bool C], .int .i64 0]) (by simp [results, Tryz.results61, go_sem, *]) rfl ⟨rfl, (by repeat (first | exact Gr.refl _ | refine Gr.setCell ?_ _ _ (by first | exact Nat.le_refl _ | (simp; omega) | (simp; done)) | refine Gr.grown ?_ _ _ | refine Gr.drewN ?_ _ | refine Gr.drew ?_ | refine Gr.alloc ?_ _ | refine Gr.grow ?_ _ | (refine Gr.trans ?_ (by assumption))))⟩)
  · clear hm
    go_enter Tryq.func61, Tryq.ntmps61
    go_wp2_with (first | ((go_at_call 91; (with_reducible refine (C1.out _).mono ?_); rintro e wA ⟨rfl, hgwA⟩); have c0 := hgwA.keep (b := w.heap.size) (o := 0) (v := .int .i64 n) (by first | (simp; done) | (simp; omega)) (by simp [go_sem]); have c1 := hgwA.keep (b := w.heap.size) (o := 1) (v := .bool c) (by first | (simp; done) | (simp; omega)) (by simp [go_sem]); have hl0 := hgwA.lt (b := w.heap.size) (by simp; omega); have Z := (ZC.at (w := w.alloc (.cells #[.int .i64 n, .bool c] 46)) (b := w.heap.size + 1) (by simp)).gr hgwA; have GA : Gr w wA := (by repeat (first | exact Gr.refl _ | refine Gr.setCell ?_ _ _ (by first | exact Nat.le_refl _ | (simp; omega) | (simp; done)) | refine Gr.grown ?_ _ _ | refine Gr.drewN ?_ _ | refine Gr.drew ?_ | refine Gr.alloc ?_ _ | refine Gr.grow ?_ _ | (refine Gr.trans ?_ (by assumption))))))
    have x0 := gcell_in hl0 c0; have x1 := gcell_in hl0 c1
    clear hgwA c0 c1
    (refine wp_region_quiet_grown mixed (by kernel_rfl) ?_; (repeat (first | go_big_quiet_step ((first | (go_at_call 96; exact gr_of (C2.out _)) | (go_at_call 95; exact gr_of (C3.out _)))) | quiet_step ((first | (go_at_call 96; exact gr_of (C2.out _)) | (go_at_call 95; exact gr_of (C3.out _)))))); refine wpQuiet_nil ?_; intro _ hw'; obtain ⟨⟨nq, osq⟩, hw''⟩ := hw'; subst hw'')
    obtain ⟨lt, c0, c1, f0, f1⟩ := Z.gr ((Gr.refl wA).grown nq osq)
    go_wp2
    exact bodyPost_ret (v := .tuple #[.agg #[.int .i64 (n + 1), .bool false], .int .i64 0]) (by simp [results, Tryz.results61, go_sem, *]) rfl ⟨rfl, (by repeat (first | exact Gr.refl _ | refine Gr.setCell ?_ _ _ (by first | exact Nat.le_refl _ | (simp; omega) | (simp; done)) | refine Gr.grown ?_ _ _ | refine Gr.drewN ?_ _ | refine Gr.drew ?_ | refine Gr.alloc ?_ _ | refine Gr.grow ?_ _ | (refine Gr.trans ?_ (by assumption))))⟩
  · clear hm
    go_enter Tryq.func61, Tryq.ntmps61
    go_wp2_with (first | ((go_at_call 91; (with_reducible refine (C1.out _).mono ?_); rintro e wA ⟨rfl, hgwA⟩); have c0 := hgwA.keep (b := w.heap.size) (o := 0) (v := .int .i64 n) (by first | (simp; done) | (simp; omega)) (by simp [go_sem]); have c1 := hgwA.keep (b := w.heap.size) (o := 1) (v := .bool c) (by first | (simp; done) | (simp; omega)) (by simp [go_sem]); have hl0 := hgwA.lt (b := w.heap.size) (by simp; omega); have Z := (ZC.at (w := w.alloc (.cells #[.int .i64 n, .bool c] 46)) (b := w.heap.size + 1) (by simp)).gr hgwA; have GA : Gr w wA := (by repeat (first | exact Gr.refl _ | refine Gr.setCell ?_ _ _ (by first | exact Nat.le_refl _ | (simp; omega) | (simp; done)) | refine Gr.grown ?_ _ _ | refine Gr.drewN ?_ _ | refine Gr.drew ?_ | refine Gr.alloc ?_ _ | refine Gr.grow ?_ _ | (refine Gr.trans ?_ (by assumption))))))
    have x0 := gcell_in hl0 c0; have x1 := gcell_in hl0 c1
    clear hgwA c0 c1
    (refine wp_region_quiet_grown mixed (by kernel_rfl) ?_; (repeat (first | go_big_quiet_step ((first | (go_at_call 96; exact gr_of (C2.out _)) | (go_at_call 95; exact gr_of (C3.out _)))) | quiet_step ((first | (go_at_call 96; exact gr_of (C2.out _)) | (go_at_call 95; exact gr_of (C3.out _)))))); refine wpQuiet_nil ?_; intro _ hw'; obtain ⟨⟨nq, osq⟩, hw''⟩ := hw'; subst hw'')
    obtain ⟨lt, c0, c1, f0, f1⟩ := Z.gr ((Gr.refl wA).grown nq osq)
    go_wp2
    exact bodyPost_ret (v := .tuple #[.agg #[.int .i64 0, .bool false], .int .i64 7]) (by simp [results, Tryz.results61, go_sem, *]) rfl ⟨rfl, (by repeat (first | exact Gr.refl _ | refine Gr.setCell ?_ _ _ (by first | exact Nat.le_refl _ | (simp; omega) | (simp; done)) | refine Gr.grown ?_ _ _ | refine Gr.drewN ?_ _ | refine Gr.drew ?_ | refine Gr.alloc ?_ _ | refine Gr.grow ?_ _ | (refine Gr.trans ?_ (by assumption))))⟩
theorem sinto_c (y n m : Int) (c : Bool) (w : World) :
    Calls Tryq.prog 61 #[.int .i64 y, .agg #[.int .i64 n, .bool c], .int .i64 m] w fun e w' => e = .returned (.tuple #[.agg #[.int .i64 (inNum y n c m), .bool (inLp y n c m)], .int .i64 (inE y n c m)]) ∧ Gr w w' := by
  unfold inNum inLp
  by_cases hm : m = 0 ∨ m = 1
  · by_cases hy : 1 ≤ y ∧ y ≤ 9999
    · cases hc : cR n c
      · have e : inE y n c m = 3 := by unfold inE; rw [if_pos hm, if_pos hy, if_neg (by rw [hc]; decide)]
        rw [e]
        exact sinto_c3 y n m c w hm hy.1 hy.2 hc
      · have nr : 1 ≤ n ∧ n ≤ 12 := by unfold cR at hc; have := of_decide_eq_true hc; omega
        cases hh : cHas (lp y) n c
        · rcases hm with rfl | rfl
          · have e : inE y n c 0 = 0 := by unfold inE; rw [if_pos (.inl rfl), if_pos hy, if_pos hc, if_neg (by rw [hh]; decide), if_neg (by decide)]
            rw [e]
            exact sinto_at y n 0 _ _ c _ false 0 w (.inl rfl) hy.1 hy.2 hc (by omega) (by omega) (fun w => cplace_out (lp y) n c w hh) (.inr (.inl ⟨rfl, rfl, by simp, by simp, rfl⟩))
          · have e : inE y n c 1 = 7 := by unfold inE; rw [if_pos (.inr rfl), if_pos hy, if_pos hc, if_neg (by rw [hh]; decide), if_pos rfl]
            rw [e]
            exact sinto_at y n 1 _ _ c _ false 0 w (.inr rfl) hy.1 hy.2 hc (by omega) (by omega) (fun w => cplace_out (lp y) n c w hh) (.inr (.inr ⟨rfl, rfl, by simp, by simp, rfl⟩))
        · have e : inE y n c m = 0 := by unfold inE; rw [if_pos hm, if_pos hy, if_pos hc, if_pos hh]
          rw [e]
          obtain ⟨j, hj, e1, e2⟩ := code_in hh
          exact sinto_at y n m _ _ c _ true ((j : Int) + 1) w hm hy.1 hy.2 hc (by omega) (by omega) (fun w => by rw [e1, e2]; exact cplace_in (lp y) j w hj) (.inl ⟨rfl, by simp, by simp, rfl⟩)
    · have e : inE y n c m = 2 := by unfold inE; rw [if_pos hm, if_neg hy]
      rw [e]
      exact sinto_y y n m c w hm (by omega)
  · have e : inE y n c m = 1 := by unfold inE; rw [if_neg hm]
    rw [e]
    exact sinto_mode y n m c w (by omega)

end Go.Proofs.YtegkbjpcgelomaaGreatDoor.Walks
end
/- The walk of count.Ahead: the date ahead. -/
section
namespace Go.Proofs.YtegkbjpcgelomaaGreatDoor.Walks
open Go Go.RowKit Go.Sort Go.Proofs.YtegkbjpcgelomaaGreatDoor.Base Go.Proofs.YtegkbjpcgelomaaGreatDoor.Plain Go.Proofs.YtegkbjpcgelomaaGreatDoor.Math

theorem D4.year {w : World} {b : Nat} {y n d : Int} {c : Bool} (h : D4 w b y n c d) (y' : Int) : D4 (w.setCell ⟨b, 0, none⟩ (.int .i64 y')) b y' n c d := by
  refine ⟨by rw [set_size]; exact h.lt, ?_, ?_, ?_, ?_, set_frozen h.f0, set_frozen h.f1, set_frozen h.f2, set_frozen h.f3⟩
  · rw [set_cell h.c0]; simp
  · rw [set_cell h.c1]; simp
  · rw [set_cell h.c2]; simp
  · rw [set_cell h.c3]; simp

end Go.Proofs.YtegkbjpcgelomaaGreatDoor.Walks
end
/- The date behind and the date ahead, of every date: the contracts of count.Next and count.Ahead. -/
section
namespace Go.Proofs.YtegkbjpcgelomaaGreatDoor.Walks
open Go Go.RowKit Go.Sort Go.Proofs.YtegkbjpcgelomaaGreatDoor.Base Go.Proofs.YtegkbjpcgelomaaGreatDoor.Plain Go.Proofs.YtegkbjpcgelomaaGreatDoor.Math

theorem cfirst_zero (l : Bool) : cN l 0 = 1 ∧ cL l 0 = false := by cases l <;> decide
theorem fy_top : fy 10000 = 2278651 := by decide +kernel

theorem cnext_c (y : Int) (j : Nat) (d : Int) (h : HV y j d) : (∃ (Y : Int) (J : Nat) (D : Int), HV Y J D ∧ hd Y J D = hd y j d + 1 ∧ ∀ w, GT w → Calls Tryq.prog 26 #[.agg #[.int .i64 y, .int .i64 (cN (lp y) j), .bool (cL (lp y) j), .int .i64 d]] w fun e w' => e = .returned (.tuple #[.agg #[.int .i64 Y, .int .i64 (cN (lp Y) J), .bool (cL (lp Y) J), .int .i64 D], .int .i64 0]) ∧ Gr w w') ∨
    ((∀ Y J D, HV Y J D → hd Y J D ≠ hd y j d + 1) ∧ ∀ w, GT w → Calls Tryq.prog 26 #[.agg #[.int .i64 y, .int .i64 (cN (lp y) j), .bool (cL (lp y) j), .int .i64 d]] w fun e w' => e = .returned (.tuple #[.agg #[.int .i64 0, .int .i64 0, .bool false, .int .i64 0], .int .i64 2]) ∧ Gr w w') := by
  have j1 := h.j1
  have hm := mct_le (lp y)
  have l := mlen_range (kk y) (lp y) j
  have nY := mN_year h.y0 h.y1
  have dd := h.d1
  have y1 := h.y1
  have core := fun (R1 R2 R4 RE : Int) (R3 : Bool) (w : World) (G : GT w) => cnext_core y (cN (lp y) j) d (kb y) (kk y) (mlen (kk y) (lp y) j) ((j : Int) + 1) (mct (lp y) : Int) (cL (lp y) j) (lp y) R1 R2 R4 RE R3 w h.y0 h.y1 h.d0 (by omega) (by omega) (by omega)
    (fun W hW => hcheck_in y j d W (G.gr hW) h) (fun w => ctplace_in y j d w h.y0 h.y1 h.j1) (fun W hW => mdays_in (kb y) (kk y) (lp y) j W (G.gr hW) (by omega)) (fun W hW => by have := mcount_c (kb y) (kk y) (lp y) W (G.gr hW); rwa [nY] at this)
  by_cases a : d < mlen (kk y) (lp y) j
  · obtain ⟨h2, e2⟩ := hd_next_day h a
    exact .inl ⟨y, j, d + 1, h2, e2, fun w G => core _ _ _ _ _ w G (.inl ⟨a, rfl, rfl, rfl, rfl, rfl⟩)⟩
  · by_cases b : j + 1 < mct (lp y)
    · obtain ⟨h2, e2⟩ := hd_next_month h (by omega) b
      exact .inl ⟨y, j + 1, 1, h2, e2, fun w G => core _ _ _ _ _ w G (.inr (.inl ⟨by omega, by omega, rfl, fun w => by have := ctfirst_in y (kb y) (kk y) (lp y) (j + 1) w b; push_cast at this; exact this⟩))⟩
    · have e2 := hd_next_year h (by omega) (by omega)
      by_cases g : y < 9999
      · obtain ⟨h3, e3⟩ := HV_first (y := y + 1) (by have := h.y0; omega) (by omega)
        refine .inl ⟨y + 1, 0, 1, h3, by omega, fun w G => core _ _ _ _ _ w G (.inr (.inr (.inl ⟨by omega, by omega, g, rfl, fun w => ?_⟩)))⟩
        have := ctfirst_in (y + 1) (kb y) (kk y) (lp y) 0 w (by omega)
        rw [(cfirst_zero (lp y)).1, (cfirst_zero (lp y)).2] at this
        rw [(cfirst_zero (lp (y + 1))).1, (cfirst_zero (lp (y + 1))).2]
        exact this
      · refine .inr ⟨fun Y J D hv => ?_, fun w G => core _ _ _ _ _ w G (.inr (.inr (.inr ⟨by omega, by omega, by omega, rfl, rfl, rfl, rfl, rfl⟩)))⟩
        have := hd_range hv
        have e : y = 9999 := by omega
        subst e
        have t := fy_top
        have e2' : hd 9999 j d + 1 = fy 10000 := e2
        omega

end Go.Proofs.YtegkbjpcgelomaaGreatDoor.Walks
end
/- Walks of package anniv: check, count, last, wanes, a birthday. -/
section
namespace Go.Proofs.YtegkbjpcgelomaaGreatDoor.Walks
open Go Go.RowKit Go.Sort Go.Proofs.YtegkbjpcgelomaaGreatDoor.Base Go.Proofs.YtegkbjpcgelomaaGreatDoor.Plain Go.Proofs.YtegkbjpcgelomaaGreatDoor.Math

theorem aleap_in (y : Int) (w : World) (h0 : 0 ≤ y) (h1 : y ≤ 10001) : Calls Tryq.prog 65 #[.int .i64 y] w fun e w' => e = .returned (.bool (lp y)) ∧ Gr w w' := by
  have C1 := Lib.hid fun w => leap_in y w h0 h1
  go_enter Tryq.func65, Tryq.ntmps65
  go_wp2_with (first | (go_at_call 18; (with_reducible refine (C1.out _).mono ?_); rintro e wA ⟨rfl, hgwA⟩))
  go_ret
  exact ⟨rfl, (by repeat (first | exact Gr.refl _ | refine Gr.setCell ?_ _ _ (by first | exact Nat.le_refl _ | (simp; omega) | (simp; done)) | refine Gr.grown ?_ _ _ | refine Gr.drewN ?_ _ | refine Gr.drew ?_ | refine Gr.alloc ?_ _ | refine Gr.grow ?_ _ | (refine Gr.trans ?_ (by assumption))))⟩
/-- The error of an anniversary that is asked: of a date that tells E. -/
def anE (y t E : Int) : Int := if E = 0 then (if t < 1 ∨ 9999 < t then 2 else if t ≤ y then 1 else 0) else E
set_option maxHeartbeats 2000000 in
theorem ancheck_c (y n d t E : Int) (c : Bool) (w : World) (h : ∀ W, Gr w W → Calls Tryq.prog 27 #[.agg #[.int .i64 y, .int .i64 n, .bool c, .int .i64 d]] W fun e w' => e = .returned (.int .i64 E) ∧ Gr W w') :
    Calls Tryq.prog 60 #[.agg #[.int .i64 y, .int .i64 n, .bool c, .int .i64 d], .int .i64 t] w fun e w' => e = .returned (.int .i64 (anE y t E)) ∧ Gr w w' := by
  have C1 := Lib.hid h
  clear h
  unfold anE
  by_cases hE : E = 0
  · subst hE
    rw [if_pos rfl]
    by_cases g0 : t < 1
    · rw [if_pos (.inl g0)]
      have q0 : decide (t < 1) = true := decide_eq_true g0
      go_enter Tryq.func60, Tryq.ntmps60
      go_wp2_with (first | (go_at_call 27; (with_reducible refine (C1.out _ ((by repeat (first | exact Gr.refl _ | refine Gr.setCell ?_ _ _ (by first | exact Nat.le_refl _ | (simp; omega) | (simp; done)) | refine Gr.grown ?_ _ _ | refine Gr.drewN ?_ _ | refine Gr.drew ?_ | refine Gr.alloc ?_ _ | refine Gr.grow ?_ _ | (refine Gr.trans ?_ (by assumption)))))).mono ?_); rintro e wA ⟨rfl, hgwA⟩; obtain ⟨hclwA, hfzwA, hszwA⟩ := gcell hgwA; (try simp [Nat.add_one_le_iff] at hszwA); have hlwA_w : w.heap.size < wA.heap.size := (by omega)))
      go_ret
      exact ⟨rfl, (by repeat (first | exact Gr.refl _ | refine Gr.setCell ?_ _ _ (by first | exact Nat.le_refl _ | (simp; omega) | (simp; done)) | refine Gr.grown ?_ _ _ | refine Gr.drewN ?_ _ | refine Gr.drew ?_ | refine Gr.alloc ?_ _ | refine Gr.grow ?_ _ | (refine Gr.trans ?_ (by assumption))))⟩
    · have q0 : decide (t < 1) = false := decide_eq_false g0
      by_cases g1 : 9999 < t
      · rw [if_pos (.inr g1)]
        have q1 : decide (9999 < t) = true := decide_eq_true g1
        go_enter Tryq.func60, Tryq.ntmps60
        go_wp2_with (first | (go_at_call 27; (with_reducible refine (C1.out _ ((by repeat (first | exact Gr.refl _ | refine Gr.setCell ?_ _ _ (by first | exact Nat.le_refl _ | (simp; omega) | (simp; done)) | refine Gr.grown ?_ _ _ | refine Gr.drewN ?_ _ | refine Gr.drew ?_ | refine Gr.alloc ?_ _ | refine Gr.grow ?_ _ | (refine Gr.trans ?_ (by assumption)))))).mono ?_); rintro e wA ⟨rfl, hgwA⟩; obtain ⟨hclwA, hfzwA, hszwA⟩ := gcell hgwA; (try simp [Nat.add_one_le_iff] at hszwA); have hlwA_w : w.heap.size < wA.heap.size := (by omega)))
        go_ret
        exact ⟨rfl, (by repeat (first | exact Gr.refl _ | refine Gr.setCell ?_ _ _ (by first | exact Nat.le_refl _ | (simp; omega) | (simp; done)) | refine Gr.grown ?_ _ _ | refine Gr.drewN ?_ _ | refine Gr.drew ?_ | refine Gr.alloc ?_ _ | refine Gr.grow ?_ _ | (refine Gr.trans ?_ (by assumption))))⟩
      · have q1 : decide (9999 < t) = false := decide_eq_false g1
        rw [if_neg (by omega)]
        by_cases g2 : t ≤ y
        · rw [if_pos g2]
          have q2 : decide (t ≤ y) = true := decide_eq_true g2
          go_enter Tryq.func60, Tryq.ntmps60
          go_wp2_with (first | (go_at_call 27; (with_reducible refine (C1.out _ ((by repeat (first | exact Gr.refl _ | refine Gr.setCell ?_ _ _ (by first | exact Nat.le_refl _ | (simp; omega) | (simp; done)) | refine Gr.grown ?_ _ _ | refine Gr.drewN ?_ _ | refine Gr.drew ?_ | refine Gr.alloc ?_ _ | refine Gr.grow ?_ _ | (refine Gr.trans ?_ (by assumption)))))).mono ?_); rintro e wA ⟨rfl, hgwA⟩; obtain ⟨hclwA, hfzwA, hszwA⟩ := gcell hgwA; (try simp [Nat.add_one_le_iff] at hszwA); have hlwA_w : w.heap.size < wA.heap.size := (by omega)))
          go_ret
          exact ⟨rfl, (by repeat (first | exact Gr.refl _ | refine Gr.setCell ?_ _ _ (by first | exact Nat.le_refl _ | (simp; omega) | (simp; done)) | refine Gr.grown ?_ _ _ | refine Gr.drewN ?_ _ | refine Gr.drew ?_ | refine Gr.alloc ?_ _ | refine Gr.grow ?_ _ | (refine Gr.trans ?_ (by assumption))))⟩
        · rw [if_neg g2]
          have q2 : decide (t ≤ y) = false := decide_eq_false g2
          go_enter Tryq.func60, Tryq.ntmps60
          go_wp2_with (first | (go_at_call 27; (with_reducible refine (C1.out _ ((by repeat (first | exact Gr.refl _ | refine Gr.setCell ?_ _ _ (by first | exact Nat.le_refl _ | (simp; omega) | (simp; done)) | refine Gr.grown ?_ _ _ | refine Gr.drewN ?_ _ | refine Gr.drew ?_ | refine Gr.alloc ?_ _ | refine Gr.grow ?_ _ | (refine Gr.trans ?_ (by assumption)))))).mono ?_); rintro e wA ⟨rfl, hgwA⟩; obtain ⟨hclwA, hfzwA, hszwA⟩ := gcell hgwA; (try simp [Nat.add_one_le_iff] at hszwA); have hlwA_w : w.heap.size < wA.heap.size := (by omega)))
          go_ret
          exact ⟨rfl, (by repeat (first | exact Gr.refl _ | refine Gr.setCell ?_ _ _ (by first | exact Nat.le_refl _ | (simp; omega) | (simp; done)) | refine Gr.grown ?_ _ _ | refine Gr.drewN ?_ _ | refine Gr.drew ?_ | refine Gr.alloc ?_ _ | refine Gr.grow ?_ _ | (refine Gr.trans ?_ (by assumption))))⟩
  · rw [if_neg hE]
    have q : (E == 0) = false := beq_eq_false_iff_ne.2 hE
    have q2 : (E != 0) = true := by simp [bne_iff_ne, hE]
    go_enter Tryq.func60, Tryq.ntmps60
    go_wp2_with (first | (go_at_call 27; (with_reducible refine (C1.out _ ((by repeat (first | exact Gr.refl _ | refine Gr.setCell ?_ _ _ (by first | exact Nat.le_refl _ | (simp; omega) | (simp; done)) | refine Gr.grown ?_ _ _ | refine Gr.drewN ?_ _ | refine Gr.drew ?_ | refine Gr.alloc ?_ _ | refine Gr.grow ?_ _ | (refine Gr.trans ?_ (by assumption)))))).mono ?_); rintro e wA ⟨rfl, hgwA⟩; obtain ⟨hclwA, hfzwA, hszwA⟩ := gcell hgwA; (try simp [Nat.add_one_le_iff] at hszwA); have hlwA_w : w.heap.size < wA.heap.size := (by omega)))
    go_ret
    exact ⟨rfl, (by repeat (first | exact Gr.refl _ | refine Gr.setCell ?_ _ _ (by first | exact Nat.le_refl _ | (simp; omega) | (simp; done)) | refine Gr.grown ?_ _ _ | refine Gr.drewN ?_ _ | refine Gr.drew ?_ | refine Gr.alloc ?_ _ | refine Gr.grow ?_ _ | (refine Gr.trans ?_ (by assumption))))⟩
set_option maxHeartbeats 2000000 in
theorem ancount_c (t n d A x1 x2 x4 : Int) (c x3 : Bool) (w : World) (a0 : -1373427 ≤ A) (a1 : A ≤ 2278650) (d0 : 1 ≤ d) (d1 : d ≤ 30)
    (h1 : ∀ W, Gr w W → Calls Tryq.prog 24 #[.agg #[.int .i64 t, .int .i64 n, .bool c, .int .i64 1]] W fun e w' => e = .returned (.tuple #[.int .i64 A, .int .i64 0]) ∧ Gr W w')
    (h2 : ∀ W, Gr w W → Calls Tryq.prog 22 #[.int .i64 (A + d - 1)] W fun e w' => e = .returned (.tuple #[.agg #[.int .i64 x1, .int .i64 x2, .bool x3, .int .i64 x4], .int .i64 0]) ∧ Gr W w') :
    Calls Tryq.prog 62 #[.int .i64 t, .agg #[.int .i64 n, .bool c], .int .i64 d] w fun e w' => e = .returned (.tuple #[.agg #[.int .i64 x1, .int .i64 x2, .bool x3, .int .i64 x4], .int .i64 0]) ∧ Gr w w' := by
  have C1 := Lib.hid h1
  have C2 := Lib.hid h2
  clear h1 h2
  go_enter Tryq.func62, Tryq.ntmps62
  go_wp2_with (first | ((go_at_call 24; (with_reducible refine (C1.out _ ((by repeat (first | exact Gr.refl _ | refine Gr.setCell ?_ _ _ (by first | exact Nat.le_refl _ | (simp; omega) | (simp; done)) | refine Gr.grown ?_ _ _ | refine Gr.drewN ?_ _ | refine Gr.drew ?_ | refine Gr.alloc ?_ _ | refine Gr.grow ?_ _ | (refine Gr.trans ?_ (by assumption)))))).mono ?_); rintro e wA ⟨rfl, hgwA⟩); have RA := (D4.at (w := w.alloc (.cells #[.int .i64 n, .bool c] 46)) (b := w.heap.size + 1) (by simp) 0 0 0 false).gr hgwA; have GA : Gr w wA := ((by repeat (first | exact Gr.refl _ | refine Gr.setCell ?_ _ _ (by first | exact Nat.le_refl _ | (simp; omega) | (simp; done)) | refine Gr.grown ?_ _ _ | refine Gr.drewN ?_ _ | refine Gr.drew ?_ | refine Gr.alloc ?_ _ | refine Gr.grow ?_ _ | (refine Gr.trans ?_ (by assumption))))); clear hgwA) | ((go_at_call 22; (with_reducible refine (C2.out _ ((by repeat (first | exact Gr.refl _ | refine Gr.setCell ?_ _ _ (by first | exact Nat.le_refl _ | (simp; omega) | (simp; done)) | refine Gr.grown ?_ _ _ | refine Gr.drewN ?_ _ | refine Gr.drew ?_ | refine Gr.alloc ?_ _ | refine Gr.grow ?_ _ | (refine Gr.trans ?_ (by assumption)))))).mono ?_); rintro e wB ⟨rfl, hgwB⟩); obtain ⟨lr, r0, r1, r2, r3, g0, g1, g2, g3⟩ := RA.gr hgwB; have GB : Gr w wB := GA.trans hgwB; clear hgwB RA GA))
  exact bodyPost_ret (v := .tuple #[.agg #[.int .i64 x1, .int .i64 x2, .bool x3, .int .i64 x4], .int .i64 0]) (by simp [results, Tryz.results62, go_sem, *]) rfl ⟨rfl, (by repeat (first | exact Gr.refl _ | refine Gr.setCell ?_ _ _ (by first | exact Nat.le_refl _ | (simp; omega) | (simp; done)) | refine Gr.grown ?_ _ _ | refine Gr.drewN ?_ _ | refine Gr.drew ?_ | refine Gr.alloc ?_ _ | refine Gr.grow ?_ _ | (refine Gr.trans ?_ (by assumption))))⟩
set_option maxHeartbeats 2000000 in
theorem anlast_c (t n L E : Int) (c : Bool) (w : World)
    (h1 : ∀ W, Gr w W → Calls Tryq.prog 97 #[.int .i64 t, .agg #[.int .i64 n, .bool c]] W fun e w' => e = .returned (.tuple #[.int .i64 L, .int .i64 E]) ∧ Gr W w') :
    Calls Tryq.prog 64 #[.int .i64 t, .agg #[.int .i64 n, .bool c]] w fun e w' => e = .returned (.tuple #[.agg #[.int .i64 t, .int .i64 n, .bool c, .int .i64 L], .int .i64 E]) ∧ Gr w w' := by
  have C1 := Lib.hid h1
  clear h1
  go_enter Tryq.func64, Tryq.ntmps64
  go_wp2_with (first | ((go_at_call 97; (with_reducible refine (C1.out _ ((by repeat (first | exact Gr.refl _ | refine Gr.setCell ?_ _ _ (by first | exact Nat.le_refl _ | (simp; omega) | (simp; done)) | refine Gr.grown ?_ _ _ | refine Gr.drewN ?_ _ | refine Gr.drew ?_ | refine Gr.alloc ?_ _ | refine Gr.grow ?_ _ | (refine Gr.trans ?_ (by assumption)))))).mono ?_); rintro e wA ⟨rfl, hgwA⟩); obtain ⟨lr, r0, r1, r2, r3, g0, g1, g2, g3⟩ := (D4.at (w := w.alloc (.cells #[.int .i64 n, .bool c] 46)) (b := w.heap.size + 1) (by simp) 0 0 0 false).gr hgwA; have GA : Gr w wA := ((by repeat (first | exact Gr.refl _ | refine Gr.setCell ?_ _ _ (by first | exact Nat.le_refl _ | (simp; omega) | (simp; done)) | refine Gr.grown ?_ _ _ | refine Gr.drewN ?_ _ | refine Gr.drew ?_ | refine Gr.alloc ?_ _ | refine Gr.grow ?_ _ | (refine Gr.trans ?_ (by assumption))))); have k0 := hgwA.keep (b := w.heap.size) (o := 0) (v := .int .i64 n) (by first | (simp; done) | (simp; omega)) (by simp [go_sem]); have k1 := hgwA.keep (b := w.heap.size) (o := 1) (v := .bool c) (by first | (simp; done) | (simp; omega)) (by simp [go_sem]); have kf0 := hgwA.thaw (b := w.heap.size) (o := 0) (v := false) (by first | (simp; done) | (simp; omega)) (by simp [go_sem]); have kf1 := hgwA.thaw (b := w.heap.size) (o := 1) (v := false) (by first | (simp; done) | (simp; omega)) (by simp [go_sem]); clear hgwA))
  exact bodyPost_ret (v := .tuple #[.agg #[.int .i64 t, .int .i64 n, .bool c, .int .i64 L], .int .i64 E]) (by simp [results, Tryz.results64, go_sem, *]) rfl ⟨rfl, (by repeat (first | exact Gr.refl _ | refine Gr.setCell ?_ _ _ (by first | exact Nat.le_refl _ | (simp; omega) | (simp; done)) | refine Gr.grown ?_ _ _ | refine Gr.drewN ?_ _ | refine Gr.drew ?_ | refine Gr.alloc ?_ _ | refine Gr.grow ?_ _ | (refine Gr.trans ?_ (by assumption))))⟩
set_option maxHeartbeats 2000000 in
theorem anwanes_c (y n d L : Int) (c : Bool) (w : World) (y0 : 1 ≤ y) (y1 : y ≤ 9999)
    (h1 : d = 30 ∧ (n = 2 ∨ n = 3) → ∃ E : Int, ∀ W, Gr w W → Calls Tryq.prog 97 #[.int .i64 (y + 1), .agg #[.int .i64 n, .bool c]] W fun e w' => e = .returned (.tuple #[.int .i64 L, .int .i64 E]) ∧ Gr W w') :
    Calls Tryq.prog 63 #[.agg #[.int .i64 y, .int .i64 n, .bool c, .int .i64 d]] w fun e w' => e = .returned (.bool (decide (d = 30 ∧ (n = 2 ∨ n = 3) ∧ L < 30))) ∧ Gr w w' := by
  by_cases hd : d = 30
  · by_cases hn : n = 2 ∨ n = 3
    · obtain ⟨E, h⟩ := h1 ⟨hd, hn⟩
      have C1 := Lib.hid h
      have e : decide (d = 30 ∧ (n = 2 ∨ n = 3) ∧ L < 30) = decide (L < 30) := decide_eq_decide.2 ⟨fun z => z.2.2, fun z => ⟨hd, hn, z⟩⟩
      rw [e]
      clear h h1 e
      subst hd
      rcases hn with rfl | rfl
      all_goals (
        go_enter Tryq.func63, Tryq.ntmps63
        go_wp2_with (first | (go_at_call 97; (with_reducible refine (C1.out _ ((by repeat (first | exact Gr.refl _ | refine Gr.setCell ?_ _ _ (by first | exact Nat.le_refl _ | (simp; omega) | (simp; done)) | refine Gr.grown ?_ _ _ | refine Gr.drewN ?_ _ | refine Gr.drew ?_ | refine Gr.alloc ?_ _ | refine Gr.grow ?_ _ | (refine Gr.trans ?_ (by assumption)))))).mono ?_); rintro e wA ⟨rfl, hgwA⟩; obtain ⟨hclwA, hfzwA, hszwA⟩ := gcell hgwA; (try simp [Nat.add_one_le_iff] at hszwA); have hlwA_w : w.heap.size < wA.heap.size := (by omega)))
        go_ret
        exact ⟨rfl, (by repeat (first | exact Gr.refl _ | refine Gr.setCell ?_ _ _ (by first | exact Nat.le_refl _ | (simp; omega) | (simp; done)) | refine Gr.grown ?_ _ _ | refine Gr.drewN ?_ _ | refine Gr.drew ?_ | refine Gr.alloc ?_ _ | refine Gr.grow ?_ _ | (refine Gr.trans ?_ (by assumption))))⟩)
    · have e : decide (d = 30 ∧ (n = 2 ∨ n = 3) ∧ L < 30) = false := decide_eq_false fun z => hn z.2.1
      rw [e]
      have n2 : ¬ n = 2 := fun z => hn (.inl z)
      have n3 : ¬ n = 3 := fun z => hn (.inr z)
      have q2 : (n != 2) = true := by simp [bne_iff_ne, n2]
      have q3 : (n != 3) = true := by simp [bne_iff_ne, n3]
      have q4 : (n == 2) = false := beq_eq_false_iff_ne.2 n2
      have q5 : (n == 3) = false := beq_eq_false_iff_ne.2 n3
      clear h1 e hn
      subst hd
      go_enter Tryq.func63, Tryq.ntmps63
      go_wp2
      go_ret
      exact ⟨rfl, (by repeat (first | exact Gr.refl _ | refine Gr.setCell ?_ _ _ (by first | exact Nat.le_refl _ | (simp; omega) | (simp; done)) | refine Gr.grown ?_ _ _ | refine Gr.drewN ?_ _ | refine Gr.drew ?_ | refine Gr.alloc ?_ _ | refine Gr.grow ?_ _ | (refine Gr.trans ?_ (by assumption))))⟩
  · have e : decide (d = 30 ∧ (n = 2 ∨ n = 3) ∧ L < 30) = false := decide_eq_false fun z => hd z.1
    rw [e]
    have q2 : (d != 30) = true := by simp [bne_iff_ne, hd]
    have q4 : (d == 30) = false := beq_eq_false_iff_ne.2 hd
    clear h1 e
    go_enter Tryq.func63, Tryq.ntmps63
    go_wp2
    go_ret
    exact ⟨rfl, (by repeat (first | exact Gr.refl _ | refine Gr.setCell ?_ _ _ (by first | exact Nat.le_refl _ | (simp; omega) | (simp; done)) | refine Gr.grown ?_ _ _ | refine Gr.drewN ?_ _ | refine Gr.drew ?_ | refine Gr.alloc ?_ _ | refine Gr.grow ?_ _ | (refine Gr.trans ?_ (by assumption))))⟩
set_option maxHeartbeats 2000000 in
theorem birth_e (y n d t E : Int) (c : Bool) (w : World) (hE : E ≠ 0) (h : ∀ W, Gr w W → Calls Tryq.prog 60 #[.agg #[.int .i64 y, .int .i64 n, .bool c, .int .i64 d], .int .i64 t] W fun e w' => e = .returned (.int .i64 E) ∧ Gr W w') :
    Calls Tryq.prog 28 #[.agg #[.int .i64 y, .int .i64 n, .bool c, .int .i64 d], .int .i64 t] w fun e w' => e = .returned (.tuple #[.agg #[.int .i64 0, .int .i64 0, .bool false, .int .i64 0], .int .i64 E]) ∧ Gr w w' := by
  have C1 := Lib.hid h
  have q : (E == 0) = false := beq_eq_false_iff_ne.2 hE
  clear h
  go_enter Tryq.func28, Tryq.ntmps28
  go_wp2_with (first | ((go_at_call 60; (with_reducible refine (C1.out _ ((by repeat (first | exact Gr.refl _ | refine Gr.setCell ?_ _ _ (by first | exact Nat.le_refl _ | (simp; omega) | (simp; done)) | refine Gr.grown ?_ _ _ | refine Gr.drewN ?_ _ | refine Gr.drew ?_ | refine Gr.alloc ?_ _ | refine Gr.grow ?_ _ | (refine Gr.trans ?_ (by assumption)))))).mono ?_); rintro e wA ⟨rfl, hgwA⟩); obtain ⟨lt, c0, c1, c2, c3, f0, f1, f2, f3⟩ := (D4.two w y n d c).2.gr hgwA))
  exact bodyPost_ret (v := .tuple #[.agg #[.int .i64 0, .int .i64 0, .bool false, .int .i64 0], .int .i64 E]) (by simp [results, Tryz.results28, go_sem, *]) rfl ⟨rfl, (by repeat (first | exact Gr.refl _ | refine Gr.setCell ?_ _ _ (by first | exact Nat.le_refl _ | (simp; omega) | (simp; done)) | refine Gr.grown ?_ _ _ | refine Gr.drewN ?_ _ | refine Gr.drew ?_ | refine Gr.alloc ?_ _ | refine Gr.grow ?_ _ | (refine Gr.trans ?_ (by assumption))))⟩
set_option maxHeartbeats 4000000 in
theorem birth_in (y n d t N x1 x2 x4 : Int) (c C x3 : Bool) (w : World)
    (h1 : ∀ W, Gr w W → Calls Tryq.prog 60 #[.agg #[.int .i64 y, .int .i64 n, .bool c, .int .i64 d], .int .i64 t] W fun e w' => e = .returned (.int .i64 0) ∧ Gr W w')
    (h2 : ∀ w, Calls Tryq.prog 61 #[.int .i64 t, .agg #[.int .i64 n, .bool c], .int .i64 0] w fun e w' => e = .returned (.tuple #[.agg #[.int .i64 N, .bool C], .int .i64 0]) ∧ Gr w w')
    (h3 : ∀ W, Gr w W → Calls Tryq.prog 62 #[.int .i64 t, .agg #[.int .i64 N, .bool C], .int .i64 d] W fun e w' => e = .returned (.tuple #[.agg #[.int .i64 x1, .int .i64 x2, .bool x3, .int .i64 x4], .int .i64 0]) ∧ Gr W w') :
    Calls Tryq.prog 28 #[.agg #[.int .i64 y, .int .i64 n, .bool c, .int .i64 d], .int .i64 t] w fun e w' => e = .returned (.tuple #[.agg #[.int .i64 x1, .int .i64 x2, .bool x3, .int .i64 x4], .int .i64 0]) ∧ Gr w w' := by
  have C1 := Lib.hid h1
  have C2 := Lib.hid h2
  have C3 := Lib.hid h3
  clear h1 h2 h3
  go_enter Tryq.func28, Tryq.ntmps28
  go_wp2_with (first | ((go_at_call 60; (with_reducible refine (C1.out _ ((by repeat (first | exact Gr.refl _ | refine Gr.setCell ?_ _ _ (by first | exact Nat.le_refl _ | (simp; omega) | (simp; done)) | refine Gr.grown ?_ _ _ | refine Gr.drewN ?_ _ | refine Gr.drew ?_ | refine Gr.alloc ?_ _ | refine Gr.grow ?_ _ | (refine Gr.trans ?_ (by assumption)))))).mono ?_); rintro e wA ⟨rfl, hgwA⟩); have DA := (D4.two w y n d c).1.gr hgwA; have RA := (D4.two w y n d c).2.gr hgwA; have GA : Gr w wA := ((by repeat (first | exact Gr.refl _ | refine Gr.setCell ?_ _ _ (by first | exact Nat.le_refl _ | (simp; omega) | (simp; done)) | refine Gr.grown ?_ _ _ | refine Gr.drewN ?_ _ | refine Gr.drew ?_ | refine Gr.alloc ?_ _ | refine Gr.grow ?_ _ | (refine Gr.trans ?_ (by assumption))))); clear hgwA; obtain ⟨lt, c0, c1, c2, c3, f0, f1, f2, f3⟩ := DA) | ((go_at_call 61; (with_reducible refine (C2.out _).mono ?_); rintro e wB ⟨rfl, hgwB⟩); have DB := (D4.mk lt c0 c1 c2 c3 f0 f1 f2 f3).gr hgwB; have RB := RA.gr hgwB; have GB : Gr w wB := GA.trans hgwB; clear hgwB RA GA lt c0 c1 c2 c3 f0 f1 f2 f3; obtain ⟨lt, c0, c1, c2, c3, f0, f1, f2, f3⟩ := DB) | ((go_at_call 62; (with_reducible refine (C3.out _ ((by repeat (first | exact Gr.refl _ | refine Gr.setCell ?_ _ _ (by first | exact Nat.le_refl _ | (simp; omega) | (simp; done)) | refine Gr.grown ?_ _ _ | refine Gr.drewN ?_ _ | refine Gr.drew ?_ | refine Gr.alloc ?_ _ | refine Gr.grow ?_ _ | (refine Gr.trans ?_ (by assumption)))))).mono ?_); rintro e wC ⟨rfl, hgwC⟩); obtain ⟨lr, r0, r1, r2, r3, g0, g1, g2, g3⟩ := (RB.gr ((Gr.refl _).alloc _)).gr hgwC; have GC : Gr w wC := ((by repeat (first | exact Gr.refl _ | refine Gr.setCell ?_ _ _ (by first | exact Nat.le_refl _ | (simp; omega) | (simp; done)) | refine Gr.grown ?_ _ _ | refine Gr.drewN ?_ _ | refine Gr.drew ?_ | refine Gr.alloc ?_ _ | refine Gr.grow ?_ _ | (refine Gr.trans ?_ (by assumption))))); clear hgwC))
  exact bodyPost_ret (v := .tuple #[.agg #[.int .i64 x1, .int .i64 x2, .bool x3, .int .i64 x4], .int .i64 0]) (by simp [results, Tryz.results28, go_sem, *]) rfl ⟨rfl, (by repeat (first | exact Gr.refl _ | refine Gr.setCell ?_ _ _ (by first | exact Nat.le_refl _ | (simp; omega) | (simp; done)) | refine Gr.grown ?_ _ _ | refine Gr.drewN ?_ _ | refine Gr.drew ?_ | refine Gr.alloc ?_ _ | refine Gr.grow ?_ _ | (refine Gr.trans ?_ (by assumption))))⟩

end Go.Proofs.YtegkbjpcgelomaaGreatDoor.Walks
end
