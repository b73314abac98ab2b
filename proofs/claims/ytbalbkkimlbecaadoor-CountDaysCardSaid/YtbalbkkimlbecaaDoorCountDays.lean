/- So many steps away is the date of the day so many days away; it is as many days behind: the walk of the law; every input. -/
import Derived.Test.YtbalbkkimlbecaaDoorCountTells
set_option linter.unusedVariables false
set_option linter.unusedSimpArgs false
namespace Go.Proofs.YtbalbkkimlbecaaDoor.Walks
open Go Go.RowKit Go.Sort Go.Proofs.YtbalbkkimlbecaaDoor.Base Go.Proofs.YtbalbkkimlbecaaDoor.Plain Go.Proofs.YtbalbkkimlbecaaDoor.Math

set_option maxRecDepth 20000 in
set_option maxHeartbeats 8000000 in
theorem cdays_bad (y n d u k E : Int) (c : Bool) (w : World) (G : GT w) (u0 : -32768 ≤ u) (u1 : u ≤ 32767) (hk : u.tmod 3001 = k) (k0 : -3001 < k) (k1 : k < 3001) (hE : E ≠ 0)
    (c1 : ∀ W, Gr w W → Calls Tryd.prog 18 #[.agg #[.int .i64 y, .int .i64 n, .bool c, .int .i64 d], .int .i64 k] W fun e w' => e = .returned (.tuple #[.agg #[.int .i64 0, .int .i64 0, .bool false, .int .i64 0], .int .i64 E]) ∧ Gr W w')
    (c2 : ∀ W, Calls Tryd.prog 22 #[.agg #[.int .i64 y, .int .i64 n, .bool c, .int .i64 d]] W fun e w' => e = .returned (.tuple #[.int .i64 0, .int .i64 E]) ∧ Gr W w') :
    Calls Tryd.prog 5 #[.agg #[.int .i64 y, .int .i64 n, .bool c, .int .i64 d], .int .i16 u] w fun e w' => e = .returned (.bool true) ∧ Gr w w' := by
  have C1 := Lib.hid c1
  have C2 := Lib.hid c2
  have C9 := Lib.hid fun W (hW : Gr w W) => awake27_c W (G.gr hW)
  have q1 : (E == 0) = false := beq_eq_false_iff_ne.2 hE
  have q2 : (E != 0) = true := by simp [bne_iff_ne, hE]
  clear c1 c2 G
  go_enter Tryd.func5, Tryd.ntmps5
  go_wp2_with (first | (go_at_call 18; (with_reducible refine (C1.out _ ((by repeat (first | exact Gr.refl _ | refine Gr.setCell ?_ _ _ (by first | exact Nat.le_refl _ | (simp; omega) | (simp; done)) | refine Gr.grown ?_ _ _ | refine Gr.drewN ?_ _ | refine Gr.drew ?_ | refine Gr.alloc ?_ _ | refine Gr.grow ?_ _ | (refine Gr.trans ?_ (by assumption)))))).mono ?_); rintro e wA ⟨rfl, hgwA⟩; obtain ⟨hclwA, hfzwA, hszwA⟩ := gcell hgwA; (try simp [Nat.add_one_le_iff] at hszwA); have hlwA_w : w.heap.size < wA.heap.size := (by omega)) | (go_at_call 22; (with_reducible refine (C2.out _).mono ?_); rintro e wB ⟨rfl, hgwB⟩; obtain ⟨hclwB, hfzwB, hszwB⟩ := gcell hgwB; (try simp [Nat.add_one_le_iff] at hszwB); have hlwB_w : w.heap.size < wB.heap.size := (by omega); have hlwB_wA : wA.heap.size < wB.heap.size := (by omega)) | (go_at_call 15; (with_reducible refine (C9.out _ ((by repeat (first | exact Gr.refl _ | refine Gr.setCell ?_ _ _ (by first | exact Nat.le_refl _ | (simp; omega) | (simp; done)) | refine Gr.grown ?_ _ _ | refine Gr.drewN ?_ _ | refine Gr.drew ?_ | refine Gr.alloc ?_ _ | refine Gr.grow ?_ _ | (refine Gr.trans ?_ (by assumption)))))).mono ?_); rintro e wC ⟨rfl, hgwC⟩; obtain ⟨hclwC, hfzwC, hszwC⟩ := gcell hgwC; (try simp [Nat.add_one_le_iff] at hszwC); have hlwC_w : w.heap.size < wC.heap.size := (by omega); have hlwC_wA : wA.heap.size < wC.heap.size := (by omega)))
  go_ret
  exact ⟨rfl, (by repeat (first | exact Gr.refl _ | refine Gr.setCell ?_ _ _ (by first | exact Nat.le_refl _ | (simp; omega) | (simp; done)) | refine Gr.grown ?_ _ _ | refine Gr.drewN ?_ _ | refine Gr.drew ?_ | refine Gr.alloc ?_ _ | refine Gr.grow ?_ _ | (refine Gr.trans ?_ (by assumption))))⟩
set_option maxRecDepth 20000 in
set_option maxHeartbeats 8000000 in
theorem cdays_out (y n d u k H : Int) (c : Bool) (w : World) (G : GT w) (u0 : -32768 ≤ u) (u1 : u ≤ 32767) (hk : u.tmod 3001 = k) (k0 : -3001 < k) (k1 : k < 3001) (h0 : -1373427 ≤ H) (h1 : H ≤ 2278650)
    (c1 : ∀ W, Gr w W → Calls Tryd.prog 18 #[.agg #[.int .i64 y, .int .i64 n, .bool c, .int .i64 d], .int .i64 k] W fun e w' => e = .returned (.tuple #[.agg #[.int .i64 0, .int .i64 0, .bool false, .int .i64 0], .int .i64 2]) ∧ Gr W w')
    (c2 : ∀ W, Calls Tryd.prog 22 #[.agg #[.int .i64 y, .int .i64 n, .bool c, .int .i64 d]] W fun e w' => e = .returned (.tuple #[.int .i64 H, .int .i64 0]) ∧ Gr W w')
    (c3 : ∀ W, Calls Tryd.prog 23 #[.int .i64 (H + k)] W fun e w' => e = .returned (.tuple #[.agg #[.int .i64 0, .int .i64 0, .bool false, .int .i64 0], .int .i64 2]) ∧ Gr W w') :
    Calls Tryd.prog 5 #[.agg #[.int .i64 y, .int .i64 n, .bool c, .int .i64 d], .int .i16 u] w fun e w' => e = .returned (.bool true) ∧ Gr w w' := by
  have C1 := Lib.hid c1
  have C2 := Lib.hid c2
  have C3 := Lib.hid c3
  have C9 := Lib.hid fun W (hW : Gr w W) => awake27_c W (G.gr hW)
  clear c1 c2 c3 G
  go_enter Tryd.func5, Tryd.ntmps5
  go_wp2_with (first | (go_at_call 18; (with_reducible refine (C1.out _ ((by repeat (first | exact Gr.refl _ | refine Gr.setCell ?_ _ _ (by first | exact Nat.le_refl _ | (simp; omega) | (simp; done)) | refine Gr.grown ?_ _ _ | refine Gr.drewN ?_ _ | refine Gr.drew ?_ | refine Gr.alloc ?_ _ | refine Gr.grow ?_ _ | (refine Gr.trans ?_ (by assumption)))))).mono ?_); rintro e wA ⟨rfl, hgwA⟩; obtain ⟨hclwA, hfzwA, hszwA⟩ := gcell hgwA; (try simp [Nat.add_one_le_iff] at hszwA); have hlwA_w : w.heap.size < wA.heap.size := (by omega)) | (go_at_call 22; (with_reducible refine (C2.out _).mono ?_); rintro e wB ⟨rfl, hgwB⟩; obtain ⟨hclwB, hfzwB, hszwB⟩ := gcell hgwB; (try simp [Nat.add_one_le_iff] at hszwB); have hlwB_w : w.heap.size < wB.heap.size := (by omega); have hlwB_wA : wA.heap.size < wB.heap.size := (by omega)) | (go_at_call 23; (with_reducible refine (C3.out _).mono ?_); rintro e wD ⟨rfl, hgwD⟩; obtain ⟨hclwD, hfzwD, hszwD⟩ := gcell hgwD; (try simp [Nat.add_one_le_iff] at hszwD); have hlwD_w : w.heap.size < wD.heap.size := (by omega); have hlwD_wA : wA.heap.size < wD.heap.size := (by omega)) | (go_at_call 15; (with_reducible refine (C9.out _ ((by repeat (first | exact Gr.refl _ | refine Gr.setCell ?_ _ _ (by first | exact Nat.le_refl _ | (simp; omega) | (simp; done)) | refine Gr.grown ?_ _ _ | refine Gr.drewN ?_ _ | refine Gr.drew ?_ | refine Gr.alloc ?_ _ | refine Gr.grow ?_ _ | (refine Gr.trans ?_ (by assumption)))))).mono ?_); rintro e wC ⟨rfl, hgwC⟩; obtain ⟨hclwC, hfzwC, hszwC⟩ := gcell hgwC; (try simp [Nat.add_one_le_iff] at hszwC); have hlwC_w : w.heap.size < wC.heap.size := (by omega); have hlwC_wA : wA.heap.size < wC.heap.size := (by omega); have hlwC_wD : wD.heap.size < wC.heap.size := (by omega)))
  go_ret
  exact ⟨rfl, (by repeat (first | exact Gr.refl _ | refine Gr.setCell ?_ _ _ (by first | exact Nat.le_refl _ | (simp; omega) | (simp; done)) | refine Gr.grown ?_ _ _ | refine Gr.drewN ?_ _ | refine Gr.drew ?_ | refine Gr.alloc ?_ _ | refine Gr.grow ?_ _ | (refine Gr.trans ?_ (by assumption))))⟩
set_option maxRecDepth 20000 in
set_option maxHeartbeats 16000000 in
theorem cdays_pos (y n d u k H A1 A2 A4 X I : Int) (c A3 : Bool) (w : World) (G : GT w) (u0 : -32768 ≤ u) (u1 : u ≤ 32767) (hk : u.tmod 3001 = k) (k0 : 0 ≤ k) (k1 : k < 3001) (h0 : -1373427 ≤ H) (h1 : H ≤ 2278650) (hI : (k = 0 ∧ I = 1) ∨ (0 < k ∧ I = 2))
    (c1 : ∀ W, Gr w W → Calls Tryd.prog 18 #[.agg #[.int .i64 y, .int .i64 n, .bool c, .int .i64 d], .int .i64 k] W fun e w' => e = .returned (.tuple #[.agg #[.int .i64 A1, .int .i64 A2, .bool A3, .int .i64 A4], .int .i64 0]) ∧ Gr W w')
    (c2 : ∀ W, Calls Tryd.prog 22 #[.agg #[.int .i64 y, .int .i64 n, .bool c, .int .i64 d]] W fun e w' => e = .returned (.tuple #[.int .i64 H, .int .i64 0]) ∧ Gr W w')
    (c3 : ∀ W, Calls Tryd.prog 23 #[.int .i64 (H + k)] W fun e w' => e = .returned (.tuple #[.agg #[.int .i64 A1, .int .i64 A2, .bool A3, .int .i64 A4], .int .i64 0]) ∧ Gr W w')
    (c4 : ∀ W, Gr w W → Calls Tryd.prog 20 #[.agg #[.int .i64 y, .int .i64 n, .bool c, .int .i64 d], .agg #[.int .i64 A1, .int .i64 A2, .bool A3, .int .i64 A4], .int .i64 k] W fun e w' => e = .returned (.tuple #[.int .i64 k, .int .i64 0]) ∧ Gr W w')
    (c5 : ∀ W, Gr w W → Calls Tryd.prog 20 #[.agg #[.int .i64 y, .int .i64 n, .bool c, .int .i64 d], .agg #[.int .i64 A1, .int .i64 A2, .bool A3, .int .i64 A4], .int .i64 (k - 1)] W fun e w' => e = .returned (.tuple #[.int .i64 X, .int .i64 I]) ∧ Gr W w') :
    Calls Tryd.prog 5 #[.agg #[.int .i64 y, .int .i64 n, .bool c, .int .i64 d], .int .i16 u] w fun e w' => e = .returned (.bool true) ∧ Gr w w' := by
  have C1 := Lib.hid c1
  have C2 := Lib.hid c2
  have C3 := Lib.hid c3
  have C4 := Lib.hid c4
  have C5 := Lib.hid c5
  have C9 := Lib.hid fun W (hW : Gr w W) => awake27_c W (G.gr hW)
  clear c1 c2 c3 c4 c5 G
  have q0 : ¬ k < 0 := by omega
  rcases hI with ⟨rfl, rfl⟩ | ⟨hp, rfl⟩
  · have C3 : RowKit.Hid (∀ W, Calls Tryd.prog 23 #[.int .i64 H] W fun e w' => e = .returned (.tuple #[.agg #[.int .i64 A1, .int .i64 A2, .bool A3, .int .i64 A4], .int .i64 0]) ∧ Gr W w') := Lib.hid fun W => by
      have := C3.out W
      rwa [Int.add_zero] at this
    have C5 : RowKit.Hid (∀ W, Gr w W → Calls Tryd.prog 20 #[.agg #[.int .i64 y, .int .i64 n, .bool c, .int .i64 d], .agg #[.int .i64 A1, .int .i64 A2, .bool A3, .int .i64 A4], .int .i64 (-1)] W fun e w' => e = .returned (.tuple #[.int .i64 X, .int .i64 1]) ∧ Gr W w') := Lib.hid fun W hW => C5.out W hW
    go_enter Tryd.func5, Tryd.ntmps5
    go_wp2_with (first | (go_at_call 18; (with_reducible refine (C1.out _ ((by repeat (first | exact Gr.refl _ | refine Gr.setCell ?_ _ _ (by first | exact Nat.le_refl _ | (simp; omega) | (simp; done)) | refine Gr.grown ?_ _ _ | refine Gr.drewN ?_ _ | refine Gr.drew ?_ | refine Gr.alloc ?_ _ | refine Gr.grow ?_ _ | (refine Gr.trans ?_ (by assumption)))))).mono ?_); rintro e wA ⟨rfl, hgwA⟩; obtain ⟨hclwA, hfzwA, hszwA⟩ := gcell hgwA; (try simp [Nat.add_one_le_iff] at hszwA); have hlwA_w : w.heap.size < wA.heap.size := (by omega)) | (go_at_call 22; (with_reducible refine (C2.out _).mono ?_); rintro e wB ⟨rfl, hgwB⟩; obtain ⟨hclwB, hfzwB, hszwB⟩ := gcell hgwB; (try simp [Nat.add_one_le_iff] at hszwB); have hlwB_w : w.heap.size < wB.heap.size := (by omega); have hlwB_wA : wA.heap.size < wB.heap.size := (by omega)) | (go_at_call 23; (with_reducible refine (C3.out _).mono ?_); rintro e wD ⟨rfl, hgwD⟩; obtain ⟨hclwD, hfzwD, hszwD⟩ := gcell hgwD; (try simp [Nat.add_one_le_iff] at hszwD); have hlwD_w : w.heap.size < wD.heap.size := (by omega); have hlwD_wA : wA.heap.size < wD.heap.size := (by omega)) | (go_at_call 20; (with_reducible refine (C4.out _ ((by repeat (first | exact Gr.refl _ | refine Gr.setCell ?_ _ _ (by first | exact Nat.le_refl _ | (simp; omega) | (simp; done)) | refine Gr.grown ?_ _ _ | refine Gr.drewN ?_ _ | refine Gr.drew ?_ | refine Gr.alloc ?_ _ | refine Gr.grow ?_ _ | (refine Gr.trans ?_ (by assumption)))))).mono ?_); rintro e wE ⟨rfl, hgwE⟩; obtain ⟨hclwE, hfzwE, hszwE⟩ := gcell hgwE; (try simp [Nat.add_one_le_iff] at hszwE); have hlwE_w : w.heap.size < wE.heap.size := (by omega); have hlwE_wA : wA.heap.size < wE.heap.size := (by omega); have hlwE_wD : wD.heap.size < wE.heap.size := (by omega)) | (go_at_call 20; (with_reducible refine (C5.out _ ((by repeat (first | exact Gr.refl _ | refine Gr.setCell ?_ _ _ (by first | exact Nat.le_refl _ | (simp; omega) | (simp; done)) | refine Gr.grown ?_ _ _ | refine Gr.drewN ?_ _ | refine Gr.drew ?_ | refine Gr.alloc ?_ _ | refine Gr.grow ?_ _ | (refine Gr.trans ?_ (by assumption)))))).mono ?_); rintro e wF ⟨rfl, hgwF⟩; obtain ⟨hclwF, hfzwF, hszwF⟩ := gcell hgwF; (try simp [Nat.add_one_le_iff] at hszwF); have hlwF_w : w.heap.size < wF.heap.size := (by omega); have hlwF_wA : wA.heap.size < wF.heap.size := (by omega); have hlwF_wD : wD.heap.size < wF.heap.size := (by omega)) | (go_at_call 15; (with_reducible refine (C9.out _ ((by repeat (first | exact Gr.refl _ | refine Gr.setCell ?_ _ _ (by first | exact Nat.le_refl _ | (simp; omega) | (simp; done)) | refine Gr.grown ?_ _ _ | refine Gr.drewN ?_ _ | refine Gr.drew ?_ | refine Gr.alloc ?_ _ | refine Gr.grow ?_ _ | (refine Gr.trans ?_ (by assumption)))))).mono ?_); rintro e wC ⟨rfl, hgwC⟩; obtain ⟨hclwC, hfzwC, hszwC⟩ := gcell hgwC; (try simp [Nat.add_one_le_iff] at hszwC); have hlwC_w : w.heap.size < wC.heap.size := (by omega); have hlwC_wA : wA.heap.size < wC.heap.size := (by omega); have hlwC_wD : wD.heap.size < wC.heap.size := (by omega)))
    go_ret
    exact ⟨rfl, (by repeat (first | exact Gr.refl _ | refine Gr.setCell ?_ _ _ (by first | exact Nat.le_refl _ | (simp; omega) | (simp; done)) | refine Gr.grown ?_ _ _ | refine Gr.drewN ?_ _ | refine Gr.drew ?_ | refine Gr.alloc ?_ _ | refine Gr.grow ?_ _ | (refine Gr.trans ?_ (by assumption))))⟩
  · have q1 : (k == 0) = false := beq_eq_false_iff_ne.2 (by omega)
    go_enter Tryd.func5, Tryd.ntmps5
    go_wp2_with (first | (go_at_call 18; (with_reducible refine (C1.out _ ((by repeat (first | exact Gr.refl _ | refine Gr.setCell ?_ _ _ (by first | exact Nat.le_refl _ | (simp; omega) | (simp; done)) | refine Gr.grown ?_ _ _ | refine Gr.drewN ?_ _ | refine Gr.drew ?_ | refine Gr.alloc ?_ _ | refine Gr.grow ?_ _ | (refine Gr.trans ?_ (by assumption)))))).mono ?_); rintro e wA ⟨rfl, hgwA⟩; obtain ⟨hclwA, hfzwA, hszwA⟩ := gcell hgwA; (try simp [Nat.add_one_le_iff] at hszwA); have hlwA_w : w.heap.size < wA.heap.size := (by omega)) | (go_at_call 22; (with_reducible refine (C2.out _).mono ?_); rintro e wB ⟨rfl, hgwB⟩; obtain ⟨hclwB, hfzwB, hszwB⟩ := gcell hgwB; (try simp [Nat.add_one_le_iff] at hszwB); have hlwB_w : w.heap.size < wB.heap.size := (by omega); have hlwB_wA : wA.heap.size < wB.heap.size := (by omega)) | (go_at_call 23; (with_reducible refine (C3.out _).mono ?_); rintro e wD ⟨rfl, hgwD⟩; obtain ⟨hclwD, hfzwD, hszwD⟩ := gcell hgwD; (try simp [Nat.add_one_le_iff] at hszwD); have hlwD_w : w.heap.size < wD.heap.size := (by omega); have hlwD_wA : wA.heap.size < wD.heap.size := (by omega)) | (go_at_call 20; (with_reducible refine (C4.out _ ((by repeat (first | exact Gr.refl _ | refine Gr.setCell ?_ _ _ (by first | exact Nat.le_refl _ | (simp; omega) | (simp; done)) | refine Gr.grown ?_ _ _ | refine Gr.drewN ?_ _ | refine Gr.drew ?_ | refine Gr.alloc ?_ _ | refine Gr.grow ?_ _ | (refine Gr.trans ?_ (by assumption)))))).mono ?_); rintro e wE ⟨rfl, hgwE⟩; obtain ⟨hclwE, hfzwE, hszwE⟩ := gcell hgwE; (try simp [Nat.add_one_le_iff] at hszwE); have hlwE_w : w.heap.size < wE.heap.size := (by omega); have hlwE_wA : wA.heap.size < wE.heap.size := (by omega); have hlwE_wD : wD.heap.size < wE.heap.size := (by omega)) | (go_at_call 20; (with_reducible refine (C5.out _ ((by repeat (first | exact Gr.refl _ | refine Gr.setCell ?_ _ _ (by first | exact Nat.le_refl _ | (simp; omega) | (simp; done)) | refine Gr.grown ?_ _ _ | refine Gr.drewN ?_ _ | refine Gr.drew ?_ | refine Gr.alloc ?_ _ | refine Gr.grow ?_ _ | (refine Gr.trans ?_ (by assumption)))))).mono ?_); rintro e wF ⟨rfl, hgwF⟩; obtain ⟨hclwF, hfzwF, hszwF⟩ := gcell hgwF; (try simp [Nat.add_one_le_iff] at hszwF); have hlwF_w : w.heap.size < wF.heap.size := (by omega); have hlwF_wA : wA.heap.size < wF.heap.size := (by omega); have hlwF_wD : wD.heap.size < wF.heap.size := (by omega)) | (go_at_call 15; (with_reducible refine (C9.out _ ((by repeat (first | exact Gr.refl _ | refine Gr.setCell ?_ _ _ (by first | exact Nat.le_refl _ | (simp; omega) | (simp; done)) | refine Gr.grown ?_ _ _ | refine Gr.drewN ?_ _ | refine Gr.drew ?_ | refine Gr.alloc ?_ _ | refine Gr.grow ?_ _ | (refine Gr.trans ?_ (by assumption)))))).mono ?_); rintro e wC ⟨rfl, hgwC⟩; obtain ⟨hclwC, hfzwC, hszwC⟩ := gcell hgwC; (try simp [Nat.add_one_le_iff] at hszwC); have hlwC_w : w.heap.size < wC.heap.size := (by omega); have hlwC_wA : wA.heap.size < wC.heap.size := (by omega); have hlwC_wD : wD.heap.size < wC.heap.size := (by omega)))
    go_ret
    exact ⟨rfl, (by repeat (first | exact Gr.refl _ | refine Gr.setCell ?_ _ _ (by first | exact Nat.le_refl _ | (simp; omega) | (simp; done)) | refine Gr.grown ?_ _ _ | refine Gr.drewN ?_ _ | refine Gr.drew ?_ | refine Gr.alloc ?_ _ | refine Gr.grow ?_ _ | (refine Gr.trans ?_ (by assumption))))⟩
set_option maxRecDepth 20000 in
set_option maxHeartbeats 16000000 in
theorem cdays_neg (y n d u k H A1 A2 A4 X : Int) (c A3 : Bool) (w : World) (G : GT w) (u0 : -32768 ≤ u) (u1 : u ≤ 32767) (hk : u.tmod 3001 = k) (k0 : k < 0) (k1 : -3001 < k) (h0 : -1373427 ≤ H) (h1 : H ≤ 2278650)
    (c1 : ∀ W, Gr w W → Calls Tryd.prog 18 #[.agg #[.int .i64 y, .int .i64 n, .bool c, .int .i64 d], .int .i64 k] W fun e w' => e = .returned (.tuple #[.agg #[.int .i64 A1, .int .i64 A2, .bool A3, .int .i64 A4], .int .i64 0]) ∧ Gr W w')
    (c2 : ∀ W, Calls Tryd.prog 22 #[.agg #[.int .i64 y, .int .i64 n, .bool c, .int .i64 d]] W fun e w' => e = .returned (.tuple #[.int .i64 H, .int .i64 0]) ∧ Gr W w')
    (c3 : ∀ W, Calls Tryd.prog 23 #[.int .i64 (H + k)] W fun e w' => e = .returned (.tuple #[.agg #[.int .i64 A1, .int .i64 A2, .bool A3, .int .i64 A4], .int .i64 0]) ∧ Gr W w')
    (c4 : ∀ W, Gr w W → Calls Tryd.prog 20 #[.agg #[.int .i64 A1, .int .i64 A2, .bool A3, .int .i64 A4], .agg #[.int .i64 y, .int .i64 n, .bool c, .int .i64 d], .int .i64 (-k)] W fun e w' => e = .returned (.tuple #[.int .i64 (-k), .int .i64 0]) ∧ Gr W w')
    (c5 : ∀ W, Gr w W → Calls Tryd.prog 20 #[.agg #[.int .i64 A1, .int .i64 A2, .bool A3, .int .i64 A4], .agg #[.int .i64 y, .int .i64 n, .bool c, .int .i64 d], .int .i64 (-k - 1)] W fun e w' => e = .returned (.tuple #[.int .i64 X, .int .i64 2]) ∧ Gr W w') :
    Calls Tryd.prog 5 #[.agg #[.int .i64 y, .int .i64 n, .bool c, .int .i64 d], .int .i16 u] w fun e w' => e = .returned (.bool true) ∧ Gr w w' := by
  have C1 := Lib.hid c1
  have C2 := Lib.hid c2
  have C3 := Lib.hid c3
  have C4 := Lib.hid c4
  have C5 := Lib.hid c5
  have C9 := Lib.hid fun W (hW : Gr w W) => awake27_c W (G.gr hW)
  have q1 : (-k == 0) = false := beq_eq_false_iff_ne.2 (by omega)
  have q2 : 0 < -k := by omega
  clear c1 c2 c3 c4 c5 G
  go_enter Tryd.func5, Tryd.ntmps5
  go_wp2_with (first | ((go_at_call 18; (with_reducible refine (C1.out _ ((by repeat (first | exact Gr.refl _ | refine Gr.setCell ?_ _ _ (by first | exact Nat.le_refl _ | (simp; omega) | (simp; done)) | refine Gr.grown ?_ _ _ | refine Gr.drewN ?_ _ | refine Gr.drew ?_ | refine Gr.alloc ?_ _ | refine Gr.grow ?_ _ | (refine Gr.trans ?_ (by assumption)))))).mono ?_); rintro e wA ⟨rfl, hgwA⟩); have DA := (D4.at (w := w) rfl y n d c).gr hgwA; have GA : Gr w wA := (by repeat (first | exact Gr.refl _ | refine Gr.setCell ?_ _ _ (by first | exact Nat.le_refl _ | (simp; omega) | (simp; done)) | refine Gr.grown ?_ _ _ | refine Gr.drewN ?_ _ | refine Gr.drew ?_ | refine Gr.alloc ?_ _ | refine Gr.grow ?_ _ | (refine Gr.trans ?_ (by assumption)))); have nA := DA.lt; clear hgwA; have D2 := DA; obtain ⟨lt, c0, c1, c2, c3, z0, z1, z2, z3⟩ := D2) |
    ((go_at_call 22; (with_reducible refine (C2.out _).mono ?_); rintro e wB ⟨rfl, hgwB⟩); have g1 := ((Gr.refl wA).alloc _).trans hgwB; have DA := DA.gr g1; have P6 := (D4.at (w := wA) rfl A1 A2 A4 A3).gr hgwB; have nB := P6.lt; have GB := GA.trans g1; clear g1 hgwB GA lt c0 c1 c2 c3 z0 z1 z2 z3) |
    ((go_at_call 23; (with_reducible refine (C3.out _).mono ?_); rintro e wD ⟨rfl, hgwD⟩); have DA := DA.gr hgwD; have P6 := P6.gr hgwD; have GD := GB.trans hgwD; clear hgwD GB; have D2 := DA; obtain ⟨lt, c0, c1, c2, c3, z0, z1, z2, z3⟩ := D2; have P2 := P6; obtain ⟨l2, p0, p1, p2, p3, f0, f1, f2, f3⟩ := P2))
  obtain ⟨W1, hW1⟩ : ∃ W1, W1 = ((((((((wD.setCell ⟨wA.heap.size, 0, none⟩ (.int .i64 y)).setCell ⟨wA.heap.size, 1, none⟩ (.int .i64 n)).setCell ⟨wA.heap.size, 2, none⟩ (.bool c)).setCell ⟨wA.heap.size, 3, none⟩ (.int .i64 d)).setCell ⟨w.heap.size, 0, none⟩ (.int .i64 A1)).setCell ⟨w.heap.size, 1, none⟩ (.int .i64 A2)).setCell ⟨w.heap.size, 2, none⟩ (.bool A3)).setCell ⟨w.heap.size, 3, none⟩ (.int .i64 A4)).alloc (.cells #[.int .i64 A1, .int .i64 A2, .bool A3, .int .i64 A4] 25) := ⟨_, rfl⟩
  rw [← hW1]
  have DA1 : D4 W1 w.heap.size A1 A2 A3 A4 := by rw [hW1]; exact ((DA.four (b' := wA.heap.size) (by omega) y n d c).put A1 A2 A4 A3).gr ((Gr.refl _).alloc _)
  have P61 : D4 W1 wA.heap.size y n c d := by rw [hW1]; exact ((P6.put y n d c).four (b' := w.heap.size) (by omega) A1 A2 A4 A3).gr ((Gr.refl _).alloc _)
  have G1 : Gr w W1 := by rw [hW1]; exact ((((((((GD.setCell _ _ (by show w.heap.size ≤ wA.heap.size; omega)).setCell _ _ (by show w.heap.size ≤ wA.heap.size; omega)).setCell _ _ (by show w.heap.size ≤ wA.heap.size; omega)).setCell _ _ (by show w.heap.size ≤ wA.heap.size; omega)).setCell _ _ (Nat.le_refl _)).setCell _ _ (Nat.le_refl _)).setCell _ _ (Nat.le_refl _)).setCell _ _ (Nat.le_refl _)).alloc _
  clear hW1 DA P6 GD lt c0 c1 c2 c3 z0 z1 z2 z3 l2 p0 p1 p2 p3 f0 f1 f2 f3
  refine (C4.out _ G1).mono ?_
  rintro e wE ⟨rfl, hgE⟩
  obtain ⟨lt, c0, c1, c2, c3, z0, z1, z2, z3⟩ := DA1.gr hgE
  obtain ⟨l2, p0, p1, p2, p3, f0, f1, f2, f3⟩ := P61.gr hgE
  have GE := G1.trans hgE
  clear DA1 P61 G1 hgE
  go_wp2_with (first | (go_at_call 20; (with_reducible refine (C5.out _ ((by repeat (first | exact Gr.refl _ | refine Gr.setCell ?_ _ _ (by first | exact Nat.le_refl _ | (simp; omega) | (simp; done)) | refine Gr.grown ?_ _ _ | refine Gr.drewN ?_ _ | refine Gr.drew ?_ | refine Gr.alloc ?_ _ | refine Gr.grow ?_ _ | (refine Gr.trans ?_ (by assumption)))))).mono ?_); rintro e wF ⟨rfl, hgwF⟩) | (go_at_call 15; (with_reducible refine (C9.out _ ((by repeat (first | exact Gr.refl _ | refine Gr.setCell ?_ _ _ (by first | exact Nat.le_refl _ | (simp; omega) | (simp; done)) | refine Gr.grown ?_ _ _ | refine Gr.drewN ?_ _ | refine Gr.drew ?_ | refine Gr.alloc ?_ _ | refine Gr.grow ?_ _ | (refine Gr.trans ?_ (by assumption)))))).mono ?_); rintro e wC ⟨rfl, hgwC⟩))
  go_ret
  exact ⟨rfl, (by repeat (first | exact Gr.refl _ | refine Gr.setCell ?_ _ _ (by first | exact Nat.le_refl _ | (simp; omega) | (simp; done)) | refine Gr.grown ?_ _ _ | refine Gr.drewN ?_ _ | refine Gr.drew ?_ | refine Gr.alloc ?_ _ | refine Gr.grow ?_ _ | (refine Gr.trans ?_ (by assumption))))⟩

theorem countDays_t (y n : Int) (c : Bool) (d u : Int) (w : World) (G : GT w) (_ : (Lit.int .i64 y).wf = true) (_ : (Lit.int .i64 n).wf = true) (_ : (Lit.int .i64 d).wf = true) (w1 : (Lit.int .i16 u).wf = true) :
    Calls Tryd.prog 5 #[.agg #[.int .i64 y, .int .i64 n, .bool c, .int .i64 d], .int .i16 u] w fun e w' => e = .returned (.bool true) ∧ Gr w w' := by
  have b := bounds_i16 w1
  have t0 : -3001 < u.tmod 3001 := Int.lt_tmod_of_pos u (by decide)
  have t1 : u.tmod 3001 < 3001 := Int.tmod_lt_of_pos u (by decide)
  obtain ⟨k, hk⟩ : ∃ k, u.tmod 3001 = k := ⟨_, rfl⟩
  rw [hk] at t0 t1
  by_cases h : ∃ j, n = cN (lp y) j ∧ c = cL (lp y) j ∧ HV y j d
  · obtain ⟨j, rfl, rfl, hv⟩ := h
    have r := hd_range hv
    obtain ⟨R1, R2, R4, R3, hr, c1⟩ := steps_in hv k
    have ek : stE (hd y j d) k = if -1373427 ≤ hd y j d + k ∧ hd y j d + k ≤ 2278650 then 0 else 2 := by unfold stE; rw [if_neg (by omega)]
    by_cases a : -1373427 ≤ hd y j d + k ∧ hd y j d + k ≤ 2278650
    · rw [if_pos a] at ek
      rw [ek] at hr c1
      rcases hr with ⟨-, J, hu, e, rfl, rfl⟩ | ⟨z, -⟩
      · by_cases k0 : 0 ≤ k
        · have b1 := (between_in hv hu k ⟨k0, by omega⟩).1
          rw [show hd R1 J R4 - hd y j d = k by omega, show btN k k = k by unfold btN; rw [if_pos (by omega)], show btE k k = 0 by unfold btE; rw [if_pos (by omega), if_pos (by omega)]] at b1
          by_cases kz : k = 0
          · exact cdays_pos y _ d u k (hd y j d) R1 _ R4 0 1 _ _ w G b.1 b.2 hk k0 t1 r.1 r.2 (.inl ⟨kz, rfl⟩) (fun W hW => c1 W (G.gr hW)) (fun W => r10today_in y j d W hv) (fun W => r10from_in R1 J R4 _ W hu e) (fun W hW => b1 W (G.gr hW))
              (fun W hW => between_q _ _ _ _ _ _ _ _ _ W (.inl (by omega)) (fun V hV => hcheck_in y j d V ((G.gr hW).gr hV) hv) (fun V hV => hcheck_in R1 J R4 V ((G.gr hW).gr hV) hu))
          · have b2 := (between_in hv hu (k - 1) ⟨by omega, by omega⟩).1
            rw [show hd R1 J R4 - hd y j d = k by omega, show btE k (k - 1) = 2 by unfold btE; rw [if_pos (by omega), if_neg (by omega)]] at b2
            exact cdays_pos y _ d u k (hd y j d) R1 _ R4 _ 2 _ _ w G b.1 b.2 hk k0 t1 r.1 r.2 (.inr ⟨by omega, rfl⟩) (fun W hW => c1 W (G.gr hW)) (fun W => r10today_in y j d W hv) (fun W => r10from_in R1 J R4 _ W hu e) (fun W hW => b1 W (G.gr hW)) (fun W hW => b2 W (G.gr hW))
        · have b1 := (between_in hu hv (-k) ⟨by omega, by omega⟩).1
          rw [show hd y j d - hd R1 J R4 = -k by omega, show btN (-k) (-k) = -k by unfold btN; rw [if_pos (by omega)], show btE (-k) (-k) = 0 by unfold btE; rw [if_pos (by omega), if_pos (by omega)]] at b1
          have b2 := (between_in hu hv (-k - 1) ⟨by omega, by omega⟩).1
          rw [show hd y j d - hd R1 J R4 = -k by omega, show btE (-k) (-k - 1) = 2 by unfold btE; rw [if_pos (by omega), if_neg (by omega)]] at b2
          exact cdays_neg y _ d u k (hd y j d) R1 _ R4 _ _ _ w G b.1 b.2 hk (by omega) t0 r.1 r.2 (fun W hW => c1 W (G.gr hW)) (fun W => r10today_in y j d W hv) (fun W => r10from_in R1 J R4 _ W hu e) (fun W hW => b1 W (G.gr hW)) (fun W hW => b2 W (G.gr hW))
      · exact absurd rfl z
    · rw [if_neg a] at ek
      rw [ek] at hr c1
      rcases hr with ⟨z, -⟩ | ⟨-, rfl, rfl, rfl, rfl⟩
      · exact absurd z (by decide)
      · exact cdays_out y _ d u k (hd y j d) _ w G b.1 b.2 hk t0 t1 r.1 r.2 (fun W hW => c1 W (G.gr hW)) (fun W => r10today_in y j d W hv) (fun W => r10from_out _ W (by omega))
  · obtain ⟨E, e0, e1, c1, c2⟩ := cdate_bad y n c d h
    exact cdays_bad y n d u k E c w G b.1 b.2 hk t0 t1 (by omega) (fun W hW => steps_e y n d k E c W (by omega) fun V hV => c1 V ((G.gr hW).gr hV)) (fun W => r10today_e y n d E c W (by omega) c2)

end Go.Proofs.YtbalbkkimlbecaaDoor.Walks
