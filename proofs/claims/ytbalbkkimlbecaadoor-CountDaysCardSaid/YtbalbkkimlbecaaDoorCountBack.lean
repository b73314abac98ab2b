/- The date behind has the date ahead of it, and the other way round: the walk of the law; every input. -/
import Derived.Test.YtbalbkkimlbecaaDoorCount3
set_option linter.unusedVariables false
set_option linter.unusedSimpArgs false
namespace Go.Proofs.YtbalbkkimlbecaaDoor.Walks
open Go Go.RowKit Go.Sort Go.Proofs.YtbalbkkimlbecaaDoor.Base Go.Proofs.YtbalbkkimlbecaaDoor.Plain Go.Proofs.YtbalbkkimlbecaaDoor.Math

set_option maxHeartbeats 4000000 in
theorem awake27_c (w : World) (G : GT w) : Calls Tryd.prog 15 #[] w fun e w' => e = .returned (.bool true) ∧ Gr w w' := by
  have C1 : RowKit.Hid (∀ W, Gr w W → Calls Tryd.prog 12 #[.agg #[.int .i64 5784, .int .i64 12, .bool false, .int .i64 29]] W fun e w' => e = .returned (.tuple #[.agg #[.int .i64 5785, .int .i64 1, .bool false, .int .i64 1], .int .i64 0]) ∧ Gr W w') := Lib.hid fun W hW => by
    have l0 : lp 5784 = true := by decide +kernel
    have m0 : mlen (kk 5784) true 12 = 29 := by decide +kernel
    have hv : HV 5784 12 29 := ⟨by decide, by decide, by rw [l0]; decide, by decide, by rw [l0, m0]; decide⟩
    have e0 : cN (lp 5784) 12 = 12 := by rw [l0]; decide
    have e1 : cL (lp 5784) 12 = false := by rw [l0]; decide
    have hu : HV 5785 0 1 := ⟨by decide, by decide, by decide +kernel, by decide, by decide +kernel⟩
    have e2 : hd 5784 12 29 + 1 = hd 5785 0 1 := by decide +kernel
    rcases cnext_c 5784 12 29 hv with ⟨Y, J, D, h1, h2, h3⟩ | ⟨h1, h2⟩
    · obtain ⟨rfl, rfl, rfl⟩ := hd_inj h1 hu (by omega)
      have := h3 W (G.gr hW)
      rw [e0, e1, (cfirst_zero (lp 5785)).1, (cfirst_zero (lp 5785)).2] at this
      exact this
    · exact absurd e2.symm (h1 5785 0 1 hu)
  have C2 : RowKit.Hid (∀ W, Gr w W → Calls Tryd.prog 13 #[.agg #[.int .i64 5785, .int .i64 1, .bool false, .int .i64 1]] W fun e w' => e = .returned (.tuple #[.agg #[.int .i64 5784, .int .i64 12, .bool false, .int .i64 29], .int .i64 0]) ∧ Gr W w') := Lib.hid fun W hW => by
    have l0 : lp 5784 = true := by decide +kernel
    have m0 : mlen (kk 5784) true 12 = 29 := by decide +kernel
    have hv : HV 5784 12 29 := ⟨by decide, by decide, by rw [l0]; decide, by decide, by rw [l0, m0]; decide⟩
    have e0 : cN (lp 5784) 12 = 12 := by rw [l0]; decide
    have e1 : cL (lp 5784) 12 = false := by rw [l0]; decide
    have hu : HV 5785 0 1 := ⟨by decide, by decide, by decide +kernel, by decide, by decide +kernel⟩
    have e2 : hd 5784 12 29 + 1 = hd 5785 0 1 := by decide +kernel
    rcases cahead_c 5785 0 1 hu with ⟨Y, J, D, h1, h2, h3⟩ | ⟨h1, h2⟩
    · obtain ⟨rfl, rfl, rfl⟩ := hd_inj h1 hv (by omega)
      have := h3 W (G.gr hW)
      rw [e0, e1, (cfirst_zero (lp 5785)).1, (cfirst_zero (lp 5785)).2] at this
      exact this
    · exact absurd e2 (h1 5784 12 29 hv)
  have C3 : RowKit.Hid (∀ W, Gr w W → Calls Tryd.prog 12 #[.agg #[.int .i64 9999, .int .i64 12, .bool false, .int .i64 29]] W fun e w' => e = .returned (.tuple #[.agg #[.int .i64 0, .int .i64 0, .bool false, .int .i64 0], .int .i64 2]) ∧ Gr W w') := Lib.hid fun W hW => by
    have l0 : lp 9999 = false := by decide +kernel
    have m0 : mlen (kk 9999) false 11 = 29 := by decide +kernel
    have hv : HV 9999 11 29 := ⟨by decide, by decide, by rw [l0]; decide, by decide, by rw [l0, m0]; decide⟩
    have e0 : cN (lp 9999) 11 = 12 := by rw [l0]; decide
    have e1 : cL (lp 9999) 11 = false := by rw [l0]; decide
    have e2 : hd 9999 11 29 = 2278650 := by decide +kernel
    rcases cnext_c 9999 11 29 hv with ⟨Y, J, D, h1, h2, h3⟩ | ⟨h1, h2⟩
    · have := hd_range h1
      omega
    · have := h2 W (G.gr hW)
      rw [e0, e1] at this
      exact this
  clear G
  go_enter Tryd.func15, Tryd.ntmps15
  go_wp2_with (first | (go_at_call 12; (with_reducible refine (C1.out _ ((by repeat (first | exact Gr.refl _ | refine Gr.setCell ?_ _ _ (by first | exact Nat.le_refl _ | (simp; omega) | (simp; done)) | refine Gr.grown ?_ _ _ | refine Gr.drewN ?_ _ | refine Gr.drew ?_ | refine Gr.alloc ?_ _ | refine Gr.grow ?_ _ | (refine Gr.trans ?_ (by assumption)))))).mono ?_); rintro e wA ⟨rfl, hgwA⟩; obtain ⟨hclwA, hfzwA, hszwA⟩ := gcell hgwA; (try simp [Nat.add_one_le_iff] at hszwA); have hlwA_w : w.heap.size < wA.heap.size := (by omega)) | (go_at_call 13; (with_reducible refine (C2.out _ ((by repeat (first | exact Gr.refl _ | refine Gr.setCell ?_ _ _ (by first | exact Nat.le_refl _ | (simp; omega) | (simp; done)) | refine Gr.grown ?_ _ _ | refine Gr.drewN ?_ _ | refine Gr.drew ?_ | refine Gr.alloc ?_ _ | refine Gr.grow ?_ _ | (refine Gr.trans ?_ (by assumption)))))).mono ?_); rintro e wB ⟨rfl, hgwB⟩; obtain ⟨hclwB, hfzwB, hszwB⟩ := gcell hgwB; (try simp [Nat.add_one_le_iff] at hszwB); have hlwB_w : w.heap.size < wB.heap.size := (by omega); have hlwB_wA : wA.heap.size < wB.heap.size := (by omega)) | (go_at_call 12; (with_reducible refine (C3.out _ ((by repeat (first | exact Gr.refl _ | refine Gr.setCell ?_ _ _ (by first | exact Nat.le_refl _ | (simp; omega) | (simp; done)) | refine Gr.grown ?_ _ _ | refine Gr.drewN ?_ _ | refine Gr.drew ?_ | refine Gr.alloc ?_ _ | refine Gr.grow ?_ _ | (refine Gr.trans ?_ (by assumption)))))).mono ?_); rintro e wC ⟨rfl, hgwC⟩; obtain ⟨hclwC, hfzwC, hszwC⟩ := gcell hgwC; (try simp [Nat.add_one_le_iff] at hszwC); have hlwC_w : w.heap.size < wC.heap.size := (by omega); have hlwC_wA : wA.heap.size < wC.heap.size := (by omega); have hlwC_wB : wB.heap.size < wC.heap.size := (by omega)))
  go_ret
  exact ⟨rfl, (by repeat (first | exact Gr.refl _ | refine Gr.setCell ?_ _ _ (by first | exact Nat.le_refl _ | (simp; omega) | (simp; done)) | refine Gr.grown ?_ _ _ | refine Gr.drewN ?_ _ | refine Gr.drew ?_ | refine Gr.alloc ?_ _ | refine Gr.grow ?_ _ | (refine Gr.trans ?_ (by assumption))))⟩

set_option maxRecDepth 20000 in
set_option maxHeartbeats 8000000 in
theorem cback_bad (y n d E : Int) (c : Bool) (w : World) (G : GT w) (h2 : 2 ≤ E)
    (c1 : ∀ W, Gr w W → Calls Tryd.prog 12 #[.agg #[.int .i64 y, .int .i64 n, .bool c, .int .i64 d]] W fun e w' => e = .returned (.tuple #[.agg #[.int .i64 0, .int .i64 0, .bool false, .int .i64 0], .int .i64 E]) ∧ Gr W w')
    (c2 : ∀ W, Gr w W → Calls Tryd.prog 13 #[.agg #[.int .i64 y, .int .i64 n, .bool c, .int .i64 d]] W fun e w' => e = .returned (.tuple #[.agg #[.int .i64 0, .int .i64 0, .bool false, .int .i64 0], .int .i64 E]) ∧ Gr W w')
    (c3 : ∀ W, Calls Tryd.prog 14 #[.agg #[.int .i64 y, .int .i64 n, .bool c, .int .i64 d]] W fun e w' => e = .returned (.int .i64 E) ∧ Gr W w') :
    Calls Tryd.prog 3 #[.agg #[.int .i64 y, .int .i64 n, .bool c, .int .i64 d]] w fun e w' => e = .returned (.bool true) ∧ Gr w w' := by
  have C1 := Lib.hid c1
  have C2 := Lib.hid c2
  have C3 := Lib.hid c3
  have C9 := Lib.hid fun W (hW : Gr w W) => awake27_c W (G.gr hW)
  have q1 : ¬ E = 0 := by omega
  have q2 : (E != 0) = true := by simp [bne_iff_ne, q1]
  have q : (E == 0) = false := beq_eq_false_iff_ne.2 q1
  clear c1 c2 c3 G h2
  go_enter Tryd.func3, Tryd.ntmps3
  go_wp2_with (first | (go_at_call 12; (with_reducible refine (C1.out _ ((by repeat (first | exact Gr.refl _ | refine Gr.setCell ?_ _ _ (by first | exact Nat.le_refl _ | (simp; omega) | (simp; done)) | refine Gr.grown ?_ _ _ | refine Gr.drewN ?_ _ | refine Gr.drew ?_ | refine Gr.alloc ?_ _ | refine Gr.grow ?_ _ | (refine Gr.trans ?_ (by assumption)))))).mono ?_); rintro e wA ⟨rfl, hgwA⟩; obtain ⟨hclwA, hfzwA, hszwA⟩ := gcell hgwA; (try simp [Nat.add_one_le_iff] at hszwA); have hlwA_w : w.heap.size < wA.heap.size := (by omega)) | (go_at_call 13; (with_reducible refine (C2.out _ ((by repeat (first | exact Gr.refl _ | refine Gr.setCell ?_ _ _ (by first | exact Nat.le_refl _ | (simp; omega) | (simp; done)) | refine Gr.grown ?_ _ _ | refine Gr.drewN ?_ _ | refine Gr.drew ?_ | refine Gr.alloc ?_ _ | refine Gr.grow ?_ _ | (refine Gr.trans ?_ (by assumption)))))).mono ?_); rintro e wB ⟨rfl, hgwB⟩; obtain ⟨hclwB, hfzwB, hszwB⟩ := gcell hgwB; (try simp [Nat.add_one_le_iff] at hszwB); have hlwB_w : w.heap.size < wB.heap.size := (by omega); have hlwB_wA : wA.heap.size < wB.heap.size := (by omega)) | (go_at_call 14; (with_reducible refine (C3.out _).mono ?_); rintro e wE ⟨rfl, hgwE⟩; obtain ⟨hclwE, hfzwE, hszwE⟩ := gcell hgwE; (try simp [Nat.add_one_le_iff] at hszwE); have hlwE_w : w.heap.size < wE.heap.size := (by omega)) | (go_at_call 15; (with_reducible refine (C9.out _ ((by repeat (first | exact Gr.refl _ | refine Gr.setCell ?_ _ _ (by first | exact Nat.le_refl _ | (simp; omega) | (simp; done)) | refine Gr.grown ?_ _ _ | refine Gr.drewN ?_ _ | refine Gr.drew ?_ | refine Gr.alloc ?_ _ | refine Gr.grow ?_ _ | (refine Gr.trans ?_ (by assumption)))))).mono ?_); rintro e wF ⟨rfl, hgwF⟩; obtain ⟨hclwF, hfzwF, hszwF⟩ := gcell hgwF; (try simp [Nat.add_one_le_iff] at hszwF); have hlwF_w : w.heap.size < wF.heap.size := (by omega)))
  go_ret
  exact ⟨rfl, (by repeat (first | exact Gr.refl _ | refine Gr.setCell ?_ _ _ (by first | exact Nat.le_refl _ | (simp; omega) | (simp; done)) | refine Gr.grown ?_ _ _ | refine Gr.drewN ?_ _ | refine Gr.drew ?_ | refine Gr.alloc ?_ _ | refine Gr.grow ?_ _ | (refine Gr.trans ?_ (by assumption))))⟩

set_option maxRecDepth 20000 in
set_option maxHeartbeats 16000000 in
theorem cback_good (y n d R1 R2 R4 E S1 S2 S4 F : Int) (c R3 S3 : Bool) (w : World) (G : GT w)
    (c1 : ∀ W, Gr w W → Calls Tryd.prog 12 #[.agg #[.int .i64 y, .int .i64 n, .bool c, .int .i64 d]] W fun e w' => e = .returned (.tuple #[.agg #[.int .i64 R1, .int .i64 R2, .bool R3, .int .i64 R4], .int .i64 E]) ∧ Gr W w')
    (c2 : ∀ W, Gr w W → Calls Tryd.prog 13 #[.agg #[.int .i64 y, .int .i64 n, .bool c, .int .i64 d]] W fun e w' => e = .returned (.tuple #[.agg #[.int .i64 S1, .int .i64 S2, .bool S3, .int .i64 S4], .int .i64 F]) ∧ Gr W w')
    (c3 : ∀ W, Calls Tryd.prog 14 #[.agg #[.int .i64 y, .int .i64 n, .bool c, .int .i64 d]] W fun e w' => e = .returned (.int .i64 0) ∧ Gr W w')
    (hE : (E = 0 ∧ ∀ W, Gr w W → Calls Tryd.prog 13 #[.agg #[.int .i64 R1, .int .i64 R2, .bool R3, .int .i64 R4]] W fun e w' => e = .returned (.tuple #[.agg #[.int .i64 y, .int .i64 n, .bool c, .int .i64 d], .int .i64 0]) ∧ Gr W w') ∨ E = 2)
    (hF : (F = 0 ∧ ∀ W, Gr w W → Calls Tryd.prog 12 #[.agg #[.int .i64 S1, .int .i64 S2, .bool S3, .int .i64 S4]] W fun e w' => e = .returned (.tuple #[.agg #[.int .i64 y, .int .i64 n, .bool c, .int .i64 d], .int .i64 0]) ∧ Gr W w') ∨ F = 2) :
    Calls Tryd.prog 3 #[.agg #[.int .i64 y, .int .i64 n, .bool c, .int .i64 d]] w fun e w' => e = .returned (.bool true) ∧ Gr w w' := by
  have C1 := Lib.hid c1
  have C2 := Lib.hid c2
  have C3 := Lib.hid c3
  have C9 := Lib.hid fun W (hW : Gr w W) => awake27_c W (G.gr hW)
  clear c1 c2 c3 G
  rcases hE with ⟨rfl, c4⟩ | rfl
  · have C4 := Lib.hid c4
    rcases hF with ⟨rfl, c5⟩ | rfl
    · have C5 := Lib.hid c5
      clear c4 c5
      go_enter Tryd.func3, Tryd.ntmps3
      go_wp2_with (first | (go_at_call 12; (with_reducible refine (C1.out _ ((by repeat (first | exact Gr.refl _ | refine Gr.setCell ?_ _ _ (by first | exact Nat.le_refl _ | (simp; omega) | (simp; done)) | refine Gr.grown ?_ _ _ | refine Gr.drewN ?_ _ | refine Gr.drew ?_ | refine Gr.alloc ?_ _ | refine Gr.grow ?_ _ | (refine Gr.trans ?_ (by assumption)))))).mono ?_); rintro e wA ⟨rfl, hgwA⟩; obtain ⟨hclwA, hfzwA, hszwA⟩ := gcell hgwA; (try simp [Nat.add_one_le_iff] at hszwA); have hlwA_w : w.heap.size < wA.heap.size := (by omega)) | (go_at_call 13; (with_reducible refine (C2.out _ ((by repeat (first | exact Gr.refl _ | refine Gr.setCell ?_ _ _ (by first | exact Nat.le_refl _ | (simp; omega) | (simp; done)) | refine Gr.grown ?_ _ _ | refine Gr.drewN ?_ _ | refine Gr.drew ?_ | refine Gr.alloc ?_ _ | refine Gr.grow ?_ _ | (refine Gr.trans ?_ (by assumption)))))).mono ?_); rintro e wB ⟨rfl, hgwB⟩; obtain ⟨hclwB, hfzwB, hszwB⟩ := gcell hgwB; (try simp [Nat.add_one_le_iff] at hszwB); have hlwB_w : w.heap.size < wB.heap.size := (by omega); have hlwB_wA : wA.heap.size < wB.heap.size := (by omega)) | (go_at_call 13; (with_reducible refine (C4.out _ ((by repeat (first | exact Gr.refl _ | refine Gr.setCell ?_ _ _ (by first | exact Nat.le_refl _ | (simp; omega) | (simp; done)) | refine Gr.grown ?_ _ _ | refine Gr.drewN ?_ _ | refine Gr.drew ?_ | refine Gr.alloc ?_ _ | refine Gr.grow ?_ _ | (refine Gr.trans ?_ (by assumption)))))).mono ?_); rintro e wC ⟨rfl, hgwC⟩; obtain ⟨hclwC, hfzwC, hszwC⟩ := gcell hgwC; (try simp [Nat.add_one_le_iff] at hszwC); have hlwC_w : w.heap.size < wC.heap.size := (by omega); have hlwC_wA : wA.heap.size < wC.heap.size := (by omega); have hlwC_wB : wB.heap.size < wC.heap.size := (by omega)) | (go_at_call 12; (with_reducible refine (C5.out _ ((by repeat (first | exact Gr.refl _ | refine Gr.setCell ?_ _ _ (by first | exact Nat.le_refl _ | (simp; omega) | (simp; done)) | refine Gr.grown ?_ _ _ | refine Gr.drewN ?_ _ | refine Gr.drew ?_ | refine Gr.alloc ?_ _ | refine Gr.grow ?_ _ | (refine Gr.trans ?_ (by assumption)))))).mono ?_); rintro e wD ⟨rfl, hgwD⟩; obtain ⟨hclwD, hfzwD, hszwD⟩ := gcell hgwD; (try simp [Nat.add_one_le_iff] at hszwD); have hlwD_w : w.heap.size < wD.heap.size := (by omega); have hlwD_wA : wA.heap.size < wD.heap.size := (by omega); have hlwD_wB : wB.heap.size < wD.heap.size := (by omega); have hlwD_wC : wC.heap.size < wD.heap.size := (by omega)) | (go_at_call 14; (with_reducible refine (C3.out _).mono ?_); rintro e wE ⟨rfl, hgwE⟩; obtain ⟨hclwE, hfzwE, hszwE⟩ := gcell hgwE; (try simp [Nat.add_one_le_iff] at hszwE); have hlwE_w : w.heap.size < wE.heap.size := (by omega)) | (go_at_call 15; (with_reducible refine (C9.out _ ((by repeat (first | exact Gr.refl _ | refine Gr.setCell ?_ _ _ (by first | exact Nat.le_refl _ | (simp; omega) | (simp; done)) | refine Gr.grown ?_ _ _ | refine Gr.drewN ?_ _ | refine Gr.drew ?_ | refine Gr.alloc ?_ _ | refine Gr.grow ?_ _ | (refine Gr.trans ?_ (by assumption)))))).mono ?_); rintro e wF ⟨rfl, hgwF⟩; obtain ⟨hclwF, hfzwF, hszwF⟩ := gcell hgwF; (try simp [Nat.add_one_le_iff] at hszwF); have hlwF_w : w.heap.size < wF.heap.size := (by omega)))
      go_ret
      exact ⟨rfl, (by repeat (first | exact Gr.refl _ | refine Gr.setCell ?_ _ _ (by first | exact Nat.le_refl _ | (simp; omega) | (simp; done)) | refine Gr.grown ?_ _ _ | refine Gr.drewN ?_ _ | refine Gr.drew ?_ | refine Gr.alloc ?_ _ | refine Gr.grow ?_ _ | (refine Gr.trans ?_ (by assumption))))⟩
    · clear c4
      go_enter Tryd.func3, Tryd.ntmps3
      go_wp2_with (first | (go_at_call 12; (with_reducible refine (C1.out _ ((by repeat (first | exact Gr.refl _ | refine Gr.setCell ?_ _ _ (by first | exact Nat.le_refl _ | (simp; omega) | (simp; done)) | refine Gr.grown ?_ _ _ | refine Gr.drewN ?_ _ | refine Gr.drew ?_ | refine Gr.alloc ?_ _ | refine Gr.grow ?_ _ | (refine Gr.trans ?_ (by assumption)))))).mono ?_); rintro e wA ⟨rfl, hgwA⟩; obtain ⟨hclwA, hfzwA, hszwA⟩ := gcell hgwA; (try simp [Nat.add_one_le_iff] at hszwA); have hlwA_w : w.heap.size < wA.heap.size := (by omega)) | (go_at_call 13; (with_reducible refine (C2.out _ ((by repeat (first | exact Gr.refl _ | refine Gr.setCell ?_ _ _ (by first | exact Nat.le_refl _ | (simp; omega) | (simp; done)) | refine Gr.grown ?_ _ _ | refine Gr.drewN ?_ _ | refine Gr.drew ?_ | refine Gr.alloc ?_ _ | refine Gr.grow ?_ _ | (refine Gr.trans ?_ (by assumption)))))).mono ?_); rintro e wB ⟨rfl, hgwB⟩; obtain ⟨hclwB, hfzwB, hszwB⟩ := gcell hgwB; (try simp [Nat.add_one_le_iff] at hszwB); have hlwB_w : w.heap.size < wB.heap.size := (by omega); have hlwB_wA : wA.heap.size < wB.heap.size := (by omega)) | (go_at_call 13; (with_reducible refine (C4.out _ ((by repeat (first | exact Gr.refl _ | refine Gr.setCell ?_ _ _ (by first | exact Nat.le_refl _ | (simp; omega) | (simp; done)) | refine Gr.grown ?_ _ _ | refine Gr.drewN ?_ _ | refine Gr.drew ?_ | refine Gr.alloc ?_ _ | refine Gr.grow ?_ _ | (refine Gr.trans ?_ (by assumption)))))).mono ?_); rintro e wC ⟨rfl, hgwC⟩; obtain ⟨hclwC, hfzwC, hszwC⟩ := gcell hgwC; (try simp [Nat.add_one_le_iff] at hszwC); have hlwC_w : w.heap.size < wC.heap.size := (by omega); have hlwC_wA : wA.heap.size < wC.heap.size := (by omega); have hlwC_wB : wB.heap.size < wC.heap.size := (by omega)) | (go_at_call 14; (with_reducible refine (C3.out _).mono ?_); rintro e wE ⟨rfl, hgwE⟩; obtain ⟨hclwE, hfzwE, hszwE⟩ := gcell hgwE; (try simp [Nat.add_one_le_iff] at hszwE); have hlwE_w : w.heap.size < wE.heap.size := (by omega)) | (go_at_call 15; (with_reducible refine (C9.out _ ((by repeat (first | exact Gr.refl _ | refine Gr.setCell ?_ _ _ (by first | exact Nat.le_refl _ | (simp; omega) | (simp; done)) | refine Gr.grown ?_ _ _ | refine Gr.drewN ?_ _ | refine Gr.drew ?_ | refine Gr.alloc ?_ _ | refine Gr.grow ?_ _ | (refine Gr.trans ?_ (by assumption)))))).mono ?_); rintro e wF ⟨rfl, hgwF⟩; obtain ⟨hclwF, hfzwF, hszwF⟩ := gcell hgwF; (try simp [Nat.add_one_le_iff] at hszwF); have hlwF_w : w.heap.size < wF.heap.size := (by omega)))
      go_ret
      exact ⟨rfl, (by repeat (first | exact Gr.refl _ | refine Gr.setCell ?_ _ _ (by first | exact Nat.le_refl _ | (simp; omega) | (simp; done)) | refine Gr.grown ?_ _ _ | refine Gr.drewN ?_ _ | refine Gr.drew ?_ | refine Gr.alloc ?_ _ | refine Gr.grow ?_ _ | (refine Gr.trans ?_ (by assumption))))⟩
  · rcases hF with ⟨rfl, c5⟩ | rfl
    · have C5 := Lib.hid c5
      clear c5
      go_enter Tryd.func3, Tryd.ntmps3
      go_wp2_with (first | (go_at_call 12; (with_reducible refine (C1.out _ ((by repeat (first | exact Gr.refl _ | refine Gr.setCell ?_ _ _ (by first | exact Nat.le_refl _ | (simp; omega) | (simp; done)) | refine Gr.grown ?_ _ _ | refine Gr.drewN ?_ _ | refine Gr.drew ?_ | refine Gr.alloc ?_ _ | refine Gr.grow ?_ _ | (refine Gr.trans ?_ (by assumption)))))).mono ?_); rintro e wA ⟨rfl, hgwA⟩; obtain ⟨hclwA, hfzwA, hszwA⟩ := gcell hgwA; (try simp [Nat.add_one_le_iff] at hszwA); have hlwA_w : w.heap.size < wA.heap.size := (by omega)) | (go_at_call 13; (with_reducible refine (C2.out _ ((by repeat (first | exact Gr.refl _ | refine Gr.setCell ?_ _ _ (by first | exact Nat.le_refl _ | (simp; omega) | (simp; done)) | refine Gr.grown ?_ _ _ | refine Gr.drewN ?_ _ | refine Gr.drew ?_ | refine Gr.alloc ?_ _ | refine Gr.grow ?_ _ | (refine Gr.trans ?_ (by assumption)))))).mono ?_); rintro e wB ⟨rfl, hgwB⟩; obtain ⟨hclwB, hfzwB, hszwB⟩ := gcell hgwB; (try simp [Nat.add_one_le_iff] at hszwB); have hlwB_w : w.heap.size < wB.heap.size := (by omega); have hlwB_wA : wA.heap.size < wB.heap.size := (by omega)) | (go_at_call 12; (with_reducible refine (C5.out _ ((by repeat (first | exact Gr.refl _ | refine Gr.setCell ?_ _ _ (by first | exact Nat.le_refl _ | (simp; omega) | (simp; done)) | refine Gr.grown ?_ _ _ | refine Gr.drewN ?_ _ | refine Gr.drew ?_ | refine Gr.alloc ?_ _ | refine Gr.grow ?_ _ | (refine Gr.trans ?_ (by assumption)))))).mono ?_); rintro e wD ⟨rfl, hgwD⟩; obtain ⟨hclwD, hfzwD, hszwD⟩ := gcell hgwD; (try simp [Nat.add_one_le_iff] at hszwD); have hlwD_w : w.heap.size < wD.heap.size := (by omega); have hlwD_wA : wA.heap.size < wD.heap.size := (by omega); have hlwD_wB : wB.heap.size < wD.heap.size := (by omega)) | (go_at_call 14; (with_reducible refine (C3.out _).mono ?_); rintro e wE ⟨rfl, hgwE⟩; obtain ⟨hclwE, hfzwE, hszwE⟩ := gcell hgwE; (try simp [Nat.add_one_le_iff] at hszwE); have hlwE_w : w.heap.size < wE.heap.size := (by omega)) | (go_at_call 15; (with_reducible refine (C9.out _ ((by repeat (first | exact Gr.refl _ | refine Gr.setCell ?_ _ _ (by first | exact Nat.le_refl _ | (simp; omega) | (simp; done)) | refine Gr.grown ?_ _ _ | refine Gr.drewN ?_ _ | refine Gr.drew ?_ | refine Gr.alloc ?_ _ | refine Gr.grow ?_ _ | (refine Gr.trans ?_ (by assumption)))))).mono ?_); rintro e wF ⟨rfl, hgwF⟩; obtain ⟨hclwF, hfzwF, hszwF⟩ := gcell hgwF; (try simp [Nat.add_one_le_iff] at hszwF); have hlwF_w : w.heap.size < wF.heap.size := (by omega)))
      go_ret
      exact ⟨rfl, (by repeat (first | exact Gr.refl _ | refine Gr.setCell ?_ _ _ (by first | exact Nat.le_refl _ | (simp; omega) | (simp; done)) | refine Gr.grown ?_ _ _ | refine Gr.drewN ?_ _ | refine Gr.drew ?_ | refine Gr.alloc ?_ _ | refine Gr.grow ?_ _ | (refine Gr.trans ?_ (by assumption))))⟩
    · go_enter Tryd.func3, Tryd.ntmps3
      go_wp2_with (first | (go_at_call 12; (with_reducible refine (C1.out _ ((by repeat (first | exact Gr.refl _ | refine Gr.setCell ?_ _ _ (by first | exact Nat.le_refl _ | (simp; omega) | (simp; done)) | refine Gr.grown ?_ _ _ | refine Gr.drewN ?_ _ | refine Gr.drew ?_ | refine Gr.alloc ?_ _ | refine Gr.grow ?_ _ | (refine Gr.trans ?_ (by assumption)))))).mono ?_); rintro e wA ⟨rfl, hgwA⟩; obtain ⟨hclwA, hfzwA, hszwA⟩ := gcell hgwA; (try simp [Nat.add_one_le_iff] at hszwA); have hlwA_w : w.heap.size < wA.heap.size := (by omega)) | (go_at_call 13; (with_reducible refine (C2.out _ ((by repeat (first | exact Gr.refl _ | refine Gr.setCell ?_ _ _ (by first | exact Nat.le_refl _ | (simp; omega) | (simp; done)) | refine Gr.grown ?_ _ _ | refine Gr.drewN ?_ _ | refine Gr.drew ?_ | refine Gr.alloc ?_ _ | refine Gr.grow ?_ _ | (refine Gr.trans ?_ (by assumption)))))).mono ?_); rintro e wB ⟨rfl, hgwB⟩; obtain ⟨hclwB, hfzwB, hszwB⟩ := gcell hgwB; (try simp [Nat.add_one_le_iff] at hszwB); have hlwB_w : w.heap.size < wB.heap.size := (by omega); have hlwB_wA : wA.heap.size < wB.heap.size := (by omega)) | (go_at_call 14; (with_reducible refine (C3.out _).mono ?_); rintro e wE ⟨rfl, hgwE⟩; obtain ⟨hclwE, hfzwE, hszwE⟩ := gcell hgwE; (try simp [Nat.add_one_le_iff] at hszwE); have hlwE_w : w.heap.size < wE.heap.size := (by omega)) | (go_at_call 15; (with_reducible refine (C9.out _ ((by repeat (first | exact Gr.refl _ | refine Gr.setCell ?_ _ _ (by first | exact Nat.le_refl _ | (simp; omega) | (simp; done)) | refine Gr.grown ?_ _ _ | refine Gr.drewN ?_ _ | refine Gr.drew ?_ | refine Gr.alloc ?_ _ | refine Gr.grow ?_ _ | (refine Gr.trans ?_ (by assumption)))))).mono ?_); rintro e wF ⟨rfl, hgwF⟩; obtain ⟨hclwF, hfzwF, hszwF⟩ := gcell hgwF; (try simp [Nat.add_one_le_iff] at hszwF); have hlwF_w : w.heap.size < wF.heap.size := (by omega)))
      go_ret
      exact ⟨rfl, (by repeat (first | exact Gr.refl _ | refine Gr.setCell ?_ _ _ (by first | exact Nat.le_refl _ | (simp; omega) | (simp; done)) | refine Gr.grown ?_ _ _ | refine Gr.drewN ?_ _ | refine Gr.drew ?_ | refine Gr.alloc ?_ _ | refine Gr.grow ?_ _ | (refine Gr.trans ?_ (by assumption))))⟩

theorem countBack_t (y n : Int) (c : Bool) (d : Int) (w : World) (G : GT w) :
    Calls Tryd.prog 3 #[.agg #[.int .i64 y, .int .i64 n, .bool c, .int .i64 d]] w fun e w' => e = .returned (.bool true) ∧ Gr w w' := by
  by_cases h : ∃ j, n = cN (lp y) j ∧ c = cL (lp y) j ∧ HV y j d
  · obtain ⟨j, rfl, rfl, hv⟩ := h
    obtain ⟨R1, R2, R3, R4, E, c1, hE⟩ : ∃ R1 R2 R3 R4 E, (∀ W, Gr w W → Calls Tryd.prog 12 #[.agg #[.int .i64 y, .int .i64 (cN (lp y) j), .bool (cL (lp y) j), .int .i64 d]] W fun e w' => e = .returned (.tuple #[.agg #[.int .i64 R1, .int .i64 R2, .bool R3, .int .i64 R4], .int .i64 E]) ∧ Gr W w') ∧
        ((E = 0 ∧ ∀ W, Gr w W → Calls Tryd.prog 13 #[.agg #[.int .i64 R1, .int .i64 R2, .bool R3, .int .i64 R4]] W fun e w' => e = .returned (.tuple #[.agg #[.int .i64 y, .int .i64 (cN (lp y) j), .bool (cL (lp y) j), .int .i64 d], .int .i64 0]) ∧ Gr W w') ∨ E = 2) := by
      rcases cnext_c y j d hv with ⟨Y, J, D, h1, h2, h3⟩ | ⟨-, h3⟩
      · refine ⟨_, _, _, _, _, fun W hW => h3 W (G.gr hW), .inl ⟨rfl, ?_⟩⟩
        rcases cahead_c Y J D h1 with ⟨Y', J', D', g1, g2, g3⟩ | ⟨g1, -⟩
        · obtain ⟨rfl, rfl, rfl⟩ := hd_inj g1 hv (by omega)
          exact fun W hW => g3 W (G.gr hW)
        · exact absurd h2.symm (g1 y j d hv)
      · exact ⟨_, _, _, _, _, fun W hW => h3 W (G.gr hW), .inr rfl⟩
    obtain ⟨S1, S2, S3, S4, F, c2, hF⟩ : ∃ R1 R2 R3 R4 E, (∀ W, Gr w W → Calls Tryd.prog 13 #[.agg #[.int .i64 y, .int .i64 (cN (lp y) j), .bool (cL (lp y) j), .int .i64 d]] W fun e w' => e = .returned (.tuple #[.agg #[.int .i64 R1, .int .i64 R2, .bool R3, .int .i64 R4], .int .i64 E]) ∧ Gr W w') ∧
        ((E = 0 ∧ ∀ W, Gr w W → Calls Tryd.prog 12 #[.agg #[.int .i64 R1, .int .i64 R2, .bool R3, .int .i64 R4]] W fun e w' => e = .returned (.tuple #[.agg #[.int .i64 y, .int .i64 (cN (lp y) j), .bool (cL (lp y) j), .int .i64 d], .int .i64 0]) ∧ Gr W w') ∨ E = 2) := by
      rcases cahead_c y j d hv with ⟨Y, J, D, h1, h2, h3⟩ | ⟨-, h3⟩
      · refine ⟨_, _, _, _, _, fun W hW => h3 W (G.gr hW), .inl ⟨rfl, ?_⟩⟩
        rcases cnext_c Y J D h1 with ⟨Y', J', D', g1, g2, g3⟩ | ⟨g1, -⟩
        · obtain ⟨rfl, rfl, rfl⟩ := hd_inj g1 hv (by omega)
          exact fun W hW => g3 W (G.gr hW)
        · exact absurd h2.symm (g1 y j d hv)
      · exact ⟨_, _, _, _, _, fun W hW => h3 W (G.gr hW), .inr rfl⟩
    exact cback_good _ _ _ _ _ _ _ _ _ _ _ _ _ _ w G c1 c2 (fun W => r10check_in y j d W hv) hE hF
  · obtain ⟨E, e0, e1, c1, c2⟩ := cdate_bad y n c d h
    exact cback_bad y n d E c w G e0 (fun W hW => cnext_e y n d E c W (by omega) fun V hV => c1 V ((G.gr hW).gr hV)) (fun W hW => cahead_e y n d E c W (by omega) fun V hV => c1 V ((G.gr hW).gr hV)) c2

end Go.Proofs.YtbalbkkimlbecaaDoor.Walks
