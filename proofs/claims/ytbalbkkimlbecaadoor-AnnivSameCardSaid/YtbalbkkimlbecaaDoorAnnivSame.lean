/- Anniversaries are in the year that is asked, and plain ones of the same code and day: the walk of the law. -/
import Derived.Test.YtbalbkkimlbecaaDoorAnnivTells
set_option linter.unusedVariables false
set_option linter.unusedSimpArgs false
namespace Go.Proofs.YtbalbkkimlbecaaDoor.Walks
open Go Go.RowKit Go.Sort Go.Proofs.YtbalbkkimlbecaaDoor.Base Go.Proofs.YtbalbkkimlbecaaDoor.Plain Go.Proofs.YtbalbkkimlbecaaDoor.Math

theorem count_year {t : Int} {i : Nat} {d : Int} {Y : Int} {J : Nat} {D : Int} (t0 : 1 ≤ t) (t1 : t ≤ 9999) (hi : i < mct (lp t)) (d0 : 1 ≤ d) (d1 : d ≤ 30) (hl : i + 1 = mct (lp t) → d ≤ 29) (hu : HV Y J D) (e : hd Y J D = hd t i 1 + d - 1) :
    Y = t ∧ (d ≤ 29 → J = i ∧ D = d) := by
  have lr := mlen_range (kk t) (lp t) i
  by_cases z : d ≤ mlen (kk t) (lp t) i
  · have hv : HV t i d := ⟨t0, t1, hi, d0, z⟩
    have := hd_lin t i d
    obtain ⟨a, b, c⟩ := hd_inj hu hv (by omega)
    exact ⟨a, fun _ => ⟨b, c⟩⟩
  · have hv : HV t i (mlen (kk t) (lp t) i) := ⟨t0, t1, hi, by omega, by omega⟩
    have z2 : i + 1 ≠ mct (lp t) := fun q => by have := hl q; omega
    obtain ⟨hn, en⟩ := hd_next_month hv rfl (by omega)
    have := hd_lin t i (mlen (kk t) (lp t) i)
    obtain ⟨a, -, -⟩ := hd_inj hu hn (by omega)
    exact ⟨a, fun q => absurd q (by omega)⟩

set_option maxRecDepth 20000 in
set_option maxHeartbeats 8000000 in
theorem same_e (y n d t E : Int) (c : Bool) (w : World) (G : GT w) (hE : E ≠ 0)
    (c1 : ∀ W, Gr w W → Calls Tryd.prog 32 #[.agg #[.int .i64 y, .int .i64 n, .bool c, .int .i64 d], .int .i64 t] W fun e w' => e = .returned (.tuple #[.agg #[.int .i64 0, .int .i64 0, .bool false, .int .i64 0], .int .i64 E]) ∧ Gr W w')
    (c2 : ∀ W, Gr w W → Calls Tryd.prog 34 #[.agg #[.int .i64 y, .int .i64 n, .bool c, .int .i64 d], .int .i64 t] W fun e w' => e = .returned (.tuple #[.agg #[.int .i64 0, .int .i64 0, .bool false, .int .i64 0], .int .i64 E]) ∧ Gr W w') :
    Calls Tryd.prog 10 #[.agg #[.int .i64 y, .int .i64 n, .bool c, .int .i64 d], .int .i64 t] w fun e w' => e = .returned (.bool true) ∧ Gr w w' := by
  have C1 := Lib.hid c1
  have C2 := Lib.hid c2
  have C9 := Lib.hid fun W (hW : Gr w W) => awake18_c W (G.gr hW)
  have q : (E == 0) = false := beq_eq_false_iff_ne.2 hE
  have q2 : (E != 0) = true := by simp [bne_iff_ne, hE]
  clear c1 c2 G
  go_enter Tryd.func10, Tryd.ntmps10
  go_wp2_with (first | (go_at_call 32; (with_reducible refine (C1.out _ ((by repeat (first | exact Gr.refl _ | refine Gr.setCell ?_ _ _ (by first | exact Nat.le_refl _ | (simp; omega) | (simp; done)) | refine Gr.grown ?_ _ _ | refine Gr.drewN ?_ _ | refine Gr.drew ?_ | refine Gr.alloc ?_ _ | refine Gr.grow ?_ _ | (refine Gr.trans ?_ (by assumption)))))).mono ?_); rintro e wA ⟨rfl, hgwA⟩; obtain ⟨hclwA, hfzwA, hszwA⟩ := gcell hgwA; (try simp [Nat.add_one_le_iff] at hszwA); have hlwA_w : w.heap.size < wA.heap.size := (by omega)) | (go_at_call 34; (with_reducible refine (C2.out _ ((by repeat (first | exact Gr.refl _ | refine Gr.setCell ?_ _ _ (by first | exact Nat.le_refl _ | (simp; omega) | (simp; done)) | refine Gr.grown ?_ _ _ | refine Gr.drewN ?_ _ | refine Gr.drew ?_ | refine Gr.alloc ?_ _ | refine Gr.grow ?_ _ | (refine Gr.trans ?_ (by assumption)))))).mono ?_); rintro e wC ⟨rfl, hgwC⟩; obtain ⟨hclwC, hfzwC, hszwC⟩ := gcell hgwC; (try simp [Nat.add_one_le_iff] at hszwC); have hlwC_w : w.heap.size < wC.heap.size := (by omega); have hlwC_wA : wA.heap.size < wC.heap.size := (by omega)) | (go_at_call 36; (with_reducible refine (C9.out _ ((by repeat (first | exact Gr.refl _ | refine Gr.setCell ?_ _ _ (by first | exact Nat.le_refl _ | (simp; omega) | (simp; done)) | refine Gr.grown ?_ _ _ | refine Gr.drewN ?_ _ | refine Gr.drew ?_ | refine Gr.alloc ?_ _ | refine Gr.grow ?_ _ | (refine Gr.trans ?_ (by assumption)))))).mono ?_); rintro e wF ⟨rfl, hgwF⟩; obtain ⟨hclwF, hfzwF, hszwF⟩ := gcell hgwF; (try simp [Nat.add_one_le_iff] at hszwF); have hlwF_w : w.heap.size < wF.heap.size := (by omega)))
  go_ret
  exact ⟨rfl, (by repeat (first | exact Gr.refl _ | refine Gr.setCell ?_ _ _ (by first | exact Nat.le_refl _ | (simp; omega) | (simp; done)) | refine Gr.grown ?_ _ _ | refine Gr.drewN ?_ _ | refine Gr.drew ?_ | refine Gr.alloc ?_ _ | refine Gr.grow ?_ _ | (refine Gr.trans ?_ (by assumption))))⟩
set_option maxRecDepth 20000 in
set_option maxHeartbeats 16000000 in
theorem same_core (y n d t R2 R4 S2 S4 : Int) (c R3 S3 : Bool) (w : World) (G : GT w)
    (c1 : ∀ W, Gr w W → Calls Tryd.prog 32 #[.agg #[.int .i64 y, .int .i64 n, .bool c, .int .i64 d], .int .i64 t] W fun e w' => e = .returned (.tuple #[.agg #[.int .i64 t, .int .i64 R2, .bool R3, .int .i64 R4], .int .i64 0]) ∧ Gr W w')
    (c2 : ∀ W, Gr w W → Calls Tryd.prog 34 #[.agg #[.int .i64 y, .int .i64 n, .bool c, .int .i64 d], .int .i64 t] W fun e w' => e = .returned (.tuple #[.agg #[.int .i64 t, .int .i64 S2, .bool S3, .int .i64 S4], .int .i64 0]) ∧ Gr W w')
    (c3 : ∀ w, Calls Tryd.prog 14 #[.agg #[.int .i64 t, .int .i64 R2, .bool R3, .int .i64 R4]] w fun e w' => e = .returned (.int .i64 0) ∧ Gr w w')
    (c4 : ∀ w, Calls Tryd.prog 14 #[.agg #[.int .i64 t, .int .i64 S2, .bool S3, .int .i64 S4]] w fun e w' => e = .returned (.int .i64 0) ∧ Gr w w')
    (hp : (d < 30 ∧ c = false ∧ n ≠ 6 ∧ R2 = n ∧ R3 = c ∧ R4 = d ∧ S2 = n ∧ S3 = c ∧ S4 = d) ∨ (¬ d < 30) ∨ (d < 30 ∧ c = true) ∨ (d < 30 ∧ c = false ∧ n = 6)) :
    Calls Tryd.prog 10 #[.agg #[.int .i64 y, .int .i64 n, .bool c, .int .i64 d], .int .i64 t] w fun e w' => e = .returned (.bool true) ∧ Gr w w' := by
  have C1 := Lib.hid c1
  have C2 := Lib.hid c2
  have C3 := Lib.hid c3
  have C4 := Lib.hid c4
  have C9 := Lib.hid fun W (hW : Gr w W) => awake18_c W (G.gr hW)
  clear c1 c2 c3 c4 G
  rcases hp with ⟨p, rfl, u, rfl, rfl, rfl, rfl, rfl, rfl⟩ | p | ⟨p, rfl⟩ | ⟨p, rfl, rfl⟩
  · have q := decide_eq_true p
    have q2 : (S2 != 6) = true := by simp [bne_iff_ne, u]
    have q3 : (S2 == 6) = false := beq_eq_false_iff_ne.2 u
    go_enter Tryd.func10, Tryd.ntmps10
    go_wp2_with (first | (go_at_call 32; (with_reducible refine (C1.out _ ((by repeat (first | exact Gr.refl _ | refine Gr.setCell ?_ _ _ (by first | exact Nat.le_refl _ | (simp; omega) | (simp; done)) | refine Gr.grown ?_ _ _ | refine Gr.drewN ?_ _ | refine Gr.drew ?_ | refine Gr.alloc ?_ _ | refine Gr.grow ?_ _ | (refine Gr.trans ?_ (by assumption)))))).mono ?_); rintro e wA ⟨rfl, hgwA⟩; obtain ⟨hclwA, hfzwA, hszwA⟩ := gcell hgwA; (try simp [Nat.add_one_le_iff] at hszwA); have hlwA_w : w.heap.size < wA.heap.size := (by omega)) | ((go_at_call 34; (with_reducible refine (C2.out _ ((by repeat (first | exact Gr.refl _ | refine Gr.setCell ?_ _ _ (by first | exact Nat.le_refl _ | (simp; omega) | (simp; done)) | refine Gr.grown ?_ _ _ | refine Gr.drewN ?_ _ | refine Gr.drew ?_ | refine Gr.alloc ?_ _ | refine Gr.grow ?_ _ | (refine Gr.trans ?_ (by assumption)))))).mono ?_); rintro e wC ⟨rfl, hgwC⟩; obtain ⟨hclwC, hfzwC, hszwC⟩ := gcell hgwC; (try simp [Nat.add_one_le_iff] at hszwC); have hlwC_w : w.heap.size < wC.heap.size := (by omega); have hlwC_wA : wA.heap.size < wC.heap.size := (by omega)); have z1 : w.heap.size < wC.heap.size + 1 + 1 := (by omega); have z2 : wA.heap.size < wC.heap.size + 1 + 1 := (by omega); have z3 : wC.heap.size < wC.heap.size + 1 + 1 := (by omega); have z4 : wC.heap.size + 1 < wC.heap.size + 1 + 1 := (by omega)) | ((go_at_call 36; (with_reducible refine (C9.out _ ((by repeat (first | exact Gr.refl _ | refine Gr.setCell ?_ _ _ (by first | exact Nat.le_refl _ | (simp; omega) | (simp; done)) | refine Gr.grown ?_ _ _ | refine Gr.drewN ?_ _ | refine Gr.drew ?_ | refine Gr.alloc ?_ _ | refine Gr.grow ?_ _ | (refine Gr.trans ?_ (by assumption)))))).mono ?_); rintro e wF ⟨rfl, hgwF⟩; obtain ⟨hclwF, hfzwF, hszwF⟩ := gcell hgwF; (try simp [Nat.add_one_le_iff] at hszwF); have hlwF_w : w.heap.size < wF.heap.size := (by omega); have hlwF_wA : wA.heap.size < wF.heap.size := (by omega); have hlwF_wC : wC.heap.size < wF.heap.size := (by omega)); have l4 : wC.heap.size + 1 < wF.heap.size := (by omega)) | ((go_at_call 14; (with_reducible refine (C3.out _).mono ?_); rintro e wD ⟨rfl, hgwD⟩; obtain ⟨hclwD, hfzwD, hszwD⟩ := gcell hgwD; (try simp [Nat.add_one_le_iff] at hszwD); have hlwD_w : w.heap.size < wD.heap.size := (by omega); have hlwD_wA : wA.heap.size < wD.heap.size := (by omega); have hlwD_wC : wC.heap.size < wD.heap.size := (by omega)); have l5 : wC.heap.size + 1 < wD.heap.size := (by omega)))
    go_ret
    exact ⟨rfl, (by repeat (first | exact Gr.refl _ | refine Gr.setCell ?_ _ _ (by first | exact Nat.le_refl _ | (simp; omega) | (simp; done)) | refine Gr.grown ?_ _ _ | refine Gr.drewN ?_ _ | refine Gr.drew ?_ | refine Gr.alloc ?_ _ | refine Gr.grow ?_ _ | (refine Gr.trans ?_ (by assumption))))⟩
  · have q := decide_eq_false p
    go_enter Tryd.func10, Tryd.ntmps10
    go_wp2_with (first | (go_at_call 32; (with_reducible refine (C1.out _ ((by repeat (first | exact Gr.refl _ | refine Gr.setCell ?_ _ _ (by first | exact Nat.le_refl _ | (simp; omega) | (simp; done)) | refine Gr.grown ?_ _ _ | refine Gr.drewN ?_ _ | refine Gr.drew ?_ | refine Gr.alloc ?_ _ | refine Gr.grow ?_ _ | (refine Gr.trans ?_ (by assumption)))))).mono ?_); rintro e wA ⟨rfl, hgwA⟩; obtain ⟨hclwA, hfzwA, hszwA⟩ := gcell hgwA; (try simp [Nat.add_one_le_iff] at hszwA); have hlwA_w : w.heap.size < wA.heap.size := (by omega)) | ((go_at_call 34; (with_reducible refine (C2.out _ ((by repeat (first | exact Gr.refl _ | refine Gr.setCell ?_ _ _ (by first | exact Nat.le_refl _ | (simp; omega) | (simp; done)) | refine Gr.grown ?_ _ _ | refine Gr.drewN ?_ _ | refine Gr.drew ?_ | refine Gr.alloc ?_ _ | refine Gr.grow ?_ _ | (refine Gr.trans ?_ (by assumption)))))).mono ?_); rintro e wC ⟨rfl, hgwC⟩; obtain ⟨hclwC, hfzwC, hszwC⟩ := gcell hgwC; (try simp [Nat.add_one_le_iff] at hszwC); have hlwC_w : w.heap.size < wC.heap.size := (by omega); have hlwC_wA : wA.heap.size < wC.heap.size := (by omega)); have z1 : w.heap.size < wC.heap.size + 1 + 1 := (by omega); have z2 : wA.heap.size < wC.heap.size + 1 + 1 := (by omega); have z3 : wC.heap.size < wC.heap.size + 1 + 1 := (by omega); have z4 : wC.heap.size + 1 < wC.heap.size + 1 + 1 := (by omega)) | ((go_at_call 36; (with_reducible refine (C9.out _ ((by repeat (first | exact Gr.refl _ | refine Gr.setCell ?_ _ _ (by first | exact Nat.le_refl _ | (simp; omega) | (simp; done)) | refine Gr.grown ?_ _ _ | refine Gr.drewN ?_ _ | refine Gr.drew ?_ | refine Gr.alloc ?_ _ | refine Gr.grow ?_ _ | (refine Gr.trans ?_ (by assumption)))))).mono ?_); rintro e wF ⟨rfl, hgwF⟩; obtain ⟨hclwF, hfzwF, hszwF⟩ := gcell hgwF; (try simp [Nat.add_one_le_iff] at hszwF); have hlwF_w : w.heap.size < wF.heap.size := (by omega); have hlwF_wA : wA.heap.size < wF.heap.size := (by omega); have hlwF_wC : wC.heap.size < wF.heap.size := (by omega)); have l4 : wC.heap.size + 1 < wF.heap.size := (by omega)) | ((go_at_call 14; (with_reducible refine (C3.out _).mono ?_); rintro e wD ⟨rfl, hgwD⟩; obtain ⟨hclwD, hfzwD, hszwD⟩ := gcell hgwD; (try simp [Nat.add_one_le_iff] at hszwD); have hlwD_w : w.heap.size < wD.heap.size := (by omega); have hlwD_wA : wA.heap.size < wD.heap.size := (by omega); have hlwD_wC : wC.heap.size < wD.heap.size := (by omega)); have l5 : wC.heap.size + 1 < wD.heap.size := (by omega)) | ((go_at_call 14; (with_reducible refine (C4.out _).mono ?_); rintro e wE ⟨rfl, hgwE⟩; obtain ⟨hclwE, hfzwE, hszwE⟩ := gcell hgwE; (try simp [Nat.add_one_le_iff] at hszwE); have hlwE_w : w.heap.size < wE.heap.size := (by omega); have hlwE_wA : wA.heap.size < wE.heap.size := (by omega); have hlwE_wC : wC.heap.size < wE.heap.size := (by omega)); have l6 : wC.heap.size + 1 < wE.heap.size := (by omega)))
    go_ret
    exact ⟨rfl, (by repeat (first | exact Gr.refl _ | refine Gr.setCell ?_ _ _ (by first | exact Nat.le_refl _ | (simp; omega) | (simp; done)) | refine Gr.grown ?_ _ _ | refine Gr.drewN ?_ _ | refine Gr.drew ?_ | refine Gr.alloc ?_ _ | refine Gr.grow ?_ _ | (refine Gr.trans ?_ (by assumption))))⟩
  all_goals (
    have q := decide_eq_true p
    go_enter Tryd.func10, Tryd.ntmps10
    go_wp2_with (first | (go_at_call 32; (with_reducible refine (C1.out _ ((by repeat (first | exact Gr.refl _ | refine Gr.setCell ?_ _ _ (by first | exact Nat.le_refl _ | (simp; omega) | (simp; done)) | refine Gr.grown ?_ _ _ | refine Gr.drewN ?_ _ | refine Gr.drew ?_ | refine Gr.alloc ?_ _ | refine Gr.grow ?_ _ | (refine Gr.trans ?_ (by assumption)))))).mono ?_); rintro e wA ⟨rfl, hgwA⟩; obtain ⟨hclwA, hfzwA, hszwA⟩ := gcell hgwA; (try simp [Nat.add_one_le_iff] at hszwA); have hlwA_w : w.heap.size < wA.heap.size := (by omega)) | ((go_at_call 34; (with_reducible refine (C2.out _ ((by repeat (first | exact Gr.refl _ | refine Gr.setCell ?_ _ _ (by first | exact Nat.le_refl _ | (simp; omega) | (simp; done)) | refine Gr.grown ?_ _ _ | refine Gr.drewN ?_ _ | refine Gr.drew ?_ | refine Gr.alloc ?_ _ | refine Gr.grow ?_ _ | (refine Gr.trans ?_ (by assumption)))))).mono ?_); rintro e wC ⟨rfl, hgwC⟩; obtain ⟨hclwC, hfzwC, hszwC⟩ := gcell hgwC; (try simp [Nat.add_one_le_iff] at hszwC); have hlwC_w : w.heap.size < wC.heap.size := (by omega); have hlwC_wA : wA.heap.size < wC.heap.size := (by omega)); have z1 : w.heap.size < wC.heap.size + 1 + 1 := (by omega); have z2 : wA.heap.size < wC.heap.size + 1 + 1 := (by omega); have z3 : wC.heap.size < wC.heap.size + 1 + 1 := (by omega); have z4 : wC.heap.size + 1 < wC.heap.size + 1 + 1 := (by omega)) | ((go_at_call 36; (with_reducible refine (C9.out _ ((by repeat (first | exact Gr.refl _ | refine Gr.setCell ?_ _ _ (by first | exact Nat.le_refl _ | (simp; omega) | (simp; done)) | refine Gr.grown ?_ _ _ | refine Gr.drewN ?_ _ | refine Gr.drew ?_ | refine Gr.alloc ?_ _ | refine Gr.grow ?_ _ | (refine Gr.trans ?_ (by assumption)))))).mono ?_); rintro e wF ⟨rfl, hgwF⟩; obtain ⟨hclwF, hfzwF, hszwF⟩ := gcell hgwF; (try simp [Nat.add_one_le_iff] at hszwF); have hlwF_w : w.heap.size < wF.heap.size := (by omega); have hlwF_wA : wA.heap.size < wF.heap.size := (by omega); have hlwF_wC : wC.heap.size < wF.heap.size := (by omega)); have l4 : wC.heap.size + 1 < wF.heap.size := (by omega)) | ((go_at_call 14; (with_reducible refine (C3.out _).mono ?_); rintro e wD ⟨rfl, hgwD⟩; obtain ⟨hclwD, hfzwD, hszwD⟩ := gcell hgwD; (try simp [Nat.add_one_le_iff] at hszwD); have hlwD_w : w.heap.size < wD.heap.size := (by omega); have hlwD_wA : wA.heap.size < wD.heap.size := (by omega); have hlwD_wC : wC.heap.size < wD.heap.size := (by omega)); have l5 : wC.heap.size + 1 < wD.heap.size := (by omega)) | ((go_at_call 14; (with_reducible refine (C4.out _).mono ?_); rintro e wE ⟨rfl, hgwE⟩; obtain ⟨hclwE, hfzwE, hszwE⟩ := gcell hgwE; (try simp [Nat.add_one_le_iff] at hszwE); have hlwE_w : w.heap.size < wE.heap.size := (by omega); have hlwE_wA : wA.heap.size < wE.heap.size := (by omega); have hlwE_wC : wC.heap.size < wE.heap.size := (by omega)); have l6 : wC.heap.size + 1 < wE.heap.size := (by omega)))
    go_ret
    exact ⟨rfl, (by repeat (first | exact Gr.refl _ | refine Gr.setCell ?_ _ _ (by first | exact Nat.le_refl _ | (simp; omega) | (simp; done)) | refine Gr.grown ?_ _ _ | refine Gr.drewN ?_ _ | refine Gr.drew ?_ | refine Gr.alloc ?_ _ | refine Gr.grow ?_ _ | (refine Gr.trans ?_ (by assumption))))⟩)

/-- A day of remembrance: a date of the year asked; a plain one's of the same code and day. -/
def DeathIn (y n : Int) (c : Bool) (d t : Int) : Prop := ∃ (J : Nat) (D : Int), HV t J D ∧ (d ≤ 29 → c = false → n ≠ 6 → cN (lp t) J = n ∧ cL (lp t) J = c ∧ D = d) ∧
    ∀ w, GT w → Calls Tryd.prog 34 #[.agg #[.int .i64 y, .int .i64 n, .bool c, .int .i64 d], .int .i64 t] w fun e w' => e = .returned (.tuple #[.agg #[.int .i64 t, .int .i64 (cN (lp t) J), .bool (cL (lp t) J), .int .i64 D], .int .i64 0]) ∧ Gr w w'
theorem birth_year {y : Int} {j : Nat} {d t : Int} (h : HV y j d) (ht : y < t) (t1 : t ≤ 9999) : ∃ (J : Nat) (D : Int), HV t J D ∧ (d ≤ 29 → cL (lp y) j = false → cN (lp t) J = cN (lp y) j ∧ cL (lp t) J = cL (lp y) j ∧ D = d) ∧
    ∀ w, GT w → Calls Tryd.prog 32 #[.agg #[.int .i64 y, .int .i64 (cN (lp y) j), .bool (cL (lp y) j), .int .i64 d], .int .i64 t] w fun e w' => e = .returned (.tuple #[.agg #[.int .i64 t, .int .i64 (cN (lp t) J), .bool (cL (lp t) J), .int .i64 D], .int .i64 0]) ∧ Gr w w' := by
  have y0 := h.y0
  have t0 : 1 ≤ t := by omega
  obtain ⟨i, hi, e0, e1, e2, hl⟩ := into_at t h t0 t1
  obtain ⟨Y, J, D, hu, eu, c1, -⟩ := count_both t0 t1 hi (hv_day h).1 (hv_day h).2 hl
  obtain ⟨rfl, hp⟩ := count_year t0 t1 hi (hv_day h).1 (hv_day h).2 hl hu eu
  refine ⟨J, D, hu, fun d29 hc => ?_, fun w G => birth_in y _ d _ _ _ _ _ _ _ _ w (fun W hW => ancheck_in h ht t1 W (G.gr hW)) (fun w => sinto_in e0 e1 e2 w) (fun W hW => c1 W (G.gr hW))⟩
  obtain ⟨rfl, rfl⟩ := hp d29
  have hR := cR_at (lp y) h.j1
  have hh : cHas (lp Y) (cN (lp y) j) (cL (lp y) j) = true := by unfold cHas; rw [hR, hc]; simp
  unfold inNum at e1
  unfold inLp at e2
  rw [e0, if_pos rfl, if_pos hh] at e1 e2
  exact ⟨e1.symm, e2.symm, rfl⟩
theorem death_in {y : Int} {j : Nat} {d t : Int} (h : HV y j d) (ht : y < t) (t1 : t ≤ 9999) : DeathIn y (cN (lp y) j) (cL (lp y) j) d t := by
  obtain ⟨J, D, hu, hp, b1⟩ := birth_year h ht t1
  have y0 := h.y0
  have y1 := h.y1
  have t0 : 1 ≤ t := by omega
  have hR := cR_at (lp y) h.j1
  have k1 := fun w G => ancheck_in h ht t1 w G
  have hd0 := hv_day h
  have a1 := fun w => aleap_in t w (by omega) (by omega)
  have a2 := fun w => aleap_in y w (by omega) (by omega)
  obtain ⟨n, hn⟩ : ∃ n, cN (lp y) j = n := ⟨_, rfl⟩
  obtain ⟨c, hc⟩ : ∃ c, cL (lp y) j = c := ⟨_, rfl⟩
  rw [hn, hc] at hR k1 b1 hp ⊢
  clear hn hc h
  cases c
  · by_cases n2 : n = 2 ∨ n = 3
    · have lt := mct_le (lp t)
      have ly := mct_le (lp (y + 1))
      obtain ⟨p, hp12, q1, q2⟩ : ∃ p : Nat, p < 12 ∧ (∀ l, cN l p = n) ∧ ∀ l, cL l p = false := by
        rcases n2 with rfl | rfl
        · exact ⟨1, by decide, fun l => (code_23 l).1.1, fun l => (code_23 l).1.2⟩
        · exact ⟨2, by decide, fun l => (code_23 l).2.1, fun l => (code_23 l).2.2⟩
      obtain ⟨l1, -⟩ := hlast_n (t := y + 1) (by omega) (by omega) p n false _ (by omega) (q1 _) (q2 _) rfl
      obtain ⟨m1, -⟩ := hlast_n t0 t1 p n false _ (by omega) (q1 _) (q2 _) rfl
      have v := fun (w : World) (G : GT w) => anwanes_c y n d _ false w y0 y1 fun _ => ⟨0, fun W hW => l1 W (G.gr hW)⟩
      by_cases hv : d = 30 ∧ (n = 2 ∨ n = 3) ∧ mlen (kk (y + 1)) (lp (y + 1)) p < 30
      · rw [decide_eq_true hv] at v
        have lr := mlen_range (kk t) (lp t) p
        refine ⟨p, mlen (kk t) (lp t) p, ⟨t0, t1, by omega, by omega, by omega⟩, fun z => absurd z (by omega), fun w G => ?_⟩
        rw [q1, q2]
        exact death_core y n d t _ _ _ false _ _ true _ w (fun W hW => k1 W (G.gr hW)) (fun W hW => v W (G.gr hW)) a1 a2 (.inl ⟨rfl, fun W hW => anlast_c t n _ 0 false W fun V hV => m1 V ((G.gr hW).gr hV)⟩)
      · rw [decide_eq_false hv] at v
        exact ⟨J, D, hu, fun a b _ => hp a b, fun w G => death_core y n d t _ _ _ false _ _ false _ w (fun W hW => k1 W (G.gr hW)) (fun W hW => v W (G.gr hW)) a1 a2 (.inr (.inr (.inr ⟨rfl, .inr (.inr (.inl ⟨rfl, by omega⟩)), fun W hW => b1 W (G.gr hW)⟩)))⟩
    · have v := fun (w : World) (G : GT w) => anwanes_c y n d 0 false w y0 y1 fun z => absurd z.2 n2
      have e : decide (d = 30 ∧ (n = 2 ∨ n = 3) ∧ (0 : Int) < 30) = false := decide_eq_false fun z => n2 z.2.1
      rw [e] at v
      by_cases n6 : n = 6
      · subst n6
        by_cases hq : lp t = true ∧ lp y = false
        · have g5 : 5 < mct (lp t) := by rw [hq.1]; decide
          have hl5 : 5 + 1 = mct (lp t) → d ≤ 29 := fun z => by rw [hq.1] at z; exact absurd z (by decide)
          obtain ⟨Y', J', D', hu', eu', x1, -⟩ := count_both t0 t1 g5 hd0.1 hd0.2 hl5
          obtain ⟨rfl, -⟩ := count_year t0 t1 g5 hd0.1 hd0.2 hl5 hu' eu'
          have f1 : cN (lp Y') 5 = 5 := by rw [hq.1]; decide
          have f2 : cL (lp Y') 5 = true := by rw [hq.1]; decide
          rw [f1, f2] at x1
          exact ⟨J', D', hu', fun _ _ z => absurd rfl z, fun w G => death_core y 6 d _ _ _ _ false _ _ false _ w (fun W hW => k1 W (G.gr hW)) (fun W hW => v W (G.gr hW)) a1 a2 (.inr (.inr (.inl ⟨rfl, rfl, rfl, hq.1, hq.2, fun W hW => x1 W (G.gr hW)⟩)))⟩
        · refine ⟨J, D, hu, fun a b _ => hp a b, fun w G => death_core y 6 d t _ _ _ false _ _ false _ w (fun W hW => k1 W (G.gr hW)) (fun W hW => v W (G.gr hW)) a1 a2 (.inr (.inr (.inr ⟨rfl, ?_, fun W hW => b1 W (G.gr hW)⟩)))⟩
          cases htl : lp t
          · exact .inr (.inr (.inr (.inl ⟨rfl, rfl, rfl⟩)))
          · refine .inr (.inr (.inr (.inr ⟨rfl, rfl, rfl, ?_⟩)))
            cases hyl : lp y
            · exact absurd ⟨htl, hyl⟩ hq
            · rfl
      · exact ⟨J, D, hu, fun a b _ => hp a b, fun w G => death_core y n d t _ _ _ false _ _ false _ w (fun W hW => k1 W (G.gr hW)) (fun W hW => v W (G.gr hW)) a1 a2 (.inr (.inr (.inr ⟨rfl, .inr (.inr (.inl ⟨rfl, n6⟩)), fun W hW => b1 W (G.gr hW)⟩)))⟩
  · have n5 : n = 5 := by
      unfold cR at hR
      have := (of_decide_eq_true hR).2.2
      simpa using this
    subst n5
    have v := fun (w : World) (G : GT w) => anwanes_c y 5 d 0 true w y0 y1 fun z => absurd z.2 (by decide)
    have e : decide (d = 30 ∧ ((5 : Int) = 2 ∨ (5 : Int) = 3) ∧ (0 : Int) < 30) = false := decide_eq_false fun z => absurd z.2.1 (by decide)
    rw [e] at v
    by_cases hq : d = 30 ∧ lp t = false
    · have g4 : 4 < mct (lp t) := by rw [hq.2]; decide
      have f1 : cN (lp t) 4 = 5 := by rw [hq.2]; decide
      have f2 : cL (lp t) 4 = false := by rw [hq.2]; decide
      have f3 : mlen (kk t) (lp t) 4 = 30 := by rw [hq.2]; simp [mlen]
      obtain ⟨m1, -⟩ := hlast_n t0 t1 4 5 false 30 g4 f1 f2 f3
      refine ⟨4, 30, ⟨t0, t1, g4, by decide, by omega⟩, fun _ z => absurd z (by decide), fun w G => ?_⟩
      rw [f1, f2]
      exact death_core y 5 d t _ _ _ true _ _ false _ w (fun W hW => k1 W (G.gr hW)) (fun W hW => v W (G.gr hW)) a1 a2 (.inr (.inl ⟨rfl, rfl, hq.1, hq.2, fun W hW => anlast_c t 5 30 0 false W fun V hV => m1 V ((G.gr hW).gr hV)⟩))
    · refine ⟨J, D, hu, fun _ z => absurd z (by decide), fun w G => death_core y 5 d t _ _ _ true _ _ false _ w (fun W hW => k1 W (G.gr hW)) (fun W hW => v W (G.gr hW)) a1 a2 (.inr (.inr (.inr ⟨rfl, ?_, fun W hW => b1 W (G.gr hW)⟩)))⟩
      by_cases h30 : d = 30
      · cases htl : lp t
        · exact absurd ⟨h30, htl⟩ hq
        · exact .inr (.inl ⟨rfl, rfl, h30, rfl⟩)
      · exact .inl ⟨rfl, rfl, h30⟩

/-- May an anniversary be asked; if not, both tell the same error. -/
theorem anniv_key (y n : Int) (c : Bool) (d t : Int) : (∃ j, n = cN (lp y) j ∧ c = cL (lp y) j ∧ HV y j d ∧ y < t ∧ t ≤ 9999) ∨ ∃ E : Int, E ≠ 0 ∧
    (∀ w, GT w → Calls Tryd.prog 32 #[.agg #[.int .i64 y, .int .i64 n, .bool c, .int .i64 d], .int .i64 t] w fun e w' => e = .returned (.tuple #[.agg #[.int .i64 0, .int .i64 0, .bool false, .int .i64 0], .int .i64 E]) ∧ Gr w w') ∧
    (∀ w, GT w → Calls Tryd.prog 34 #[.agg #[.int .i64 y, .int .i64 n, .bool c, .int .i64 d], .int .i64 t] w fun e w' => e = .returned (.tuple #[.agg #[.int .i64 0, .int .i64 0, .bool false, .int .i64 0], .int .i64 E]) ∧ Gr w w') := by
  have bad : ∀ E : Int, anE y t E ≠ 0 → (∀ w, GT w → Calls Tryd.prog 37 #[.agg #[.int .i64 y, .int .i64 n, .bool c, .int .i64 d]] w fun e w' => e = .returned (.int .i64 E) ∧ Gr w w') → ∃ E : Int, E ≠ 0 ∧
    (∀ w, GT w → Calls Tryd.prog 32 #[.agg #[.int .i64 y, .int .i64 n, .bool c, .int .i64 d], .int .i64 t] w fun e w' => e = .returned (.tuple #[.agg #[.int .i64 0, .int .i64 0, .bool false, .int .i64 0], .int .i64 E]) ∧ Gr w w') ∧
    (∀ w, GT w → Calls Tryd.prog 34 #[.agg #[.int .i64 y, .int .i64 n, .bool c, .int .i64 d], .int .i64 t] w fun e w' => e = .returned (.tuple #[.agg #[.int .i64 0, .int .i64 0, .bool false, .int .i64 0], .int .i64 E]) ∧ Gr w w') := fun E hE c1 =>
    ⟨anE y t E, hE, fun w G => birth_e y n d t _ c w hE fun W hW => ancheck_c y n d t E c W fun V hV => c1 V ((G.gr hW).gr hV), fun w G => death_e y n d t _ c w hE fun W hW => ancheck_c y n d t E c W fun V hV => c1 V ((G.gr hW).gr hV)⟩
  by_cases h : ∃ j, n = cN (lp y) j ∧ c = cL (lp y) j ∧ HV y j d
  · obtain ⟨j, rfl, rfl, hv⟩ := h
    by_cases ht : y < t ∧ t ≤ 9999
    · exact .inl ⟨j, rfl, rfl, hv, ht.1, ht.2⟩
    · refine .inr (bad 0 ?_ fun w G => hcheck_in y j d w G hv)
      unfold anE
      rw [if_pos rfl]
      split
      · decide
      · rw [if_pos (by omega)]; decide
  · obtain ⟨E, e0, e1, c1, -⟩ := cdate_bad y n c d h
    refine .inr (bad E ?_ c1)
    unfold anE
    rw [if_neg (by omega)]
    omega

theorem annivSame_t (y n : Int) (c : Bool) (d t : Int) (w : World) (G : GT w) :
    Calls Tryd.prog 10 #[.agg #[.int .i64 y, .int .i64 n, .bool c, .int .i64 d], .int .i64 t] w fun e w' => e = .returned (.bool true) ∧ Gr w w' := by
  rcases anniv_key y n c d t with ⟨j, rfl, rfl, hv, ht, t1⟩ | ⟨E, hE, c1, c2⟩
  · obtain ⟨J, D, hu, hp, c1⟩ := birth_year hv ht t1
    obtain ⟨J', D', hu', hp', c2⟩ := death_in hv ht t1
    refine same_core y _ d t _ _ _ _ _ _ _ w G (fun W hW => c1 W (G.gr hW)) (fun W hW => c2 W (G.gr hW)) (fun w => r10check_in t J D w hu) (fun w => r10check_in t J' D' w hu') ?_
    by_cases p : d < 30
    · cases hc : cL (lp y) j
      · by_cases n6 : cN (lp y) j = 6
        · exact .inr (.inr (.inr ⟨p, rfl, n6⟩))
        · obtain ⟨x1, x2, x3⟩ := hp (by omega) hc
          obtain ⟨x4, x5, x6⟩ := hp' (by omega) hc n6
          exact .inl ⟨p, rfl, n6, x1, by rw [x2, hc], x3, x4, by rw [x5, hc], x6⟩
      · exact .inr (.inr (.inl ⟨p, rfl⟩))
    · exact .inr (.inl p)
  · exact same_e y n d t E c w G hE (fun W hW => c1 W (G.gr hW)) (fun W hW => c2 W (G.gr hW))

end Go.Proofs.YtbalbkkimlbecaaDoor.Walks
