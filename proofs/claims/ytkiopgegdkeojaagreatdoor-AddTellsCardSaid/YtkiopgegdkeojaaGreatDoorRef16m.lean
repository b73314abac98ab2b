/- Walks of almanackerref16: a duration, added to a date. -/
import Derived.Test.YtkiopgegdkeojaaGreatDoorAddTo
import Derived.Test.YtkiopgegdkeojaaGreatDoorRef15b
set_option linter.unusedVariables false
set_option linter.unusedSimpArgs false
namespace Go.Proofs.YtkiopgegdkeojaaGreatDoor.Walks
open Go Go.RowKit Go.Sort Go.Proofs.YtkiopgegdkeojaaGreatDoor.Base Go.Proofs.YtkiopgegdkeojaaGreatDoor.Plain Go.Proofs.YtkiopgegdkeojaaGreatDoor.Math

theorem rfine_c (n : Int) (w : World) : Calls Tryz.prog 30 #[.int .i64 n] w fun e w' => e = .returned (.bool (spF n)) ∧ Gr w w' := by
  by_cases a : -4000000 ≤ n
  · by_cases b : n ≤ 4000000
    · rw [show spF n = true by unfold spF; simp; omega]
      go_enter Tryz.func30, Tryz.ntmps30
      go_wp2
      go_ret
      exact ⟨rfl, (by repeat (first | exact Gr.refl _ | refine Gr.setCell ?_ _ _ (by first | exact Nat.le_refl _ | (simp; omega) | (simp; done)) | refine Gr.grown ?_ _ _ | refine Gr.drewN ?_ _ | refine Gr.drew ?_ | refine Gr.alloc ?_ _ | refine Gr.grow ?_ _ | (refine Gr.trans ?_ (by assumption))))⟩
    · rw [show spF n = false by unfold spF; simp; omega]
      go_enter Tryz.func30, Tryz.ntmps30
      go_wp2
      go_ret
      exact ⟨rfl, (by repeat (first | exact Gr.refl _ | refine Gr.setCell ?_ _ _ (by first | exact Nat.le_refl _ | (simp; omega) | (simp; done)) | refine Gr.grown ?_ _ _ | refine Gr.drewN ?_ _ | refine Gr.drew ?_ | refine Gr.alloc ?_ _ | refine Gr.grow ?_ _ | (refine Gr.trans ?_ (by assumption))))⟩
  · rw [show spF n = false by unfold spF; simp; omega]
    go_enter Tryz.func30, Tryz.ntmps30
    go_wp2
    go_ret
    exact ⟨rfl, (by repeat (first | exact Gr.refl _ | refine Gr.setCell ?_ _ _ (by first | exact Nat.le_refl _ | (simp; omega) | (simp; done)) | refine Gr.grown ?_ _ _ | refine Gr.drewN ?_ _ | refine Gr.drew ?_ | refine Gr.alloc ?_ _ | refine Gr.grow ?_ _ | (refine Gr.trans ?_ (by assumption))))⟩
set_option maxRecDepth 20000 in
set_option maxHeartbeats 4000000 in
theorem rright16_c (a b c d : Int) (w : World) : Calls Tryz.prog 11 #[.agg #[.int .i64 a, .int .i64 b, .int .i64 c, .int .i64 d]] w fun e w' => e = .returned (.bool (spR a b c d)) ∧ Gr w w' := by
  have CA := Lib.hid fun W => rfine_c a W
  have CB := Lib.hid fun W => rfine_c b W
  have CC := Lib.hid fun W => rfine_c c W
  have CD := Lib.hid fun W => rfine_c d W
  obtain ⟨fa, ha⟩ : ∃ x, spF a = x := ⟨_, rfl⟩
  obtain ⟨fb, hb⟩ : ∃ x, spF b = x := ⟨_, rfl⟩
  obtain ⟨fc, hc⟩ : ∃ x, spF c = x := ⟨_, rfl⟩
  obtain ⟨fd, hd⟩ : ∃ x, spF d = x := ⟨_, rfl⟩
  unfold spR
  rw [ha] at CA ⊢
  rw [hb] at CB ⊢
  rw [hc] at CC ⊢
  rw [hd] at CD ⊢
  clear ha hb hc hd
  cases fa
  · go_enter Tryz.func11, Tryz.ntmps11
    go_wp2_with (first | (go_at_call 30; (with_reducible refine (CA.out _).mono ?_); rintro e wA ⟨rfl, hgwA⟩; obtain ⟨hclwA, hfzwA, hszwA⟩ := gcell hgwA; (try simp [Nat.add_one_le_iff] at hszwA); have hlwA_w : w.heap.size < wA.heap.size := (by omega)))
    go_ret
    exact ⟨rfl, (by repeat (first | exact Gr.refl _ | refine Gr.setCell ?_ _ _ (by first | exact Nat.le_refl _ | (simp; omega) | (simp; done)) | refine Gr.grown ?_ _ _ | refine Gr.drewN ?_ _ | refine Gr.drew ?_ | refine Gr.alloc ?_ _ | refine Gr.grow ?_ _ | (refine Gr.trans ?_ (by assumption))))⟩
  · cases fb
    · go_enter Tryz.func11, Tryz.ntmps11
      go_wp2_with (first | (go_at_call 30; (with_reducible refine (CA.out _).mono ?_); rintro e wA ⟨rfl, hgwA⟩; obtain ⟨hclwA, hfzwA, hszwA⟩ := gcell hgwA; (try simp [Nat.add_one_le_iff] at hszwA); have hlwA_w : w.heap.size < wA.heap.size := (by omega)) | (go_at_call 30; (with_reducible refine (CB.out _).mono ?_); rintro e wB ⟨rfl, hgwB⟩; obtain ⟨hclwB, hfzwB, hszwB⟩ := gcell hgwB; (try simp [Nat.add_one_le_iff] at hszwB); have hlwB_w : w.heap.size < wB.heap.size := (by omega)))
      go_ret
      exact ⟨rfl, (by repeat (first | exact Gr.refl _ | refine Gr.setCell ?_ _ _ (by first | exact Nat.le_refl _ | (simp; omega) | (simp; done)) | refine Gr.grown ?_ _ _ | refine Gr.drewN ?_ _ | refine Gr.drew ?_ | refine Gr.alloc ?_ _ | refine Gr.grow ?_ _ | (refine Gr.trans ?_ (by assumption))))⟩
    · cases fc
      · go_enter Tryz.func11, Tryz.ntmps11
        go_wp2_with (first | (go_at_call 30; (with_reducible refine (CA.out _).mono ?_); rintro e wA ⟨rfl, hgwA⟩; obtain ⟨hclwA, hfzwA, hszwA⟩ := gcell hgwA; (try simp [Nat.add_one_le_iff] at hszwA); have hlwA_w : w.heap.size < wA.heap.size := (by omega)) | (go_at_call 30; (with_reducible refine (CB.out _).mono ?_); rintro e wB ⟨rfl, hgwB⟩; obtain ⟨hclwB, hfzwB, hszwB⟩ := gcell hgwB; (try simp [Nat.add_one_le_iff] at hszwB); have hlwB_w : w.heap.size < wB.heap.size := (by omega)) | (go_at_call 30; (with_reducible refine (CC.out _).mono ?_); rintro e wC ⟨rfl, hgwC⟩; obtain ⟨hclwC, hfzwC, hszwC⟩ := gcell hgwC; (try simp [Nat.add_one_le_iff] at hszwC); have hlwC_w : w.heap.size < wC.heap.size := (by omega)))
        go_ret
        exact ⟨rfl, (by repeat (first | exact Gr.refl _ | refine Gr.setCell ?_ _ _ (by first | exact Nat.le_refl _ | (simp; omega) | (simp; done)) | refine Gr.grown ?_ _ _ | refine Gr.drewN ?_ _ | refine Gr.drew ?_ | refine Gr.alloc ?_ _ | refine Gr.grow ?_ _ | (refine Gr.trans ?_ (by assumption))))⟩
      · cases fd
        all_goals (
          go_enter Tryz.func11, Tryz.ntmps11
          go_wp2_with (first | (go_at_call 30; (with_reducible refine (CA.out _).mono ?_); rintro e wA ⟨rfl, hgwA⟩; obtain ⟨hclwA, hfzwA, hszwA⟩ := gcell hgwA; (try simp [Nat.add_one_le_iff] at hszwA); have hlwA_w : w.heap.size < wA.heap.size := (by omega)) | (go_at_call 30; (with_reducible refine (CB.out _).mono ?_); rintro e wB ⟨rfl, hgwB⟩; obtain ⟨hclwB, hfzwB, hszwB⟩ := gcell hgwB; (try simp [Nat.add_one_le_iff] at hszwB); have hlwB_w : w.heap.size < wB.heap.size := (by omega)) | (go_at_call 30; (with_reducible refine (CC.out _).mono ?_); rintro e wC ⟨rfl, hgwC⟩; obtain ⟨hclwC, hfzwC, hszwC⟩ := gcell hgwC; (try simp [Nat.add_one_le_iff] at hszwC); have hlwC_w : w.heap.size < wC.heap.size := (by omega)) | (go_at_call 30; (with_reducible refine (CD.out _).mono ?_); rintro e wD ⟨rfl, hgwD⟩; obtain ⟨hclwD, hfzwD, hszwD⟩ := gcell hgwD; (try simp [Nat.add_one_le_iff] at hszwD); have hlwD_w : w.heap.size < wD.heap.size := (by omega)))
          go_ret
          exact ⟨rfl, (by repeat (first | exact Gr.refl _ | refine Gr.setCell ?_ _ _ (by first | exact Nat.le_refl _ | (simp; omega) | (simp; done)) | refine Gr.grown ?_ _ _ | refine Gr.drewN ?_ _ | refine Gr.drew ?_ | refine Gr.alloc ?_ _ | refine Gr.grow ?_ _ | (refine Gr.trans ?_ (by assumption))))⟩)

set_option maxRecDepth 20000 in
set_option maxHeartbeats 8000000 in
theorem rto_bad (y n d p q r s m : Int) (c : Bool) (w : World) (h : spR p q r s = false ∨ ¬ (m = 0 ∨ m = 1)) :
    Calls Tryz.prog 8 #[.agg #[.int .i64 y, .int .i64 n, .bool c, .int .i64 d], .agg #[.int .i64 p, .int .i64 q, .int .i64 r, .int .i64 s], .int .i64 m] w fun e w' => e = .returned (.tuple #[.agg #[.int .i64 0, .int .i64 0, .bool false, .int .i64 0], .int .i64 1]) ∧ Gr w w' := by
  have CR := Lib.hid fun W => rright16_c p q r s W
  obtain ⟨R, hR⟩ : ∃ R, spR p q r s = R := ⟨_, rfl⟩
  rw [hR] at CR h
  clear hR
  cases R
  · go_enter Tryz.func8, Tryz.ntmps8
    go_wp2_with (first | (go_at_call 11; fail))
    obtain ⟨W0, hW0, DA, SA, RA, GA⟩ := to_new w y n d p q r s c
    rw [← hW0]
    clear hW0
    refine (CR.out _).mono ?_
    rintro e wA ⟨rfl, hgA⟩
    obtain ⟨lr, r0, r1, r2, r3, g0, g1, g2, g3⟩ := RA.gr hgA
    have GB := GA.trans hgA
    clear DA SA RA GA hgA
    go_wp2
    exact bodyPost_ret (v := .tuple #[.agg #[.int .i64 0, .int .i64 0, .bool false, .int .i64 0], .int .i64 1]) (by simp [results, Tryz.results8, go_sem, *]) rfl ⟨rfl, (by repeat (first | exact Gr.refl _ | refine Gr.setCell ?_ _ _ (by first | exact Nat.le_refl _ | (simp; omega) | (simp; done)) | refine Gr.grown ?_ _ _ | refine Gr.drewN ?_ _ | refine Gr.drew ?_ | refine Gr.alloc ?_ _ | refine Gr.grow ?_ _ | (refine Gr.trans ?_ (by assumption))))⟩
  · have h : ¬ (m = 0 ∨ m = 1) := h.resolve_left (by decide)
    by_cases a : m < 0
    · go_enter Tryz.func8, Tryz.ntmps8
      go_wp2_with (first | (go_at_call 11; fail))
      obtain ⟨W0, hW0, DA, SA, RA, GA⟩ := to_new w y n d p q r s c
      rw [← hW0]
      clear hW0
      refine (CR.out _).mono ?_
      rintro e wA ⟨rfl, hgA⟩
      obtain ⟨lr, r0, r1, r2, r3, g0, g1, g2, g3⟩ := RA.gr hgA
      have GB := GA.trans hgA
      clear DA SA RA GA hgA
      go_wp2
      exact bodyPost_ret (v := .tuple #[.agg #[.int .i64 0, .int .i64 0, .bool false, .int .i64 0], .int .i64 1]) (by simp [results, Tryz.results8, go_sem, *]) rfl ⟨rfl, (by repeat (first | exact Gr.refl _ | refine Gr.setCell ?_ _ _ (by first | exact Nat.le_refl _ | (simp; omega) | (simp; done)) | refine Gr.grown ?_ _ _ | refine Gr.drewN ?_ _ | refine Gr.drew ?_ | refine Gr.alloc ?_ _ | refine Gr.grow ?_ _ | (refine Gr.trans ?_ (by assumption))))⟩
    · have b : 1 < m := by omega
      clear h
      go_enter Tryz.func8, Tryz.ntmps8
      go_wp2_with (first | (go_at_call 11; fail))
      obtain ⟨W0, hW0, DA, SA, RA, GA⟩ := to_new w y n d p q r s c
      rw [← hW0]
      clear hW0
      refine (CR.out _).mono ?_
      rintro e wA ⟨rfl, hgA⟩
      obtain ⟨lr, r0, r1, r2, r3, g0, g1, g2, g3⟩ := RA.gr hgA
      have GB := GA.trans hgA
      clear DA SA RA GA hgA
      go_wp2
      exact bodyPost_ret (v := .tuple #[.agg #[.int .i64 0, .int .i64 0, .bool false, .int .i64 0], .int .i64 1]) (by simp [results, Tryz.results8, go_sem, *]) rfl ⟨rfl, (by repeat (first | exact Gr.refl _ | refine Gr.setCell ?_ _ _ (by first | exact Nat.le_refl _ | (simp; omega) | (simp; done)) | refine Gr.grown ?_ _ _ | refine Gr.drewN ?_ _ | refine Gr.drew ?_ | refine Gr.alloc ?_ _ | refine Gr.grow ?_ _ | (refine Gr.trans ?_ (by assumption))))⟩

/-- A code in a box. -/
structure C3 (w : World) (b : Nat) (n : Int) (c : Bool) : Prop where
  lt : b < w.heap.size
  c0 : w.cell? ⟨b, 0, none⟩ = some (.int .i64 n)
  c1 : w.cell? ⟨b, 1, none⟩ = some (.bool c)
  f0 : w.frozen? ⟨b, 0, none⟩ = false
  f1 : w.frozen? ⟨b, 1, none⟩ = false
theorem C3.gr {w w' : World} {b : Nat} {n : Int} {c : Bool} (h : C3 w b n c) (g : Gr w w') : C3 w' b n c := ⟨g.lt h.lt, g.keep h.lt h.c0, g.keep h.lt h.c1, g.thaw h.lt h.f0, g.thaw h.lt h.f1⟩
theorem C3.put {w : World} {b : Nat} {n : Int} {c : Bool} (h : C3 w b n c) (n' : Int) (c' : Bool) : C3 ((w.setCell ⟨b, 0, none⟩ (.int .i64 n')).setCell ⟨b, 1, none⟩ (.bool c')) b n' c' :=
  ⟨by rw [set_size, set_size]; exact h.lt, by rw [set_cell (set_cell h.c0)]; simp, by rw [set_cell (set_cell h.c1)]; simp, set_frozen (set_frozen h.f0), set_frozen (set_frozen h.f1)⟩
theorem C3.at {w : World} {b : Nat} (h : w.heap.size = b) (n : Int) (c : Bool) : C3 (w.alloc (.cells #[.int .i64 n, .bool c] 23)) b n c := by
  subst h
  exact ⟨by simp, by simp [go_sem], by simp [go_sem], by simp [go_sem], by simp [go_sem]⟩
theorem D5.set {w : World} {b b' o : Nat} {y n d : Int} {c : Bool} {v : Value} (h : D5 w b y n c d) (hb : b ≠ b') : D5 (w.setCell ⟨b', o, none⟩ v) b y n c d :=
  ⟨by rw [set_size]; exact h.lt, (set_other _ _ _ _ _ _ hb).trans h.c0, (set_other _ _ _ _ _ _ hb).trans h.c1, (set_other _ _ _ _ _ _ hb).trans h.c2, (set_other _ _ _ _ _ _ hb).trans h.c3, set_frozen h.f0, set_frozen h.f1, set_frozen h.f2, set_frozen h.f3⟩
theorem S4.set {w : World} {b b' o : Nat} {p q r s : Int} {v : Value} (h : S4 w b p q r s) (hb : b ≠ b') : S4 (w.setCell ⟨b', o, none⟩ v) b p q r s :=
  ⟨by rw [set_size]; exact h.lt, (set_other _ _ _ _ _ _ hb).trans h.c0, (set_other _ _ _ _ _ _ hb).trans h.c1, (set_other _ _ _ _ _ _ hb).trans h.c2, (set_other _ _ _ _ _ _ hb).trans h.c3⟩

end Go.Proofs.YtkiopgegdkeojaaGreatDoor.Walks

/- Walks of almanackerref16.To, step by step; what it tells of every input. -/
namespace Go.Proofs.YtkiopgegdkeojaaGreatDoor.Walks
open Go Go.RowKit Go.Sort Go.Proofs.YtkiopgegdkeojaaGreatDoor.Base Go.Proofs.YtkiopgegdkeojaaGreatDoor.Plain Go.Proofs.YtkiopgegdkeojaaGreatDoor.Math

theorem rspR_of {p q r s : Int} (h : spR p q r s = true) : (-4000000 ≤ p ∧ p ≤ 4000000) ∧ (-4000000 ≤ q ∧ q ≤ 4000000) ∧ (-4000000 ≤ r ∧ r ≤ 4000000) ∧ (-4000000 ≤ s ∧ s ≤ 4000000) := by
  unfold spR spF at h
  simp only [Bool.and_eq_true, decide_eq_true_eq] at h
  exact ⟨h.1, h.2.1, h.2.2.1, h.2.2.2⟩
set_option maxRecDepth 20000 in
set_option maxHeartbeats 8000000 in
theorem rto_0 (y n d p q r s m : Int) (c : Bool) (E : Int) (w : World) (hR : spR p q r s = true) (hm : m = 0 ∨ m = 1) (hE : E ≠ 0) 
    (h0 : ∀ w, Calls Tryz.prog 23 #[.agg #[.int .i64 y, .int .i64 n, .bool c, .int .i64 d]] w fun e w' => e = .returned (.int .i64 E) ∧ Gr w w') :
    Calls Tryz.prog 8 #[.agg #[.int .i64 y, .int .i64 n, .bool c, .int .i64 d], .agg #[.int .i64 p, .int .i64 q, .int .i64 r, .int .i64 s], .int .i64 m] w fun e w' => e = .returned (.tuple #[.agg #[.int .i64 0, .int .i64 0, .bool false, .int .i64 0], .int .i64 E]) ∧ Gr w w' := by
  have H0 := Lib.hid h0
  have CR : RowKit.Hid (∀ W, Calls Tryz.prog 11 #[.agg #[.int .i64 p, .int .i64 q, .int .i64 r, .int .i64 s]] W fun e w' => e = .returned (.bool true) ∧ Gr W w') := Lib.hid fun W => by
    have := rright16_c p q r s W
    rwa [hR] at this
  obtain ⟨⟨b0, b1⟩, -, ⟨b2, b3⟩, b4, b5⟩ := rspR_of hR
  have m0 : ¬ m < 0 := by omega
  have m1 : ¬ 1 < m := by omega
  have e1 : (E == 0) = false := beq_eq_false_iff_ne.2 hE
  have e2 : (E != 0) = true := by simp [bne_iff_ne, hE]
  clear h0 hR hm
  go_enter Tryz.func8, Tryz.ntmps8
  go_wp2_with (first | (go_at_call 11; fail))
  obtain ⟨W0, hW0, DA, SA, RA, GA⟩ := to_new w y n d p q r s c
  rw [← hW0]
  clear hW0
  refine (CR.out _).mono ?_
  rintro e wA ⟨rfl, hgA⟩
  have DA := DA.gr hgA
  have SA := SA.gr hgA
  have RA := RA.gr hgA
  have GA := GA.trans hgA
  clear hgA
  have D_ := DA
  obtain ⟨lt, c0, c1, c2, c3, z0, z1, z2, z3⟩ := D_
  have S_ := SA
  obtain ⟨ls, p0, p1, p2, p3⟩ := S_
  have R_ := RA
  obtain ⟨lr, r0, r1, r2, r3, g0, g1, g2, g3⟩ := R_
  go_wp2_with (first | ((go_at_call 23; (with_reducible refine (H0.out _).mono ?_); rintro e wB ⟨rfl, hgwB⟩); have g1 := hgwB; have DA := DA.gr g1; have SA := SA.gr g1; have RA := RA.gr g1; clear lt c0 c1 c2 c3 z0 z1 z2 z3 ls p0 p1 p2 p3 lr r0 r1 r2 r3 g0 g1 g2 g3 ; have D_ := DA; obtain ⟨lt, c0, c1, c2, c3, z0, z1, z2, z3⟩ := D_; have S_ := SA; obtain ⟨ls, p0, p1, p2, p3⟩ := S_; have R_ := RA; obtain ⟨lr, r0, r1, r2, r3, g0, g1, g2, g3⟩ := R_))
  exact bodyPost_ret (v := .tuple #[.agg #[.int .i64 0, .int .i64 0, .bool false, .int .i64 0], .int .i64 E]) (by simp [results, Tryz.results8, go_sem, *]) rfl ⟨rfl, (by repeat (first | exact Gr.refl _ | refine Gr.setCell ?_ _ _ (by first | exact Nat.le_refl _ | (simp; omega) | (simp; done) | (show (_ : Nat) ≤ _; omega)) | refine Gr.grown ?_ _ _ | refine Gr.drewN ?_ _ | refine Gr.drew ?_ | refine Gr.alloc ?_ _ | refine Gr.grow ?_ _ | (refine Gr.trans ?_ (by assumption))))⟩

set_option maxRecDepth 20000 in
set_option maxHeartbeats 8000000 in
theorem rto_1 (y n d p q r s m : Int) (c : Bool) (N1 E : Int) (C1 : Bool) (w : World) (hR : spR p q r s = true) (hm : m = 0 ∨ m = 1) (y0 : 1 ≤ y) (y1 : y ≤ 9999) (hE : E ≠ 0) 
    (h0 : ∀ w, Calls Tryz.prog 23 #[.agg #[.int .i64 y, .int .i64 n, .bool c, .int .i64 d]] w fun e w' => e = .returned (.int .i64 0) ∧ Gr w w')
    (h1 : ∀ w, Calls Tryz.prog 24 #[.int .i64 (y + p), .agg #[.int .i64 n, .bool c], .int .i64 m] w fun e w' => e = .returned (.tuple #[.agg #[.int .i64 N1, .bool C1], .int .i64 E]) ∧ Gr w w') :
    Calls Tryz.prog 8 #[.agg #[.int .i64 y, .int .i64 n, .bool c, .int .i64 d], .agg #[.int .i64 p, .int .i64 q, .int .i64 r, .int .i64 s], .int .i64 m] w fun e w' => e = .returned (.tuple #[.agg #[.int .i64 0, .int .i64 0, .bool false, .int .i64 0], .int .i64 E]) ∧ Gr w w' := by
  have H0 := Lib.hid h0
  have H1 := Lib.hid h1
  have CR : RowKit.Hid (∀ W, Calls Tryz.prog 11 #[.agg #[.int .i64 p, .int .i64 q, .int .i64 r, .int .i64 s]] W fun e w' => e = .returned (.bool true) ∧ Gr W w') := Lib.hid fun W => by
    have := rright16_c p q r s W
    rwa [hR] at this
  obtain ⟨⟨b0, b1⟩, -, ⟨b2, b3⟩, b4, b5⟩ := rspR_of hR
  have m0 : ¬ m < 0 := by omega
  have m1 : ¬ 1 < m := by omega
  have e1 : (E == 0) = false := beq_eq_false_iff_ne.2 hE
  have e2 : (E != 0) = true := by simp [bne_iff_ne, hE]
  clear h0 h1 hR hm
  go_enter Tryz.func8, Tryz.ntmps8
  go_wp2_with (first | (go_at_call 11; fail))
  obtain ⟨W0, hW0, DA, SA, RA, GA⟩ := to_new w y n d p q r s c
  rw [← hW0]
  clear hW0
  refine (CR.out _).mono ?_
  rintro e wA ⟨rfl, hgA⟩
  have DA := DA.gr hgA
  have SA := SA.gr hgA
  have RA := RA.gr hgA
  have GA := GA.trans hgA
  clear hgA
  have D_ := DA
  obtain ⟨lt, c0, c1, c2, c3, z0, z1, z2, z3⟩ := D_
  have S_ := SA
  obtain ⟨ls, p0, p1, p2, p3⟩ := S_
  have R_ := RA
  obtain ⟨lr, r0, r1, r2, r3, g0, g1, g2, g3⟩ := R_
  go_wp2_with (first | ((go_at_call 23; (with_reducible refine (H0.out _).mono ?_); rintro e wB ⟨rfl, hgwB⟩); have g1 := hgwB; have DA := DA.gr g1; have SA := SA.gr g1; have RA := RA.gr g1; clear lt c0 c1 c2 c3 z0 z1 z2 z3 ls p0 p1 p2 p3 lr r0 r1 r2 r3 g0 g1 g2 g3 ; have D_ := DA; obtain ⟨lt, c0, c1, c2, c3, z0, z1, z2, z3⟩ := D_; have S_ := SA; obtain ⟨ls, p0, p1, p2, p3⟩ := S_; have R_ := RA; obtain ⟨lr, r0, r1, r2, r3, g0, g1, g2, g3⟩ := R_) |
    ((go_at_call 24; (with_reducible refine (H1.out _).mono ?_); rintro e wC ⟨rfl, hgwC⟩); have g1 := hgwC; have DA := DA.gr g1; have SA := SA.gr g1; have RA := RA.gr g1; clear lt c0 c1 c2 c3 z0 z1 z2 z3 ls p0 p1 p2 p3 lr r0 r1 r2 r3 g0 g1 g2 g3 ; have D_ := DA; obtain ⟨lt, c0, c1, c2, c3, z0, z1, z2, z3⟩ := D_; have S_ := SA; obtain ⟨ls, p0, p1, p2, p3⟩ := S_; have R_ := RA; obtain ⟨lr, r0, r1, r2, r3, g0, g1, g2, g3⟩ := R_; have nW := lr; have nR : ¬ w.heap.size + 1 + 1 = wC.heap.size := (by omega); have nR2 : ¬ wC.heap.size = w.heap.size + 1 + 1 := (by omega)))
  exact bodyPost_ret (v := .tuple #[.agg #[.int .i64 0, .int .i64 0, .bool false, .int .i64 0], .int .i64 E]) (by simp [results, Tryz.results8, go_sem, *]) rfl ⟨rfl, (by repeat (first | exact Gr.refl _ | refine Gr.setCell ?_ _ _ (by first | exact Nat.le_refl _ | (simp; omega) | (simp; done) | (show (_ : Nat) ≤ _; omega)) | refine Gr.grown ?_ _ _ | refine Gr.drewN ?_ _ | refine Gr.drew ?_ | refine Gr.alloc ?_ _ | refine Gr.grow ?_ _ | (refine Gr.trans ?_ (by assumption))))⟩

set_option maxRecDepth 20000 in
set_option maxHeartbeats 8000000 in
theorem rto_2 (y n d p q r s m : Int) (c : Bool) (N1 Y2 N2 E : Int) (C1 C2 : Bool) (w : World) (hR : spR p q r s = true) (hm : m = 0 ∨ m = 1) (y0 : 1 ≤ y) (y1 : y ≤ 9999) (hE : E ≠ 0) 
    (h0 : ∀ w, Calls Tryz.prog 23 #[.agg #[.int .i64 y, .int .i64 n, .bool c, .int .i64 d]] w fun e w' => e = .returned (.int .i64 0) ∧ Gr w w')
    (h1 : ∀ w, Calls Tryz.prog 24 #[.int .i64 (y + p), .agg #[.int .i64 n, .bool c], .int .i64 m] w fun e w' => e = .returned (.tuple #[.agg #[.int .i64 N1, .bool C1], .int .i64 0]) ∧ Gr w w')
    (h2 : ∀ w, Calls Tryz.prog 25 #[.int .i64 (y + p), .agg #[.int .i64 N1, .bool C1], .int .i64 q] w fun e w' => e = .returned (.tuple #[.int .i64 Y2, .agg #[.int .i64 N2, .bool C2], .int .i64 E]) ∧ Gr w w') :
    Calls Tryz.prog 8 #[.agg #[.int .i64 y, .int .i64 n, .bool c, .int .i64 d], .agg #[.int .i64 p, .int .i64 q, .int .i64 r, .int .i64 s], .int .i64 m] w fun e w' => e = .returned (.tuple #[.agg #[.int .i64 0, .int .i64 0, .bool false, .int .i64 0], .int .i64 E]) ∧ Gr w w' := by
  have H0 := Lib.hid h0
  have H1 := Lib.hid h1
  have H2 := Lib.hid h2
  have CR : RowKit.Hid (∀ W, Calls Tryz.prog 11 #[.agg #[.int .i64 p, .int .i64 q, .int .i64 r, .int .i64 s]] W fun e w' => e = .returned (.bool true) ∧ Gr W w') := Lib.hid fun W => by
    have := rright16_c p q r s W
    rwa [hR] at this
  obtain ⟨⟨b0, b1⟩, -, ⟨b2, b3⟩, b4, b5⟩ := rspR_of hR
  have m0 : ¬ m < 0 := by omega
  have m1 : ¬ 1 < m := by omega
  have e1 : (E == 0) = false := beq_eq_false_iff_ne.2 hE
  have e2 : (E != 0) = true := by simp [bne_iff_ne, hE]
  clear h0 h1 h2 hR hm
  go_enter Tryz.func8, Tryz.ntmps8
  go_wp2_with (first | (go_at_call 11; fail))
  obtain ⟨W0, hW0, DA, SA, RA, GA⟩ := to_new w y n d p q r s c
  rw [← hW0]
  clear hW0
  refine (CR.out _).mono ?_
  rintro e wA ⟨rfl, hgA⟩
  have DA := DA.gr hgA
  have SA := SA.gr hgA
  have RA := RA.gr hgA
  have GA := GA.trans hgA
  clear hgA
  have D_ := DA
  obtain ⟨lt, c0, c1, c2, c3, z0, z1, z2, z3⟩ := D_
  have S_ := SA
  obtain ⟨ls, p0, p1, p2, p3⟩ := S_
  have R_ := RA
  obtain ⟨lr, r0, r1, r2, r3, g0, g1, g2, g3⟩ := R_
  go_wp2_with (first | ((go_at_call 23; (with_reducible refine (H0.out _).mono ?_); rintro e wB ⟨rfl, hgwB⟩); have g1 := hgwB; have DA := DA.gr g1; have SA := SA.gr g1; have RA := RA.gr g1; clear lt c0 c1 c2 c3 z0 z1 z2 z3 ls p0 p1 p2 p3 lr r0 r1 r2 r3 g0 g1 g2 g3 ; have D_ := DA; obtain ⟨lt, c0, c1, c2, c3, z0, z1, z2, z3⟩ := D_; have S_ := SA; obtain ⟨ls, p0, p1, p2, p3⟩ := S_; have R_ := RA; obtain ⟨lr, r0, r1, r2, r3, g0, g1, g2, g3⟩ := R_) |
    ((go_at_call 24; (with_reducible refine (H1.out _).mono ?_); rintro e wC ⟨rfl, hgwC⟩); have g1 := hgwC; have DA := DA.gr g1; have SA := SA.gr g1; have RA := RA.gr g1; clear lt c0 c1 c2 c3 z0 z1 z2 z3 ls p0 p1 p2 p3 lr r0 r1 r2 r3 g0 g1 g2 g3 ; have D_ := DA; obtain ⟨lt, c0, c1, c2, c3, z0, z1, z2, z3⟩ := D_; have S_ := SA; obtain ⟨ls, p0, p1, p2, p3⟩ := S_; have R_ := RA; obtain ⟨lr, r0, r1, r2, r3, g0, g1, g2, g3⟩ := R_; have nW := lr; have nR : ¬ w.heap.size + 1 + 1 = wC.heap.size := (by omega); have nR2 : ¬ wC.heap.size = w.heap.size + 1 + 1 := (by omega)) |
    ((go_at_call 25; (with_reducible refine (H2.out _).mono ?_); rintro e wD ⟨rfl, hgwD⟩); have g1 := ((Gr.refl wC).alloc _).trans hgwD; have DA := DA.gr g1; have SA := SA.gr g1; have RA := RA.gr g1; clear lt c0 c1 c2 c3 z0 z1 z2 z3 ls p0 p1 p2 p3 lr r0 r1 r2 r3 g0 g1 g2 g3 ; have D_ := DA; obtain ⟨lt, c0, c1, c2, c3, z0, z1, z2, z3⟩ := D_; have S_ := SA; obtain ⟨ls, p0, p1, p2, p3⟩ := S_; have R_ := RA; obtain ⟨lr, r0, r1, r2, r3, g0, g1, g2, g3⟩ := R_; have CA := (C3.at (w := wC) rfl N1 C1).gr hgwD; have C_ := CA; obtain ⟨lk, k0, k1, x0, x1⟩ := C_))
  exact bodyPost_ret (v := .tuple #[.agg #[.int .i64 0, .int .i64 0, .bool false, .int .i64 0], .int .i64 E]) (by simp [results, Tryz.results8, go_sem, *]) rfl ⟨rfl, (by repeat (first | exact Gr.refl _ | refine Gr.setCell ?_ _ _ (by first | exact Nat.le_refl _ | (simp; omega) | (simp; done) | (show (_ : Nat) ≤ _; omega)) | refine Gr.grown ?_ _ _ | refine Gr.drewN ?_ _ | refine Gr.drew ?_ | refine Gr.alloc ?_ _ | refine Gr.grow ?_ _ | (refine Gr.trans ?_ (by assumption))))⟩

set_option maxRecDepth 20000 in
set_option maxHeartbeats 8000000 in
theorem rto_3 (y n d p q r s m : Int) (c : Bool) (N1 Y2 N2 D3 E : Int) (C1 C2 : Bool) (w : World) (hR : spR p q r s = true) (hm : m = 0 ∨ m = 1) (y0 : 1 ≤ y) (y1 : y ≤ 9999) (hE : E ≠ 0) 
    (h0 : ∀ w, Calls Tryz.prog 23 #[.agg #[.int .i64 y, .int .i64 n, .bool c, .int .i64 d]] w fun e w' => e = .returned (.int .i64 0) ∧ Gr w w')
    (h1 : ∀ w, Calls Tryz.prog 24 #[.int .i64 (y + p), .agg #[.int .i64 n, .bool c], .int .i64 m] w fun e w' => e = .returned (.tuple #[.agg #[.int .i64 N1, .bool C1], .int .i64 0]) ∧ Gr w w')
    (h2 : ∀ w, Calls Tryz.prog 25 #[.int .i64 (y + p), .agg #[.int .i64 N1, .bool C1], .int .i64 q] w fun e w' => e = .returned (.tuple #[.int .i64 Y2, .agg #[.int .i64 N2, .bool C2], .int .i64 0]) ∧ Gr w w')
    (h3 : ∀ w, Calls Tryz.prog 26 #[.int .i64 Y2, .agg #[.int .i64 N2, .bool C2], .int .i64 d, .int .i64 m] w fun e w' => e = .returned (.tuple #[.int .i64 D3, .int .i64 E]) ∧ Gr w w') :
    Calls Tryz.prog 8 #[.agg #[.int .i64 y, .int .i64 n, .bool c, .int .i64 d], .agg #[.int .i64 p, .int .i64 q, .int .i64 r, .int .i64 s], .int .i64 m] w fun e w' => e = .returned (.tuple #[.agg #[.int .i64 0, .int .i64 0, .bool false, .int .i64 0], .int .i64 E]) ∧ Gr w w' := by
  have H0 := Lib.hid h0
  have H1 := Lib.hid h1
  have H2 := Lib.hid h2
  have H3 := Lib.hid h3
  have CR : RowKit.Hid (∀ W, Calls Tryz.prog 11 #[.agg #[.int .i64 p, .int .i64 q, .int .i64 r, .int .i64 s]] W fun e w' => e = .returned (.bool true) ∧ Gr W w') := Lib.hid fun W => by
    have := rright16_c p q r s W
    rwa [hR] at this
  obtain ⟨⟨b0, b1⟩, -, ⟨b2, b3⟩, b4, b5⟩ := rspR_of hR
  have m0 : ¬ m < 0 := by omega
  have m1 : ¬ 1 < m := by omega
  have e1 : (E == 0) = false := beq_eq_false_iff_ne.2 hE
  have e2 : (E != 0) = true := by simp [bne_iff_ne, hE]
  clear h0 h1 h2 h3 hR hm
  go_enter Tryz.func8, Tryz.ntmps8
  go_wp2_with (first | (go_at_call 11; fail))
  obtain ⟨W0, hW0, DA, SA, RA, GA⟩ := to_new w y n d p q r s c
  rw [← hW0]
  clear hW0
  refine (CR.out _).mono ?_
  rintro e wA ⟨rfl, hgA⟩
  have DA := DA.gr hgA
  have SA := SA.gr hgA
  have RA := RA.gr hgA
  have GA := GA.trans hgA
  clear hgA
  have D_ := DA
  obtain ⟨lt, c0, c1, c2, c3, z0, z1, z2, z3⟩ := D_
  have S_ := SA
  obtain ⟨ls, p0, p1, p2, p3⟩ := S_
  have R_ := RA
  obtain ⟨lr, r0, r1, r2, r3, g0, g1, g2, g3⟩ := R_
  go_wp2_with (first | ((go_at_call 23; (with_reducible refine (H0.out _).mono ?_); rintro e wB ⟨rfl, hgwB⟩); have g1 := hgwB; have DA := DA.gr g1; have SA := SA.gr g1; have RA := RA.gr g1; clear lt c0 c1 c2 c3 z0 z1 z2 z3 ls p0 p1 p2 p3 lr r0 r1 r2 r3 g0 g1 g2 g3 ; have D_ := DA; obtain ⟨lt, c0, c1, c2, c3, z0, z1, z2, z3⟩ := D_; have S_ := SA; obtain ⟨ls, p0, p1, p2, p3⟩ := S_; have R_ := RA; obtain ⟨lr, r0, r1, r2, r3, g0, g1, g2, g3⟩ := R_) |
    ((go_at_call 24; (with_reducible refine (H1.out _).mono ?_); rintro e wC ⟨rfl, hgwC⟩); have g1 := hgwC; have DA := DA.gr g1; have SA := SA.gr g1; have RA := RA.gr g1; clear lt c0 c1 c2 c3 z0 z1 z2 z3 ls p0 p1 p2 p3 lr r0 r1 r2 r3 g0 g1 g2 g3 ; have D_ := DA; obtain ⟨lt, c0, c1, c2, c3, z0, z1, z2, z3⟩ := D_; have S_ := SA; obtain ⟨ls, p0, p1, p2, p3⟩ := S_; have R_ := RA; obtain ⟨lr, r0, r1, r2, r3, g0, g1, g2, g3⟩ := R_; have nW := lr; have nR : ¬ w.heap.size + 1 + 1 = wC.heap.size := (by omega); have nR2 : ¬ wC.heap.size = w.heap.size + 1 + 1 := (by omega)) |
    ((go_at_call 25; (with_reducible refine (H2.out _).mono ?_); rintro e wD ⟨rfl, hgwD⟩); have g1 := ((Gr.refl wC).alloc _).trans hgwD; have DA := DA.gr g1; have SA := SA.gr g1; have RA := RA.gr g1; clear lt c0 c1 c2 c3 z0 z1 z2 z3 ls p0 p1 p2 p3 lr r0 r1 r2 r3 g0 g1 g2 g3 ; have D_ := DA; obtain ⟨lt, c0, c1, c2, c3, z0, z1, z2, z3⟩ := D_; have S_ := SA; obtain ⟨ls, p0, p1, p2, p3⟩ := S_; have R_ := RA; obtain ⟨lr, r0, r1, r2, r3, g0, g1, g2, g3⟩ := R_; have CA := (C3.at (w := wC) rfl N1 C1).gr hgwD; have C_ := CA; obtain ⟨lk, k0, k1, x0, x1⟩ := C_) |
    ((go_at_call 26; (with_reducible refine (H3.out _).mono ?_); rintro e wE ⟨rfl, hgwE⟩); have g1 := hgwE; have DA := ((DA.set (b' := wC.heap.size) (o := 0) (v := .int .i64 N2) (by omega)).set (b' := wC.heap.size) (o := 1) (v := .bool C2) (by omega)).gr g1; have SA := ((SA.set (b' := wC.heap.size) (o := 0) (v := .int .i64 N2) (by omega)).set (b' := wC.heap.size) (o := 1) (v := .bool C2) (by omega)).gr g1; have RA := ((RA.set (b' := wC.heap.size) (o := 0) (v := .int .i64 N2) (by omega)).set (b' := wC.heap.size) (o := 1) (v := .bool C2) (by omega)).gr g1; clear lt c0 c1 c2 c3 z0 z1 z2 z3 ls p0 p1 p2 p3 lr r0 r1 r2 r3 g0 g1 g2 g3 lk k0 k1 x0 x1; have D_ := DA; obtain ⟨lt, c0, c1, c2, c3, z0, z1, z2, z3⟩ := D_; have S_ := SA; obtain ⟨ls, p0, p1, p2, p3⟩ := S_; have R_ := RA; obtain ⟨lr, r0, r1, r2, r3, g0, g1, g2, g3⟩ := R_; have CA := (CA.put N2 C2).gr hgwE; have C_ := CA; obtain ⟨lk, k0, k1, x0, x1⟩ := C_))
  exact bodyPost_ret (v := .tuple #[.agg #[.int .i64 0, .int .i64 0, .bool false, .int .i64 0], .int .i64 E]) (by simp [results, Tryz.results8, go_sem, *]) rfl ⟨rfl, (by repeat (first | exact Gr.refl _ | refine Gr.setCell ?_ _ _ (by first | exact Nat.le_refl _ | (simp; omega) | (simp; done) | (show (_ : Nat) ≤ _; omega)) | refine Gr.grown ?_ _ _ | refine Gr.drewN ?_ _ | refine Gr.drew ?_ | refine Gr.alloc ?_ _ | refine Gr.grow ?_ _ | (refine Gr.trans ?_ (by assumption))))⟩

set_option maxRecDepth 20000 in
set_option maxHeartbeats 8000000 in
theorem rto_5 (y n d p q r s m : Int) (c : Bool) (N1 Y2 N2 D3 H R1 R2 R4 E : Int) (C1 C2 R3 : Bool) (w : World) (hR : spR p q r s = true) (hm : m = 0 ∨ m = 1) (y0 : 1 ≤ y) (y1 : y ≤ 9999) (H0b : -1373427 ≤ H) (H1b : H ≤ 2278650) 
    (h0 : ∀ w, Calls Tryz.prog 23 #[.agg #[.int .i64 y, .int .i64 n, .bool c, .int .i64 d]] w fun e w' => e = .returned (.int .i64 0) ∧ Gr w w')
    (h1 : ∀ w, Calls Tryz.prog 24 #[.int .i64 (y + p), .agg #[.int .i64 n, .bool c], .int .i64 m] w fun e w' => e = .returned (.tuple #[.agg #[.int .i64 N1, .bool C1], .int .i64 0]) ∧ Gr w w')
    (h2 : ∀ w, Calls Tryz.prog 25 #[.int .i64 (y + p), .agg #[.int .i64 N1, .bool C1], .int .i64 q] w fun e w' => e = .returned (.tuple #[.int .i64 Y2, .agg #[.int .i64 N2, .bool C2], .int .i64 0]) ∧ Gr w w')
    (h3 : ∀ w, Calls Tryz.prog 26 #[.int .i64 Y2, .agg #[.int .i64 N2, .bool C2], .int .i64 d, .int .i64 m] w fun e w' => e = .returned (.tuple #[.int .i64 D3, .int .i64 0]) ∧ Gr w w')
    (h4 : ∀ w, Calls Tryz.prog 17 #[.agg #[.int .i64 Y2, .int .i64 N2, .bool C2, .int .i64 D3]] w fun e w' => e = .returned (.tuple #[.int .i64 H, .int .i64 0]) ∧ Gr w w')
    (h5 : ∀ w, Calls Tryz.prog 27 #[.int .i64 (H + 7 * r + s)] w fun e w' => e = .returned (.tuple #[.agg #[.int .i64 R1, .int .i64 R2, .bool R3, .int .i64 R4], .int .i64 E]) ∧ Gr w w') :
    Calls Tryz.prog 8 #[.agg #[.int .i64 y, .int .i64 n, .bool c, .int .i64 d], .agg #[.int .i64 p, .int .i64 q, .int .i64 r, .int .i64 s], .int .i64 m] w fun e w' => e = .returned (.tuple #[.agg #[.int .i64 R1, .int .i64 R2, .bool R3, .int .i64 R4], .int .i64 E]) ∧ Gr w w' := by
  have H0 := Lib.hid h0
  have H1 := Lib.hid h1
  have H2 := Lib.hid h2
  have H3 := Lib.hid h3
  have H4 := Lib.hid h4
  have H5 := Lib.hid h5
  have CR : RowKit.Hid (∀ W, Calls Tryz.prog 11 #[.agg #[.int .i64 p, .int .i64 q, .int .i64 r, .int .i64 s]] W fun e w' => e = .returned (.bool true) ∧ Gr W w') := Lib.hid fun W => by
    have := rright16_c p q r s W
    rwa [hR] at this
  obtain ⟨⟨b0, b1⟩, -, ⟨b2, b3⟩, b4, b5⟩ := rspR_of hR
  have m0 : ¬ m < 0 := by omega
  have m1 : ¬ 1 < m := by omega
  clear h0 h1 h2 h3 h4 h5 hR hm
  go_enter Tryz.func8, Tryz.ntmps8
  go_wp2_with (first | (go_at_call 11; fail))
  obtain ⟨W0, hW0, DA, SA, RA, GA⟩ := to_new w y n d p q r s c
  rw [← hW0]
  clear hW0
  refine (CR.out _).mono ?_
  rintro e wA ⟨rfl, hgA⟩
  have DA := DA.gr hgA
  have SA := SA.gr hgA
  have RA := RA.gr hgA
  have GA := GA.trans hgA
  clear hgA
  have D_ := DA
  obtain ⟨lt, c0, c1, c2, c3, z0, z1, z2, z3⟩ := D_
  have S_ := SA
  obtain ⟨ls, p0, p1, p2, p3⟩ := S_
  have R_ := RA
  obtain ⟨lr, r0, r1, r2, r3, g0, g1, g2, g3⟩ := R_
  go_wp2_with (first | ((go_at_call 23; (with_reducible refine (H0.out _).mono ?_); rintro e wB ⟨rfl, hgwB⟩); have g1 := hgwB; have DA := DA.gr g1; have SA := SA.gr g1; have RA := RA.gr g1; clear lt c0 c1 c2 c3 z0 z1 z2 z3 ls p0 p1 p2 p3 lr r0 r1 r2 r3 g0 g1 g2 g3 ; have D_ := DA; obtain ⟨lt, c0, c1, c2, c3, z0, z1, z2, z3⟩ := D_; have S_ := SA; obtain ⟨ls, p0, p1, p2, p3⟩ := S_; have R_ := RA; obtain ⟨lr, r0, r1, r2, r3, g0, g1, g2, g3⟩ := R_) |
    ((go_at_call 24; (with_reducible refine (H1.out _).mono ?_); rintro e wC ⟨rfl, hgwC⟩); have g1 := hgwC; have DA := DA.gr g1; have SA := SA.gr g1; have RA := RA.gr g1; clear lt c0 c1 c2 c3 z0 z1 z2 z3 ls p0 p1 p2 p3 lr r0 r1 r2 r3 g0 g1 g2 g3 ; have D_ := DA; obtain ⟨lt, c0, c1, c2, c3, z0, z1, z2, z3⟩ := D_; have S_ := SA; obtain ⟨ls, p0, p1, p2, p3⟩ := S_; have R_ := RA; obtain ⟨lr, r0, r1, r2, r3, g0, g1, g2, g3⟩ := R_; have nW := lr; have nR : ¬ w.heap.size + 1 + 1 = wC.heap.size := (by omega); have nR2 : ¬ wC.heap.size = w.heap.size + 1 + 1 := (by omega)) |
    ((go_at_call 25; (with_reducible refine (H2.out _).mono ?_); rintro e wD ⟨rfl, hgwD⟩); have g1 := ((Gr.refl wC).alloc _).trans hgwD; have DA := DA.gr g1; have SA := SA.gr g1; have RA := RA.gr g1; clear lt c0 c1 c2 c3 z0 z1 z2 z3 ls p0 p1 p2 p3 lr r0 r1 r2 r3 g0 g1 g2 g3 ; have D_ := DA; obtain ⟨lt, c0, c1, c2, c3, z0, z1, z2, z3⟩ := D_; have S_ := SA; obtain ⟨ls, p0, p1, p2, p3⟩ := S_; have R_ := RA; obtain ⟨lr, r0, r1, r2, r3, g0, g1, g2, g3⟩ := R_; have CA := (C3.at (w := wC) rfl N1 C1).gr hgwD; have C_ := CA; obtain ⟨lk, k0, k1, x0, x1⟩ := C_) |
    ((go_at_call 26; (with_reducible refine (H3.out _).mono ?_); rintro e wE ⟨rfl, hgwE⟩); have g1 := hgwE; have DA := ((DA.set (b' := wC.heap.size) (o := 0) (v := .int .i64 N2) (by omega)).set (b' := wC.heap.size) (o := 1) (v := .bool C2) (by omega)).gr g1; have SA := ((SA.set (b' := wC.heap.size) (o := 0) (v := .int .i64 N2) (by omega)).set (b' := wC.heap.size) (o := 1) (v := .bool C2) (by omega)).gr g1; have RA := ((RA.set (b' := wC.heap.size) (o := 0) (v := .int .i64 N2) (by omega)).set (b' := wC.heap.size) (o := 1) (v := .bool C2) (by omega)).gr g1; clear lt c0 c1 c2 c3 z0 z1 z2 z3 ls p0 p1 p2 p3 lr r0 r1 r2 r3 g0 g1 g2 g3 lk k0 k1 x0 x1; have D_ := DA; obtain ⟨lt, c0, c1, c2, c3, z0, z1, z2, z3⟩ := D_; have S_ := SA; obtain ⟨ls, p0, p1, p2, p3⟩ := S_; have R_ := RA; obtain ⟨lr, r0, r1, r2, r3, g0, g1, g2, g3⟩ := R_; have CA := (CA.put N2 C2).gr hgwE; have C_ := CA; obtain ⟨lk, k0, k1, x0, x1⟩ := C_) |
    ((go_at_call 17; (with_reducible refine (H4.out _).mono ?_); rintro e wF ⟨rfl, hgwF⟩); have g1 := hgwF; have DA := DA.gr g1; have SA := SA.gr g1; have RA := RA.gr g1; clear lt c0 c1 c2 c3 z0 z1 z2 z3 ls p0 p1 p2 p3 lr r0 r1 r2 r3 g0 g1 g2 g3 lk k0 k1 x0 x1; have D_ := DA; obtain ⟨lt, c0, c1, c2, c3, z0, z1, z2, z3⟩ := D_; have S_ := SA; obtain ⟨ls, p0, p1, p2, p3⟩ := S_; have R_ := RA; obtain ⟨lr, r0, r1, r2, r3, g0, g1, g2, g3⟩ := R_; have CA := CA.gr hgwF) |
    ((go_at_call 27; (with_reducible refine (H5.out _).mono ?_); rintro e wG ⟨rfl, hgwG⟩); have g1 := hgwG; have DA := DA.gr g1; have SA := SA.gr g1; have RA := RA.gr g1; clear lt c0 c1 c2 c3 z0 z1 z2 z3 ls p0 p1 p2 p3 lr r0 r1 r2 r3 g0 g1 g2 g3 ; have D_ := DA; obtain ⟨lt, c0, c1, c2, c3, z0, z1, z2, z3⟩ := D_; have S_ := SA; obtain ⟨ls, p0, p1, p2, p3⟩ := S_; have R_ := RA; obtain ⟨lr, r0, r1, r2, r3, g0, g1, g2, g3⟩ := R_))
  exact bodyPost_ret (v := .tuple #[.agg #[.int .i64 R1, .int .i64 R2, .bool R3, .int .i64 R4], .int .i64 E]) (by simp [results, Tryz.results8, go_sem, *]) rfl ⟨rfl, (by repeat (first | exact Gr.refl _ | refine Gr.setCell ?_ _ _ (by first | exact Nat.le_refl _ | (simp; omega) | (simp; done) | (show (_ : Nat) ≤ _; omega)) | refine Gr.grown ?_ _ _ | refine Gr.drewN ?_ _ | refine Gr.drew ?_ | refine Gr.alloc ?_ _ | refine Gr.grow ?_ _ | (refine Gr.trans ?_ (by assumption))))⟩

end Go.Proofs.YtkiopgegdkeojaaGreatDoor.Walks
