/- A duration, added to a date: what add.To tells, for every input. -/
import Derived.Test.YtkiopgegdkeojaaGreatDoorAddTo
import Derived.Test.YtkiopgegdkeojaaGreatDoorAddFit
set_option linter.unusedVariables false
set_option linter.unusedSimpArgs false
namespace Go.Proofs.YtkiopgegdkeojaaGreatDoor.Walks
open Go Go.RowKit Go.Sort Go.Proofs.YtkiopgegdkeojaaGreatDoor.Base Go.Proofs.YtkiopgegdkeojaaGreatDoor.Plain Go.Proofs.YtkiopgegdkeojaaGreatDoor.Math

set_option maxRecDepth 20000 in
set_option maxHeartbeats 8000000 in
theorem to_bad (y n d p q r s m : Int) (c : Bool) (w : World) (h : spR p q r s = false ∨ ¬ (m = 0 ∨ m = 1)) :
    Calls Tryz.prog 7 #[.agg #[.int .i64 y, .int .i64 n, .bool c, .int .i64 d], .agg #[.int .i64 p, .int .i64 q, .int .i64 r, .int .i64 s], .int .i64 m] w fun e w' => e = .returned (.tuple #[.agg #[.int .i64 0, .int .i64 0, .bool false, .int .i64 0], .int .i64 1]) ∧ Gr w w' := by
  have CR := Lib.hid fun W => right_c p q r s W
  obtain ⟨R, hR⟩ : ∃ R, spR p q r s = R := ⟨_, rfl⟩
  rw [hR] at CR h
  clear hR
  cases R
  · go_enter Tryz.func7, Tryz.ntmps7
    go_wp2_with (first | (go_at_call 10; fail))
    obtain ⟨W0, hW0, DA, SA, RA, GA⟩ := to_new w y n d p q r s c
    rw [← hW0]
    clear hW0
    refine (CR.out _).mono ?_
    rintro e wA ⟨rfl, hgA⟩
    obtain ⟨lr, r0, r1, r2, r3, g0, g1, g2, g3⟩ := RA.gr hgA
    have GB := GA.trans hgA
    clear DA SA RA GA hgA
    go_wp2
    exact bodyPost_ret (v := .tuple #[.agg #[.int .i64 0, .int .i64 0, .bool false, .int .i64 0], .int .i64 1]) (by simp [results, Tryz.results7, go_sem, *]) rfl ⟨rfl, (by repeat (first | exact Gr.refl _ | refine Gr.setCell ?_ _ _ (by first | exact Nat.le_refl _ | (simp; omega) | (simp; done)) | refine Gr.grown ?_ _ _ | refine Gr.drewN ?_ _ | refine Gr.drew ?_ | refine Gr.alloc ?_ _ | refine Gr.grow ?_ _ | (refine Gr.trans ?_ (by assumption))))⟩
  · have h : ¬ (m = 0 ∨ m = 1) := h.resolve_left (by decide)
    have q0 : (m == 0) = false := beq_eq_false_iff_ne.2 fun z => h (.inl z)
    have q1 : (m == 1) = false := beq_eq_false_iff_ne.2 fun z => h (.inr z)
    have q2 : (m != 0) = true := by simp [bne_iff_ne]; omega
    have q3 : (m != 1) = true := by simp [bne_iff_ne]; omega
    have q4 : ¬ m = 0 := by omega
    have q5 : ¬ m = 1 := by omega
    clear h
    go_enter Tryz.func7, Tryz.ntmps7
    go_wp2_with (first | (go_at_call 10; fail))
    obtain ⟨W0, hW0, DA, SA, RA, GA⟩ := to_new w y n d p q r s c
    rw [← hW0]
    clear hW0
    refine (CR.out _).mono ?_
    rintro e wA ⟨rfl, hgA⟩
    obtain ⟨lr, r0, r1, r2, r3, g0, g1, g2, g3⟩ := RA.gr hgA
    have GB := GA.trans hgA
    clear DA SA RA GA hgA
    go_wp2
    exact bodyPost_ret (v := .tuple #[.agg #[.int .i64 0, .int .i64 0, .bool false, .int .i64 0], .int .i64 1]) (by simp [results, Tryz.results7, go_sem, *]) rfl ⟨rfl, (by repeat (first | exact Gr.refl _ | refine Gr.setCell ?_ _ _ (by first | exact Nat.le_refl _ | (simp; omega) | (simp; done)) | refine Gr.grown ?_ _ _ | refine Gr.drewN ?_ _ | refine Gr.drew ?_ | refine Gr.alloc ?_ _ | refine Gr.grow ?_ _ | (refine Gr.trans ?_ (by assumption))))⟩
theorem to_date (y n d p q r s m E : Int) (c : Bool) (w : World) (hR : spR p q r s = true) (hm : m = 0 ∨ m = 1) (hE : E ≠ 0)
    (k0 : ∀ W, Gr w W → Calls Tryz.prog 18 #[.agg #[.int .i64 y, .int .i64 n, .bool c, .int .i64 d]] W fun e w' => e = .returned (.int .i64 E) ∧ Gr W w') :
    Calls Tryz.prog 7 #[.agg #[.int .i64 y, .int .i64 n, .bool c, .int .i64 d], .agg #[.int .i64 p, .int .i64 q, .int .i64 r, .int .i64 s], .int .i64 m] w fun e w' => e = .returned (.tuple #[.agg #[.int .i64 0, .int .i64 0, .bool false, .int .i64 0], .int .i64 E]) ∧ Gr w w' :=
  to_core y n d p q r s m c y n y n d E E E E E y n d 0 0 0 c c c false w hR hm k0 (fun W b _ B => wyears_skip _ B hE) (fun W b _ _ B => wmonths_skip _ B hE) (fun W b _ _ B => wfit_skip B hE) (fun W b _ _ B => wdays_skip _ B hE) (.inr ⟨hE, rfl, rfl, rfl, rfl⟩)
theorem spR_of {p q r s : Int} (h : spR p q r s = true) : (-4000000 ≤ p ∧ p ≤ 4000000) ∧ (-4000000 ≤ q ∧ q ≤ 4000000) ∧ (-4000000 ≤ r ∧ r ≤ 4000000) ∧ (-4000000 ≤ s ∧ s ≤ 4000000) := by
  unfold spR spF at h
  simp only [Bool.and_eq_true, decide_eq_true_eq] at h
  exact ⟨h.1, h.2.1, h.2.2.1, h.2.2.2⟩
/-- add.To, of a date that may be. -/
theorem to_c {y : Int} {j : Nat} {d sy sm sw sd m E R1 R2 R4 : Int} {R3 : Bool} (h : HV y j d) (hR : spR sy sm sw sd = true) (hm : m = 0 ∨ m = 1) (k : ToK y j d sy sm sw sd m E R1 R2 R3 R4) (w : World) (G : GT w) :
    Calls Tryz.prog 7 #[.agg #[.int .i64 y, .int .i64 (cN (lp y) j), .bool (cL (lp y) j), .int .i64 d], .agg #[.int .i64 sy, .int .i64 sm, .int .i64 sw, .int .i64 sd], .int .i64 m] w fun e w' => e = .returned (.tuple #[.agg #[.int .i64 R1, .int .i64 R2, .bool R3, .int .i64 R4], .int .i64 E]) ∧ Gr w w' := by
  obtain ⟨⟨p0, p1⟩, ⟨q0, q1⟩, ⟨r0, r1⟩, s0, s1⟩ := spR_of hR
  have k0 := fun W (hW : Gr w W) => hcheck_in y j d W (G.gr hW) h
  have ld := mlen_range (kk y) (lp y) j
  have dd := h.d1
  have d0 := h.d0
  have Gk : ∀ {b : Nat} {W V : World}, Gr w W → w.heap.size ≤ b → Kb b W V → GT V := fun g l kb => G.gr (kb w g l)
  cases k with
  | into _ e hE =>
    obtain ⟨X, hX⟩ : ∃ X, inNum (y + sy) (cN (lp y) j) (cL (lp y) j) m = X := ⟨_, rfl⟩
    obtain ⟨V, hV⟩ : ∃ V, inLp (y + sy) (cN (lp y) j) (cL (lp y) j) m = V := ⟨_, rfl⟩
    refine to_core y _ d sy sm sw sd m _ (y + sy) X (y + sy) X d 0 E E E E (y + sy) X d 0 0 0 V V V false w hR hm k0 (fun W b _ B => ?_) (fun W b _ _ B => wmonths_skip _ B hE) (fun W b _ _ B => wfit_skip B hE) (fun W b _ _ B => wdays_skip _ B hE) (.inr ⟨hE, rfl, rfl, rfl, rfl⟩)
    have := wyears_go (w := W) sy B h.y0 h.y1 p0 p1 fun W => sinto_c (y + sy) _ m _ W
    rwa [hX, hV, e] at this
  | months i h1 a =>
    refine to_core y _ d sy sm sw sd m _ (y + sy) (cN (lp (y + sy)) i) 0 0 d 0 0 2 2 2 0 0 d 0 0 0 (cL (lp (y + sy)) i) false false false w hR hm k0 (fun W b _ B => ?_) (fun W b gW lb B => ?_) (fun W b _ _ B => wfit_skip B (by decide)) (fun W b _ _ B => wdays_skip _ B (by decide)) (.inr ⟨by decide, rfl, rfl, rfl, rfl⟩)
    · have := wyears_go (w := W) sy B h.y0 h.y1 p0 p1 fun W => sinto_c (y + sy) _ m _ W
      rwa [h1.e, h1.n, h1.c] at this
    · exact wmonths_go _ B fun V hV => smonths_rng (y + sy) i sm V (Gk gW lb hV) h1.t0 h1.t1 h1.i1 q0 q1 a
  | fit i Y J h1 h2 m1 g =>
    have lY := mlen_range (kk Y) (lp Y) J
    refine to_core y _ d sy sm sw sd m _ (y + sy) (cN (lp (y + sy)) i) Y (cN (lp Y) J) 0 0 0 0 7 7 Y (cN (lp Y) J) 0 0 0 0 (cL (lp (y + sy)) i) (cL (lp Y) J) (cL (lp Y) J) false w hR hm k0 (fun W b _ B => ?_) (fun W b gW lb B => ?_) (fun W b gW lb B => ?_) (fun W b _ _ B => wdays_skip _ B (by decide)) (.inr ⟨by decide, rfl, rfl, rfl, rfl⟩)
    · have := wyears_go (w := W) sy B h.y0 h.y1 p0 p1 fun W => sinto_c (y + sy) _ m _ W
      rwa [h1.e, h1.n, h1.c] at this
    · exact wmonths_go _ B fun V hV => smonths_in (y + sy) i sm Y J V (Gk gW lb hV) h1.t0 h1.t1 h1.i1 q0 q1 h2.y0 h2.y1 h2.j1 h2.e
    · refine wfit_go B fun V hV => ?_
      have := sfit_c Y _ d m _ 0 _ V fun U hU => hlast_in Y J U ((Gk gW lb hV).gr hU) h2.y0 h2.y1 h2.j1
      have e : fitE (mlen (kk Y) (lp Y) J) 0 d m = 7 := by unfold fitE; rw [if_pos hm, if_pos rfl, if_pos (by omega), if_neg (by omega), if_pos m1]
      have e2 : fitN (mlen (kk Y) (lp Y) J) 0 d m = 0 := by unfold fitN; rw [e, if_neg (by decide)]
      rwa [e, e2] at this
  | out i Y J N h1 h2 h3 g =>
    have hv := ft_hv h3 h2.y0 h2.y1 h2.j1 d0
    have rr := hd_range hv
    have ff := ft_fit h3 hm d0 (by omega)
    refine to_core y _ d sy sm sw sd m _ (y + sy) (cN (lp (y + sy)) i) Y (cN (lp Y) J) N 0 0 0 0 2 0 0 0 0 0 0 (cL (lp (y + sy)) i) (cL (lp Y) J) false false w hR hm k0 (fun W b _ B => ?_) (fun W b gW lb B => ?_) (fun W b gW lb B => ?_) (fun W b gW lb B => ?_) (.inr ⟨by decide, rfl, rfl, rfl, rfl⟩)
    · have := wyears_go (w := W) sy B h.y0 h.y1 p0 p1 fun W => sinto_c (y + sy) _ m _ W
      rwa [h1.e, h1.n, h1.c] at this
    · exact wmonths_go _ B fun V hV => smonths_in (y + sy) i sm Y J V (Gk gW lb hV) h1.t0 h1.t1 h1.i1 q0 q1 h2.y0 h2.y1 h2.j1 h2.e
    · refine wfit_go B fun V hV => ?_
      have := sfit_c Y _ d m _ 0 _ V fun U hU => hlast_in Y J U ((Gk gW lb hV).gr hU) h2.y0 h2.y1 h2.j1
      rwa [ff.1, ff.2] at this
    · exact wdays_go _ B rr.1 rr.2 (by omega) (by omega) (fun V hV => htoday_in Y J N V (Gk gW lb hV) hv) (fun V hV => hfrom_out _ V g)
  | ok i Y J N Y' J' N' h1 h2 h3 h4 e =>
    have hv := ft_hv h3 h2.y0 h2.y1 h2.j1 d0
    have rr := hd_range hv
    have ff := ft_fit h3 hm d0 (by omega)
    refine to_core y _ d sy sm sw sd m _ (y + sy) (cN (lp (y + sy)) i) Y (cN (lp Y) J) N 0 0 0 0 0 R1 _ R4 R1 _ R4 (cL (lp (y + sy)) i) (cL (lp Y) J) _ _ w hR hm k0 (fun W b _ B => ?_) (fun W b gW lb B => ?_) (fun W b gW lb B => ?_) (fun W b gW lb B => ?_) (.inl ⟨rfl, rfl, rfl, rfl, rfl⟩)
    · have := wyears_go (w := W) sy B h.y0 h.y1 p0 p1 fun W => sinto_c (y + sy) _ m _ W
      rwa [h1.e, h1.n, h1.c] at this
    · exact wmonths_go _ B fun V hV => smonths_in (y + sy) i sm Y J V (Gk gW lb hV) h1.t0 h1.t1 h1.i1 q0 q1 h2.y0 h2.y1 h2.j1 h2.e
    · refine wfit_go B fun V hV => ?_
      have := sfit_c Y _ d m _ 0 _ V fun U hU => hlast_in Y J U ((Gk gW lb hV).gr hU) h2.y0 h2.y1 h2.j1
      rwa [ff.1, ff.2] at this
    · exact wdays_go _ B rr.1 rr.2 (by omega) (by omega) (fun V hV => htoday_in Y J N V (Gk gW lb hV) hv) (fun V hV => hfrom_in R1 J' R4 _ V (Gk gW lb hV) h4 e)

end Go.Proofs.YtkiopgegdkeojaaGreatDoor.Walks
