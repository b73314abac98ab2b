/- How many years and months fit between two dates, in plain numbers. No program in sight. -/
import Derived.Test.YtkiopgegdkeojaaGreatDoorAddMath
import Derived.Test.YtkiopgegdkeojaaGreatDoorAwake16
import Derived.Test.YtkiopgegdkeojaaGreatDoorSearch
set_option linter.unusedVariables false
set_option linter.unusedSimpArgs false
namespace Go.Proofs.YtkiopgegdkeojaaGreatDoor.Walks
open Go Go.RowKit Go.Sort Go.Proofs.YtkiopgegdkeojaaGreatDoor.Base Go.Proofs.YtkiopgegdkeojaaGreatDoor.Plain Go.Proofs.YtkiopgegdkeojaaGreatDoor.Math

/-- A later month's days come later. -/
theorem hd_month {Y : Int} {J : Nat} {N : Int} {Y' : Int} {J' : Nat} {N' : Int} (h : HV Y J N) (h' : HV Y' J' N') (e : bf Y + (J : Int) < bf Y' + (J' : Int)) : hd Y J N < hd Y' J' N' := by
  have a := hd_in h
  have b := hd_in h'
  have j1 := h.j1
  have j1' := h'.j1
  have m := mct_le (lp Y)
  have m' := mct_le (lp Y')
  rcases Int.lt_trichotomy Y Y' with z | z | z
  · have := fy_mono (a := Y + 1) (b := Y') (by have := h.y0; omega) (by omega) (by have := h'.y1; omega)
    omega
  · subst z
    have c := mah_le (kk Y) (lp Y) (i := J + 1) (j := J') (by omega)
    have := h.d1
    have := h'.d0
    simp only [mah] at c
    unfold hd
    omega
  · have := bf_mono (a := Y' + 1) (b := Y) (by omega)
    have := bf_next Y'
    omega
/-- Years and months, added to a date, the day constrained: what comes of it, if it is in range. -/
structure UR (y : Int) (j : Nat) (d p q : Int) (i : Nat) (Y : Int) (J : Nat) (N : Int) : Prop where
  a : In1 y j 0 (y + p) i
  b : Mo (y + p) i q Y J
  c : Ft Y J d 0 N
/-- .. and if it isn't. -/
def UOut (y : Int) (j : Nat) (p q : Int) : Prop := (y + p < 1 ∨ 9999 < y + p) ∨ (1 ≤ y + p ∧ y + p ≤ 9999 ∧ ∃ i, In1 y j 0 (y + p) i ∧ (bf (y + p) + i + q < 0 ∨ 123671 ≤ bf (y + p) + i + q))
theorem in1_y {y : Int} {j : Nat} (hj : j < mct (lp y)) {t : Int} (t0 : 1 ≤ t) (t1 : t ≤ 9999) : ∃ i, In1 y j 0 t i := by
  refine in1_of hj ?_
  unfold inE
  rw [if_pos (.inl rfl), if_pos ⟨t0, t1⟩, if_pos (cR_at (lp y) hj)]
  split
  · rfl
  · rw [if_neg (by decide)]
theorem ur_cases {y : Int} {j : Nat} {d : Int} (h : HV y j d) (p q : Int) : (∃ i Y J N, UR y j d p q i Y J N) ∨ UOut y j p q := by
  by_cases a : 1 ≤ y + p ∧ y + p ≤ 9999
  · obtain ⟨i, h1⟩ := in1_y h.j1 a.1 a.2
    by_cases b : bf (y + p) + i + q < 0 ∨ 123671 ≤ bf (y + p) + i + q
    · exact .inr (.inr ⟨a.1, a.2, i, h1, b⟩)
    · obtain ⟨Y, J, y0, y1, j1, g⟩ := month_of (t := bf (y + p) + i + q) (by omega) (by omega)
      have h2 : Mo (y + p) i q Y J := ⟨y0, y1, j1, g⟩
      by_cases z : d ≤ mlen (kk Y) (lp Y) J
      · exact .inl ⟨i, Y, J, d, h1, h2, ⟨.inl ⟨z, rfl⟩⟩⟩
      · exact .inl ⟨i, Y, J, _, h1, h2, ⟨.inr ⟨by omega, rfl, rfl⟩⟩⟩
  · exact .inr (.inl (by omega))
structure UV where
  ok : Bool
  i : Nat
  Y : Int
  J : Nat
  N : Int
def UV.X (v : UV) : Int := hd v.Y v.J v.N
/-- Beyond a day, in a direction. -/
def UV.by (v : UV) (n s : Int) : Bool := !v.ok || decide (0 < s * (v.X - n))
/-- What comes of any years and months. -/
structure UF (y : Int) (j : Nat) (d : Int) (f : Int → Int → UV) : Prop where
  h : ∀ p q, ((f p q).ok = true ∧ UR y j d p q (f p q).i (f p q).Y (f p q).J (f p q).N) ∨ ((f p q).ok = false ∧ UOut y j p q)
theorem uf_ex {y : Int} {j : Nat} {d : Int} (h : HV y j d) : ∃ f, UF y j d f := by
  have a : ∀ z : Int × Int, ∃ v : UV, (v.ok = true ∧ UR y j d z.1 z.2 v.i v.Y v.J v.N) ∨ (v.ok = false ∧ UOut y j z.1 z.2) := by
    intro z
    rcases ur_cases h z.1 z.2 with ⟨i, Y, J, N, g⟩ | g
    · exact ⟨⟨true, i, Y, J, N⟩, .inl ⟨rfl, g⟩⟩
    · exact ⟨⟨false, 0, 0, 0, 0⟩, .inr ⟨rfl, g⟩⟩
  obtain ⟨f, hf⟩ := Classical.skolem.1 a
  exact ⟨fun p q => f (p, q), ⟨fun p q => hf (p, q)⟩⟩
theorem ur_hv {y : Int} {j : Nat} {d p q : Int} {i : Nat} {Y : Int} {J : Nat} {N : Int} (h : HV y j d) (u : UR y j d p q i Y J N) : HV Y J N := ft_hv u.c u.b.y0 u.b.y1 u.b.j1 h.d0
theorem uf_ok {y : Int} {j : Nat} {d : Int} {f : Int → Int → UV} (F : UF y j d f) {p q : Int} (k : (f p q).ok = true) : UR y j d p q (f p q).i (f p q).Y (f p q).J (f p q).N := by
  rcases F.h p q with ⟨-, u⟩ | ⟨z, -⟩
  · exact u
  · rw [k] at z; cases z
theorem uf_out {y : Int} {j : Nat} {d : Int} {f : Int → Int → UV} (F : UF y j d f) {p q : Int} (k : (f p q).ok = false) : UOut y j p q := by
  rcases F.h p q with ⟨z, -⟩ | ⟨-, u⟩
  · rw [k] at z; cases z
  · exact u
theorem in1_inj {y : Int} {j : Nat} {t : Int} {i i' : Nat} (a : In1 y j 0 t i) (b : In1 y j 0 t i') : i = i' := code_inj a.i1 b.i1 (by rw [← a.n, ← b.n]) (by rw [← a.c, ← b.c])
theorem ur_in {y : Int} {j : Nat} {d p q : Int} {i : Nat} {Y : Int} {J : Nat} {N : Int} (u : UR y j d p q i Y J N) : 1 ≤ y + p ∧ y + p ≤ 9999 ∧ 0 ≤ bf (y + p) + i + q ∧ bf (y + p) + i + q < 123671 := by
  have := month_in u.b.y0 u.b.y1 u.b.j1
  have e := u.b.e
  exact ⟨u.a.t0, u.a.t1, by omega, by omega⟩
/-- Later months, later days. -/
theorem ur_mono {y : Int} {j : Nat} {d p q p' q' : Int} {i i' : Nat} {Y Y' : Int} {J J' : Nat} {N N' : Int} (h : HV y j d) (u : UR y j d p q i Y J N) (u' : UR y j d p' q' i' Y' J' N') (e : bf (y + p) + i + q < bf (y + p') + i' + q') : hd Y J N < hd Y' J' N' :=
  hd_month (ur_hv h u) (ur_hv h u') (by rw [u.b.e, u'.b.e]; exact e)
/-- A row of what comes, one more of a unit each time. -/
structure Line (g : Int → UV) (A B : Int) : Prop where
  rise : ∀ k k', (g k).ok = true → (g k').ok = true → k < k' → (g k).X < (g k').X
  ok : ∀ k, (g k).ok = true ↔ A ≤ k ∧ k ≤ B
  a : A ≤ 0
  b : 0 ≤ B
theorem line_years {y : Int} {j : Nat} {d : Int} (h : HV y j d) {f : Int → Int → UV} (F : UF y j d f) : Line (fun k => f k 0) (1 - y) (9999 - y) := by
  refine ⟨fun k k' a b c => ?_, fun k => ?_, by have := h.y0; omega, by have := h.y1; omega⟩
  · have u := uf_ok F a
    have u' := uf_ok F b
    refine ur_mono h u u' ?_
    have := u.a.i1
    have := bf_mono (a := y + k + 1) (b := y + k') (by omega)
    have := bf_next (y + k)
    omega
  · constructor
    · intro a
      have := ur_in (uf_ok F a)
      omega
    · intro a
      cases e : (f k 0).ok
      · rcases uf_out F e with z | ⟨z0, z1, i, u, z⟩
        · omega
        · have := month_in z0 z1 u.i1
          omega
      · rfl
theorem line_months {y : Int} {j : Nat} {d : Int} (h : HV y j d) {f : Int → Int → UV} (F : UF y j d f) {p : Int} (k : (f p 0).ok = true) : Line (fun k => f p k) (-(bf (y + p) + (f p 0).i)) (123670 - (bf (y + p) + (f p 0).i)) := by
  have u0 := uf_ok F k
  have v0 := ur_in u0
  refine ⟨fun k k' a b c => ?_, fun k => ?_, by omega, by omega⟩
  · have u := uf_ok F a
    have u' := uf_ok F b
    refine ur_mono h u u' ?_
    rw [in1_inj u.a u'.a]
    omega
  · constructor
    · intro a
      have u := uf_ok F a
      have := ur_in u
      have := in1_inj u.a u0.a
      omega
    · intro a
      cases e : (f p k).ok
      · rcases uf_out F e with z | ⟨z0, z1, i, u, z⟩
        · omega
        · have := in1_inj u u0.a
          subst this
          omega
      · rfl
/-- A test that stays true, once it is. -/
theorem thr (T : Nat) (P : Nat → Bool) (m : ∀ i, i + 1 < T → P i = true → P (i + 1) = true) : ∃ N, N ≤ T ∧ ∀ i, i < T → P i = decide (N ≤ i) := by
  induction T with
  | zero => exact ⟨0, Nat.le_refl _, fun i h => absurd h (Nat.not_lt_zero _)⟩
  | succ T ih =>
    obtain ⟨N, h0, h1⟩ := ih fun i h => m i (by omega)
    by_cases e : N = T
    · subst e
      cases c : P N
      · refine ⟨N + 1, Nat.le_refl _, fun i h => ?_⟩
        by_cases z : i = N
        · subst z; rw [c, decide_eq_false (by omega)]
        · rw [h1 i (by omega), decide_eq_false (by omega), decide_eq_false (by omega)]
      · refine ⟨N, by omega, fun i h => ?_⟩
        by_cases z : i = N
        · subst z; rw [c, decide_eq_true (Nat.le_refl _)]
        · exact h1 i (by omega)
    · refine ⟨N, by omega, fun i h => ?_⟩
      by_cases z : i = T
      · subst z
        have a := h1 (i - 1) (by omega)
        rw [decide_eq_true (by omega)] at a
        have b := m (i - 1) (by omega) a
        rw [show i - 1 + 1 = i from by omega] at b
        rw [b, decide_eq_true (by omega)]
      · exact h1 i (by omega)
/-- How many fit. -/
theorem line_thr {g : Int → UV} {A B : Int} (L : Line g A B) (T : Nat) (hA : -(T : Int) < A) (hB : B < T) {s n : Int} (hs : s = 1 ∨ s = -1) (h0 : s * ((g 0).X - n) ≤ 0) :
    ∃ N : Nat, N < T ∧ (∀ i : Nat, i < T → (g (s * ((i : Int) + 1))).by n s = decide (N ≤ i)) ∧ (g (s * (N : Int))).ok = true ∧ s * ((g (s * (N : Int))).X - n) ≤ 0 ∧ (g (s * ((N : Int) + 1))).by n s = true := by
  have La := L.a
  have Lb := L.b
  have o0 : (g 0).ok = true := (L.ok 0).2 ⟨La, Lb⟩
  have step : ∀ i : Nat, i + 1 < T → (g (s * ((i : Int) + 1))).by n s = true → (g (s * (((i + 1 : Nat) : Int) + 1))).by n s = true := by
    intro i hi c
    cases e : (g (s * (((i + 1 : Nat) : Int) + 1))).ok
    · unfold UV.by; rw [e]; rfl
    · have e1 := (L.ok _).1 e
      have e2 : (g (s * ((i : Int) + 1))).ok = true := (L.ok _).2 (by rcases hs with rfl | rfl <;> omega)
      unfold UV.by at c ⊢
      rw [e2] at c
      rw [e]
      simp only [Bool.not_true, Bool.false_or, decide_eq_true_eq] at c ⊢
      rcases hs with rfl | rfl
      · have := L.rise _ _ e2 e (by omega)
        omega
      · have := L.rise _ _ e e2 (by omega)
        omega
  obtain ⟨N, h1, h2⟩ := thr T (fun i => (g (s * ((i : Int) + 1))).by n s) step
  have hN : N < T := by
    rcases Nat.lt_or_ge N T with z | z
    · exact z
    · have T0 : 0 < T := by omega
      have a := h2 (T - 1) (by omega)
      have b : (g (s * (((T - 1 : Nat) : Int) + 1))).ok = false := by
        cases e : (g (s * (((T - 1 : Nat) : Int) + 1))).ok
        · rfl
        · have := (L.ok _).1 e
          rcases hs with rfl | rfl <;> omega
      unfold UV.by at a
      simp only [b, Bool.not_false, Bool.true_or] at a
      have := of_decide_eq_true a.symm
      omega
  have hl := h2 N hN
  rw [decide_eq_true (Nat.le_refl _)] at hl
  refine ⟨N, hN, h2, ?_⟩
  rcases Nat.eq_zero_or_pos N with rfl | z
  · rw [show s * ((0 : Nat) : Int) = 0 from Int.mul_zero s]
    exact ⟨o0, h0, hl⟩
  · have a := h2 (N - 1) (by omega)
    rw [decide_eq_false (by omega), show (((N - 1 : Nat) : Int) + 1) = (N : Int) from by omega] at a
    unfold UV.by at a
    rw [Bool.or_eq_false_iff] at a
    have b : (g (s * (N : Int))).ok = true := by simpa using a.1
    have c := of_decide_eq_false a.2
    exact ⟨b, by omega, hl⟩
theorem ur_to {y : Int} {j : Nat} {d p q : Int} {i : Nat} {Y : Int} {J : Nat} {N : Int} (h : HV y j d) (u : UR y j d p q i Y J N) : ToK y j d p q 0 0 0 0 Y (cN (lp Y) J) (cL (lp Y) J) N :=
  .ok i Y J N Y J N u.a u.b u.c (ur_hv h u) (by omega)
theorem uout_to {y : Int} {j : Nat} {d p q : Int} (o : UOut y j p q) : ToK y j d p q 0 0 0 2 0 0 false 0 := by
  rcases o with z | ⟨z0, z1, i, u, z⟩
  · refine .into 2 ?_ (by decide)
    unfold inE
    rw [if_pos (.inl rfl), if_neg (by omega)]
  · exact .months i u z
/-- One month on: thirty days at most. -/
theorem next_gap {Y : Int} {J : Nat} {N Y' : Int} {J' : Nat} {N' d m : Int} (h : HV Y J N) (h' : HV Y' J' N') (a : Ft Y J d m N) (b : Ft Y' J' d m N') (e : bf Y' + (J' : Int) = bf Y + (J : Int) + 1) : hd Y' J' N' - hd Y J N ≤ 30 := by
  have l := mlen_range (kk Y) (lp Y) J
  have l' := mlen_range (kk Y') (lp Y') J'
  have bn := bf_next Y
  have j1 := h.j1
  have j1' := h'.j1
  have g : hd Y' J' N' = hd Y J N + mlen (kk Y) (lp Y) J - N + N' := by
    rcases Int.lt_trichotomy Y Y' with z | z | z
    · have c := bf_mono (a := Y + 1) (b := Y') (by omega)
      have e1 : Y' = Y + 1 := by
        rcases Int.lt_or_le (Y + 1) Y' with q | q
        · have := bf_lt q; omega
        · omega
      subst e1
      obtain rfl : J' = 0 := by omega
      have k := kln_mah h.y0 h.y1
      have J1 : mct (lp Y) = J + 1 := by omega
      rw [J1] at k
      simp only [mah] at k
      unfold kln at k
      unfold hd
      simp only [mah]
      omega
    · subst z
      obtain rfl : J' = J + 1 := by omega
      unfold hd
      simp only [mah]
      omega
    · have := bf_mono (a := Y' + 1) (b := Y) (by omega)
      have := bf_next Y'
      omega
  rcases a.e with ⟨p, q⟩ | ⟨p, -, q⟩ <;> rcases b.e with ⟨r, s⟩ | ⟨r, -, s⟩ <;> omega

end Go.Proofs.YtkiopgegdkeojaaGreatDoor.Walks

/- Walks of until: one test, how many fit, the duration between two dates. -/
namespace Go.Proofs.YtkiopgegdkeojaaGreatDoor.Walks
open Go Go.RowKit Go.Sort Go.Proofs.YtkiopgegdkeojaaGreatDoor.Base Go.Proofs.YtkiopgegdkeojaaGreatDoor.Plain Go.Proofs.YtkiopgegdkeojaaGreatDoor.Math

theorem udate1_c (k : Int) (w : World) : Calls Tryz.prog 33 #[.int .i64 k] w fun e w' => e = .returned (.agg #[.int .i64 k, .int .i64 0, .int .i64 0, .int .i64 0]) ∧ Gr w w' := by
  go_enter Tryz.func33, Tryz.ntmps33
  go_wp2
  exact bodyPost_ret (v := .agg #[.int .i64 k, .int .i64 0, .int .i64 0, .int .i64 0]) (by simp [results, Tryz.results33, go_sem, *]) rfl ⟨rfl, (by repeat (first | exact Gr.refl _ | refine Gr.setCell ?_ _ _ (by first | exact Nat.le_refl _ | (simp; omega) | (simp; done)) | refine Gr.grown ?_ _ _ | refine Gr.drewN ?_ _ | refine Gr.drew ?_ | refine Gr.alloc ?_ _ | refine Gr.grow ?_ _ | (refine Gr.trans ?_ (by assumption))))⟩
theorem udate2_c (k v : Int) (b : Nat) (w : World) (hb : b < w.heap.size) (hc : w.cell? ⟨b, 0, none⟩ = some (.int .i64 v)) : Calls Tryz.prog 34 #[.int .i64 k, .pointer (some ⟨b, 0, none⟩)] w fun e w' => e = .returned (.agg #[.int .i64 v, .int .i64 k, .int .i64 0, .int .i64 0]) ∧ Gr w w' := by
  go_enter Tryz.func34, Tryz.ntmps34
  go_wp2
  exact bodyPost_ret (v := .agg #[.int .i64 v, .int .i64 k, .int .i64 0, .int .i64 0]) (by simp [results, Tryz.results34, go_sem, *]) rfl ⟨rfl, (by repeat (first | exact Gr.refl _ | refine Gr.setCell ?_ _ _ (by first | exact Nat.le_refl _ | (simp; omega) | (simp; done)) | refine Gr.grown ?_ _ _ | refine Gr.drewN ?_ _ | refine Gr.drew ?_ | refine Gr.alloc ?_ _ | refine Gr.grow ?_ _ | (refine Gr.trans ?_ (by assumption))))⟩
set_option maxHeartbeats 4000000 in
theorem passes_no (y n d t s p q E : Int) (c : Bool) (w : World) (hE : E ≠ 0)
    (c1 : ∀ W, Gr w W → Calls Tryz.prog 7 #[.agg #[.int .i64 y, .int .i64 n, .bool c, .int .i64 d], .agg #[.int .i64 p, .int .i64 q, .int .i64 0, .int .i64 0], .int .i64 0] W fun e w' => e = .returned (.tuple #[.agg #[.int .i64 0, .int .i64 0, .bool false, .int .i64 0], .int .i64 E]) ∧ Gr W w') :
    Calls Tryz.prog 59 #[.agg #[.int .i64 y, .int .i64 n, .bool c, .int .i64 d, .int .i64 t, .int .i64 s], .agg #[.int .i64 p, .int .i64 q, .int .i64 0, .int .i64 0]] w fun e w' => e = .returned (.bool true) ∧ Gr w w' := by
  have C1 := Lib.hid c1
  have e1 : (E == 0) = false := beq_eq_false_iff_ne.2 hE
  have e2 : (E != 0) = true := by simp [bne_iff_ne, hE]
  clear c1
  go_enter Tryz.func59, Tryz.ntmps59
  go_wp2_with (first | (go_at_call 7; (with_reducible refine (C1.out _ ((by repeat (first | exact Gr.refl _ | refine Gr.setCell ?_ _ _ (by first | exact Nat.le_refl _ | (simp; omega) | (simp; done)) | refine Gr.grown ?_ _ _ | refine Gr.drewN ?_ _ | refine Gr.drew ?_ | refine Gr.alloc ?_ _ | refine Gr.grow ?_ _ | (refine Gr.trans ?_ (by assumption)))))).mono ?_); rintro e wA ⟨rfl, hgwA⟩))
  go_ret
  exact ⟨rfl, (by repeat (first | exact Gr.refl _ | refine Gr.setCell ?_ _ _ (by first | exact Nat.le_refl _ | (simp; omega) | (simp; done)) | refine Gr.grown ?_ _ _ | refine Gr.drewN ?_ _ | refine Gr.drew ?_ | refine Gr.alloc ?_ _ | refine Gr.grow ?_ _ | (refine Gr.trans ?_ (by assumption))))⟩
set_option maxRecDepth 20000 in
set_option maxHeartbeats 4000000 in
theorem passes_in (y n d t s p q R1 R2 R4 X : Int) (c R3 B : Bool) (w : World) (hs : s = 1 ∨ s = -1) (t0 : -1500000 ≤ t) (t1 : t ≤ 2300000) (x0 : -1500000 ≤ X) (x1 : X ≤ 2300000) (hB : decide (0 < s * (X - t)) = B)
    (c1 : ∀ W, Gr w W → Calls Tryz.prog 7 #[.agg #[.int .i64 y, .int .i64 n, .bool c, .int .i64 d], .agg #[.int .i64 p, .int .i64 q, .int .i64 0, .int .i64 0], .int .i64 0] W fun e w' => e = .returned (.tuple #[.agg #[.int .i64 R1, .int .i64 R2, .bool R3, .int .i64 R4], .int .i64 0]) ∧ Gr W w')
    (c2 : ∀ W, Gr w W → Calls Tryz.prog 31 #[.agg #[.int .i64 R1, .int .i64 R2, .bool R3, .int .i64 R4]] W fun e w' => e = .returned (.tuple #[.int .i64 X, .int .i64 0]) ∧ Gr W w') :
    Calls Tryz.prog 59 #[.agg #[.int .i64 y, .int .i64 n, .bool c, .int .i64 d, .int .i64 t, .int .i64 s], .agg #[.int .i64 p, .int .i64 q, .int .i64 0, .int .i64 0]] w fun e w' => e = .returned (.bool B) ∧ Gr w w' := by
  have C1 := Lib.hid c1
  have C2 := Lib.hid c2
  have hW : IntKind.i64.wrap (s * (X - t)) = s * (X - t) := by rw [IntKind.wrap_i64]; rcases hs with rfl | rfl <;> omega
  clear c1 c2
  go_enter Tryz.func59, Tryz.ntmps59
  go_wp2_with (first | (go_at_call 7; (with_reducible refine (C1.out _ ((by repeat (first | exact Gr.refl _ | refine Gr.setCell ?_ _ _ (by first | exact Nat.le_refl _ | (simp; omega) | (simp; done)) | refine Gr.grown ?_ _ _ | refine Gr.drewN ?_ _ | refine Gr.drew ?_ | refine Gr.alloc ?_ _ | refine Gr.grow ?_ _ | (refine Gr.trans ?_ (by assumption)))))).mono ?_); rintro e wA ⟨rfl, hgwA⟩; obtain ⟨hclwA, hfzwA, hszwA⟩ := gcell hgwA; (try simp [Nat.add_one_le_iff] at hszwA); have hlwA_w : w.heap.size < wA.heap.size := (by omega)) | (go_at_call 31; (with_reducible refine (C2.out _ ((by repeat (first | exact Gr.refl _ | refine Gr.setCell ?_ _ _ (by first | exact Nat.le_refl _ | (simp; omega) | (simp; done)) | refine Gr.grown ?_ _ _ | refine Gr.drewN ?_ _ | refine Gr.drew ?_ | refine Gr.alloc ?_ _ | refine Gr.grow ?_ _ | (refine Gr.trans ?_ (by assumption)))))).mono ?_); rintro e wB ⟨rfl, hgwB⟩; obtain ⟨hclwB, hfzwB, hszwB⟩ := gcell hgwB; (try simp [Nat.add_one_le_iff] at hszwB); have hlwB_w : w.heap.size < wB.heap.size := (by omega); have hlwB_wA : wA.heap.size < wB.heap.size := (by omega)))
  go_ret
  refine ⟨by simp [hW, hB], (by repeat (first | exact Gr.refl _ | refine Gr.setCell ?_ _ _ (by first | exact Nat.le_refl _ | (simp; omega) | (simp; done)) | refine Gr.grown ?_ _ _ | refine Gr.drewN ?_ _ | refine Gr.drew ?_ | refine Gr.alloc ?_ _ | refine Gr.grow ?_ _ | (refine Gr.trans ?_ (by assumption))))⟩
/-- A duration in a box. -/
structure S5 (w : World) (b : Nat) (p q r s : Int) : Prop where
  lt : b < w.heap.size
  c0 : w.cell? ⟨b, 0, none⟩ = some (.int .i64 p)
  c1 : w.cell? ⟨b, 1, none⟩ = some (.int .i64 q)
  c2 : w.cell? ⟨b, 2, none⟩ = some (.int .i64 r)
  c3 : w.cell? ⟨b, 3, none⟩ = some (.int .i64 s)
  f0 : w.frozen? ⟨b, 0, none⟩ = false
  f1 : w.frozen? ⟨b, 1, none⟩ = false
  f2 : w.frozen? ⟨b, 2, none⟩ = false
  f3 : w.frozen? ⟨b, 3, none⟩ = false
theorem S5.gr {w w' : World} {b : Nat} {p q r s : Int} (h : S5 w b p q r s) (g : Gr w w') : S5 w' b p q r s :=
  ⟨g.lt h.lt, g.keep h.lt h.c0, g.keep h.lt h.c1, g.keep h.lt h.c2, g.keep h.lt h.c3, g.thaw h.lt h.f0, g.thaw h.lt h.f1, g.thaw h.lt h.f2, g.thaw h.lt h.f3⟩
theorem S5.at {w : World} {b : Nat} (h : w.heap.size = b) (p q r s : Int) : S5 (w.alloc (.cells #[.int .i64 p, .int .i64 q, .int .i64 r, .int .i64 s] 27)) b p q r s := by
  subst h
  exact ⟨by simp, by simp [go_sem], by simp [go_sem], by simp [go_sem], by simp [go_sem], by simp [go_sem], by simp [go_sem], by simp [go_sem], by simp [go_sem]⟩
theorem S5.put {w : World} {b : Nat} {p q r s : Int} (h : S5 w b p q r s) (p' q' r' s' : Int) : ∃ W, W = (((w.setCell ⟨b, 0, none⟩ (.int .i64 p')).setCell ⟨b, 1, none⟩ (.int .i64 q')).setCell ⟨b, 2, none⟩ (.int .i64 r')).setCell ⟨b, 3, none⟩ (.int .i64 s') ∧ S5 W b p' q' r' s' := by
  refine ⟨_, rfl, by rw [set_size, set_size, set_size, set_size]; exact h.lt, ?_, ?_, ?_, ?_, set_frozen (set_frozen (set_frozen (set_frozen h.f0))), set_frozen (set_frozen (set_frozen (set_frozen h.f1))), set_frozen (set_frozen (set_frozen (set_frozen h.f2))), set_frozen (set_frozen (set_frozen (set_frozen h.f3)))⟩
  · rw [set_cell (set_cell (set_cell (set_cell h.c0)))]; simp
  · rw [set_cell (set_cell (set_cell (set_cell h.c1)))]; simp
  · rw [set_cell (set_cell (set_cell (set_cell h.c2)))]; simp
  · rw [set_cell (set_cell (set_cell (set_cell h.c3)))]; simp
/-- Where one goes from, the day where one goes to, the direction: in a box. -/
structure W6 (w : World) (b : Nat) (y n d t s : Int) (c : Bool) : Prop where
  lt : b < w.heap.size
  c0 : w.cell? ⟨b, 0, none⟩ = some (.int .i64 y)
  c1 : w.cell? ⟨b, 1, none⟩ = some (.int .i64 n)
  c2 : w.cell? ⟨b, 2, none⟩ = some (.bool c)
  c3 : w.cell? ⟨b, 3, none⟩ = some (.int .i64 d)
  c4 : w.cell? ⟨b, 4, none⟩ = some (.int .i64 t)
  c5 : w.cell? ⟨b, 5, none⟩ = some (.int .i64 s)
theorem W6.gr {w w' : World} {b : Nat} {y n d t s : Int} {c : Bool} (h : W6 w b y n d t s c) (g : Gr w w') : W6 w' b y n d t s c :=
  ⟨g.lt h.lt, g.keep h.lt h.c0, g.keep h.lt h.c1, g.keep h.lt h.c2, g.keep h.lt h.c3, g.keep h.lt h.c4, g.keep h.lt h.c5⟩
set_option maxRecDepth 20000 in
set_option maxHeartbeats 4000000 in
theorem most1_c (g : Nat) (cb : Array Value) (y n d t s p q T : Int) (c B : Bool) (b0 b1 i : Nat) (w : World) (eg : ∀ args w, (callFunc g args).run Tryz.prog w = .ok (.enter g args) w) (H : W6 w b0 y n d t s c) (l1 : b1 < w.heap.size) (h1 : w.cell? ⟨b1, 0, none⟩ = some (.func (.func g) #[] cb)) (hi : i < 1000000)
    (hT : IntKind.i64.wrap (s * ((i : Int) + 1)) = T)
    (cw : ∀ W, Gr w W → Calls Tryz.prog g (#[.int .i64 T] ++ cb) W fun e w' => e = .returned (.agg #[.int .i64 p, .int .i64 q, .int .i64 0, .int .i64 0]) ∧ Gr W w')
    (cp : ∀ W, Gr w W → Calls Tryz.prog 59 #[.agg #[.int .i64 y, .int .i64 n, .bool c, .int .i64 d, .int .i64 t, .int .i64 s], .agg #[.int .i64 p, .int .i64 q, .int .i64 0, .int .i64 0]] W fun e w' => e = .returned (.bool B) ∧ Gr W w') :
    Calls Tryz.prog 58 (#[.int .i64 i] ++ #[.pointer (some ⟨b0, 0, none⟩), .pointer (some ⟨b1, 0, none⟩)]) w fun e w' => e = .returned (.bool B) ∧ Gr w w' := by
  have k0 := gcell_in H.lt H.c0
  have k1 := gcell_in H.lt H.c1
  have k2 := gcell_in H.lt H.c2
  have k3 := gcell_in H.lt H.c3
  have k4 := gcell_in H.lt H.c4
  have k5 := gcell_in H.lt H.c5
  have k6 := gcell_in l1 h1
  have hi2 : (i : Int) < 1000000 := by omega
  have hw : IntKind.i64.wrap ((i : Int) + 1) = (i : Int) + 1 := by rw [IntKind.wrap_i64]; omega
  have CW := Lib.hid cw
  have CP := Lib.hid cp
  clear H l1 h1 cw cp
  go_enter Tryz.func58, Tryz.ntmps58
  go_wp2
  (refine wp_region_quiet_grown mixed (by kernel_rfl) ?_; (repeat (first | go_big_quiet_step ((first | (go_at_fn g; exact gr_of (CW.out _ ((by repeat (first | exact Gr.refl _ | refine Gr.setCell ?_ _ _ (by first | exact Nat.le_refl _ | (simp; omega) | (simp; done)) | refine Gr.grown ?_ _ _ | refine Gr.drewN ?_ _ | refine Gr.drew ?_ | refine Gr.alloc ?_ _ | refine Gr.grow ?_ _ | (refine Gr.trans ?_ (by assumption))))))) | (go_at_call 59; exact gr_of (CP.out _ ((by repeat (first | exact Gr.refl _ | refine Gr.setCell ?_ _ _ (by first | exact Nat.le_refl _ | (simp; omega) | (simp; done)) | refine Gr.grown ?_ _ _ | refine Gr.drewN ?_ _ | refine Gr.drew ?_ | refine Gr.alloc ?_ _ | refine Gr.grow ?_ _ | (refine Gr.trans ?_ (by assumption))))))))) | quiet_step ((first | (go_at_fn g; exact gr_of (CW.out _ ((by repeat (first | exact Gr.refl _ | refine Gr.setCell ?_ _ _ (by first | exact Nat.le_refl _ | (simp; omega) | (simp; done)) | refine Gr.grown ?_ _ _ | refine Gr.drewN ?_ _ | refine Gr.drew ?_ | refine Gr.alloc ?_ _ | refine Gr.grow ?_ _ | (refine Gr.trans ?_ (by assumption))))))) | (go_at_call 59; exact gr_of (CP.out _ ((by repeat (first | exact Gr.refl _ | refine Gr.setCell ?_ _ _ (by first | exact Nat.le_refl _ | (simp; omega) | (simp; done)) | refine Gr.grown ?_ _ _ | refine Gr.drewN ?_ _ | refine Gr.drew ?_ | refine Gr.alloc ?_ _ | refine Gr.grow ?_ _ | (refine Gr.trans ?_ (by assumption))))))))))); refine wpQuiet_nil ?_; intro _ hw'; obtain ⟨⟨nq, osq⟩, hw''⟩ := hw'; subst hw'')
  go_wp2
  go_ret
  exact ⟨rfl, (by repeat (first | exact Gr.refl _ | refine Gr.setCell ?_ _ _ (by first | exact Nat.le_refl _ | (simp; omega) | (simp; done)) | refine Gr.grown ?_ _ _ | refine Gr.drewN ?_ _ | refine Gr.drew ?_ | refine Gr.alloc ?_ _ | refine Gr.grow ?_ _ | (refine Gr.trans ?_ (by assumption))))⟩
set_option maxRecDepth 20000 in
set_option maxHeartbeats 4000000 in
theorem umost_c (g : Nat) (cb : Array Value) (y n d t s tp M : Int) (P Q : Int → Int) (c : Bool) (top N : Nat) (w : World) (eg : ∀ args w, (callFunc g args).run Tryz.prog w = .ok (.enter g args) w) (hs : s = 1 ∨ s = -1) (ht : (top : Int) = tp) (h1 : top ≤ 200000) (hN : N ≤ top) (hM : s * (N : Int) = M)
    (cw : ∀ W k, Gr w W → Calls Tryz.prog g (#[.int .i64 k] ++ cb) W fun e w' => e = .returned (.agg #[.int .i64 (P k), .int .i64 (Q k), .int .i64 0, .int .i64 0]) ∧ Gr W w')
    (cp : ∀ W (i : Nat), Gr w W → i < top → Calls Tryz.prog 59 #[.agg #[.int .i64 y, .int .i64 n, .bool c, .int .i64 d, .int .i64 t, .int .i64 s], .agg #[.int .i64 (P (s * ((i : Int) + 1))), .int .i64 (Q (s * ((i : Int) + 1))), .int .i64 0, .int .i64 0]] W fun e w' => e = .returned (.bool (decide (N ≤ i))) ∧ Gr W w') :
    Calls Tryz.prog 32 #[.agg #[.int .i64 y, .int .i64 n, .bool c, .int .i64 d, .int .i64 t, .int .i64 s], .int .i64 tp, .func (.func g) #[] cb] w fun e w' => e = .returned (.agg #[.int .i64 (P M), .int .i64 (Q M), .int .i64 0, .int .i64 0]) ∧ Gr w w' := by
  have CW := Lib.hid cw
  have CP := Lib.hid cp
  have HW := Lib.hid (fun i : Nat => fun (h : i < top) => show IntKind.i64.wrap (s * ((i : Int) + 1)) = s * ((i : Int) + 1) by rw [IntKind.wrap_i64]; rcases hs with rfl | rfl <;> omega)
  have EG : ∀ args w, (callFunc 58 args).run Tryz.prog w = .ok (.enter 58 args) w := enters_of Tryz.func58 (by kernel_rfl) rfl
  have EH := Lib.hid EG
  have hM2 : IntKind.i64.wrap (s * (N : Int)) = M := by rw [IntKind.wrap_i64]; rcases hs with rfl | rfl <;> omega
  have hM3 : wrap64 M = M := by unfold wrap64; rw [← hM]; rcases hs with rfl | rfl <;> omega
  clear cw cp hs EG
  go_enter Tryz.func32, Tryz.ntmps32
  go_wp2_with (first | (go_at_call 57; fail))
  obtain ⟨W1, hW1⟩ : ∃ W1, W1 = ((w.alloc (.cells #[.int .i64 y, .int .i64 n, .bool c, .int .i64 d, .int .i64 t, .int .i64 s] 56)).alloc (.cells #[.func (.func g) #[] cb] 58)).alloc (.cells #[.int .i64 0, .int .i64 0, .int .i64 0, .int .i64 0] 27) := ⟨_, rfl⟩
  have H6 : W6 W1 w.heap.size y n d t s c := by rw [hW1]; exact ⟨by simp; omega, by simp [go_sem], by simp [go_sem], by simp [go_sem], by simp [go_sem], by simp [go_sem], by simp [go_sem]⟩
  have lf : w.heap.size + 1 < W1.heap.size := by rw [hW1]; simp
  have cf : W1.cell? ⟨w.heap.size + 1, 0, none⟩ = some (.func (.func g) #[] cb) := by rw [hW1]; simp [go_sem]
  have R1 : S5 W1 (w.heap.size + 1 + 1) 0 0 0 0 := by rw [hW1]; exact S5.at (by simp) 0 0 0 0
  have G1 : Gr w W1 := by rw [hW1]; exact (((Gr.refl _).alloc _).alloc _).alloc _
  rw [← hW1]
  clear hW1
  refine (search_v 58 #[.pointer (some ⟨w.heap.size, 0, none⟩), .pointer (some ⟨w.heap.size + 1, 0, none⟩)] tp (N : Int) top N _ EH.out (by omega) hN ht rfl ?_).mono ?_
  · intro W i hW hi
    exact most1_c g cb y n d t s _ _ _ c _ _ _ i W eg (H6.gr hW) (hW.lt lf) (hW.keep lf cf) (by omega) (HW.out i hi) (fun U hU => CW.out U _ ((G1.trans hW).trans hU)) (fun U hU => CP.out U i ((G1.trans hW).trans hU) hi)
  · rintro e W2 ⟨rfl, hg⟩
    have H7 := H6.gr hg
    have l7 := hg.lt lf
    have c7 := hg.keep lf cf
    have R7 := R1.gr hg
    have G7 := G1.trans hg
    clear H6 lf cf R1 G1 hg
    obtain ⟨lt, x0, x1, x2, x3, x4, x5⟩ := H7
    obtain ⟨K, hK⟩ : ∃ K, K = w.heap.size + 1 + 1 := ⟨_, rfl⟩
    have lK : w.heap.size ≤ K := by omega
    rw [← hK] at R7 ⊢
    clear hK
    go_wp2_with (first | (go_at_fn g; refine (CW.out _ _ ((by repeat (first | exact Gr.refl _ | refine Gr.setCell ?_ _ _ (by first | exact Nat.le_refl _ | (simp; omega) | (simp; done)) | refine Gr.grown ?_ _ _ | refine Gr.drewN ?_ _ | refine Gr.drew ?_ | refine Gr.alloc ?_ _ | refine Gr.grow ?_ _ | (refine Gr.trans ?_ (by assumption)))))).mono ?_; rintro e W3 ⟨rfl, hg⟩; have R8 := R7.gr hg; have G8 := G7.trans hg; clear R7 hg; obtain ⟨lr, r0, r1, r2, r3, f0, f1, f2, f3⟩ := R8))
    exact bodyPost_ret (v := .agg #[.int .i64 (P M), .int .i64 (Q M), .int .i64 0, .int .i64 0]) (by simp [results, Tryz.results32, go_sem, *]) rfl ⟨rfl, (by repeat (first | exact Gr.refl _ | refine Gr.setCell ?_ _ _ (by first | exact Nat.le_refl _ | (simp; omega) | (simp; done) | (show (_ : Nat) ≤ _; omega)) | refine Gr.grown ?_ _ _ | refine Gr.drewN ?_ _ | refine Gr.drew ?_ | refine Gr.alloc ?_ _ | refine Gr.grow ?_ _ | (refine Gr.trans ?_ (by assumption))))⟩

end Go.Proofs.YtkiopgegdkeojaaGreatDoor.Walks

/- The walk of until.Date. -/
namespace Go.Proofs.YtkiopgegdkeojaaGreatDoor.Walks
open Go Go.RowKit Go.Sort Go.Proofs.YtkiopgegdkeojaaGreatDoor.Base Go.Proofs.YtkiopgegdkeojaaGreatDoor.Plain Go.Proofs.YtkiopgegdkeojaaGreatDoor.Math

theorem D5.at {w : World} {b : Nat} (h : w.heap.size = b) (y n d : Int) (c : Bool) : D5 (w.alloc (.cells #[.int .i64 y, .int .i64 n, .bool c, .int .i64 d] 25)) b y n c d := by
  subst h
  exact ⟨by simp, by simp [go_sem], by simp [go_sem], by simp [go_sem], by simp [go_sem], by simp [go_sem], by simp [go_sem], by simp [go_sem], by simp [go_sem]⟩
theorem udate_new (w : World) (y n d y' n' d' : Int) (c c' : Bool) : ∃ W, W = ((w.alloc (.cells #[.int .i64 y, .int .i64 n, .bool c, .int .i64 d] 25)).alloc (.cells #[.int .i64 y', .int .i64 n', .bool c', .int .i64 d'] 25)).alloc (.cells #[.int .i64 0, .int .i64 0, .int .i64 0, .int .i64 0] 27) ∧
    D5 W w.heap.size y n c d ∧ D5 W (w.heap.size + 1) y' n' c' d' ∧ S5 W (w.heap.size + 1 + 1) 0 0 0 0 ∧ Gr w W := by
  refine ⟨_, rfl, ?_, ?_, S5.at (by simp) 0 0 0 0, (((Gr.refl _).alloc _).alloc _).alloc _⟩
  · exact (D5.at rfl y n d c).gr (((Gr.refl _).alloc _).alloc _)
  · exact (D5.at (by simp) y' n' d' c').gr ((Gr.refl _).alloc _)
/-- A date that may not be: both tell the same error. -/
theorem tday_bad (y n : Int) (c : Bool) (d : Int) (h : ¬ ∃ j, n = cN (lp y) j ∧ c = cL (lp y) j ∧ HV y j d) : ∃ E : Int, 2 ≤ E ∧ E ≤ 4 ∧
    (∀ w, GT w → Calls Tryz.prog 31 #[.agg #[.int .i64 y, .int .i64 n, .bool c, .int .i64 d]] w fun e w' => e = .returned (.tuple #[.int .i64 0, .int .i64 E]) ∧ Gr w w') ∧
    (∀ w, Calls Tryz.prog 17 #[.agg #[.int .i64 y, .int .i64 n, .bool c, .int .i64 d]] w fun e w' => e = .returned (.tuple #[.int .i64 0, .int .i64 E]) ∧ Gr w w') := by
  rcases adate_cases y n c d with g | g | ⟨h0, h1, g⟩ | ⟨h0, h1, j, hj, rfl, rfl, g⟩
  · exact absurd g h
  · exact ⟨2, by decide, by decide, fun w G => htoday_e _ _ _ _ _ w (by decide) fun W hW => look_e _ _ _ _ _ W (by decide) fun w => find_y y n c w g, fun w => r10today_e _ _ _ _ _ w (by decide) fun w => r10check_e _ _ _ _ _ w (by decide) fun w => r10last_y y n c w g⟩
  · exact ⟨3, by decide, by decide, fun w G => htoday_e _ _ _ _ _ w (by decide) fun W hW => look_e _ _ _ _ _ W (by decide) fun w => find_m y n c w h0 h1 g, fun w => r10today_e _ _ _ _ _ w (by decide) fun w => r10check_e _ _ _ _ _ w (by decide) fun w => r10last_m y n c w h0 h1 g⟩
  · exact ⟨4, by decide, by decide, fun w G => htoday_e _ _ _ _ _ w (by decide) fun W hW => look_d y j d W (G.gr hW) h0 h1 hj g, fun w => r10today_e _ _ _ _ _ w (by decide) fun w => r10check_d y j d w h0 h1 hj g⟩
set_option maxRecDepth 20000 in
set_option maxHeartbeats 8000000 in
theorem udate_unit (y n d y' n' d' u : Int) (c c' : Bool) (w : World) (h : u < 0 ∨ 3 < u) :
    Calls Tryz.prog 14 #[.agg #[.int .i64 y, .int .i64 n, .bool c, .int .i64 d], .agg #[.int .i64 y', .int .i64 n', .bool c', .int .i64 d'], .int .i64 u] w fun e w' => e = .returned (.tuple #[.agg #[.int .i64 0, .int .i64 0, .int .i64 0, .int .i64 0], .int .i64 1]) ∧ Gr w w' := by
  by_cases h0 : u < 0
  · clear h
    go_enter Tryz.func14, Tryz.ntmps14
    go_wp2
    exact bodyPost_ret (v := .tuple #[.agg #[.int .i64 0, .int .i64 0, .int .i64 0, .int .i64 0], .int .i64 1]) (by simp [results, Tryz.results14, go_sem, *]) rfl ⟨rfl, (by repeat (first | exact Gr.refl _ | refine Gr.setCell ?_ _ _ (by first | exact Nat.le_refl _ | (simp; omega) | (simp; done)) | refine Gr.grown ?_ _ _ | refine Gr.drewN ?_ _ | refine Gr.drew ?_ | refine Gr.alloc ?_ _ | refine Gr.grow ?_ _ | (refine Gr.trans ?_ (by assumption))))⟩
  · have h1 : 3 < u := by omega
    clear h
    go_enter Tryz.func14, Tryz.ntmps14
    go_wp2
    exact bodyPost_ret (v := .tuple #[.agg #[.int .i64 0, .int .i64 0, .int .i64 0, .int .i64 0], .int .i64 1]) (by simp [results, Tryz.results14, go_sem, *]) rfl ⟨rfl, (by repeat (first | exact Gr.refl _ | refine Gr.setCell ?_ _ _ (by first | exact Nat.le_refl _ | (simp; omega) | (simp; done)) | refine Gr.grown ?_ _ _ | refine Gr.drewN ?_ _ | refine Gr.drew ?_ | refine Gr.alloc ?_ _ | refine Gr.grow ?_ _ | (refine Gr.trans ?_ (by assumption))))⟩
set_option maxRecDepth 20000 in
set_option maxHeartbeats 8000000 in
theorem udate_a (y n d y' n' d' u E : Int) (c c' : Bool) (w : World) (u0 : 0 ≤ u) (u1 : u ≤ 3) (hE : E ≠ 0)
    (c1 : ∀ W, Gr w W → Calls Tryz.prog 31 #[.agg #[.int .i64 y, .int .i64 n, .bool c, .int .i64 d]] W fun e w' => e = .returned (.tuple #[.int .i64 0, .int .i64 E]) ∧ Gr W w') :
    Calls Tryz.prog 14 #[.agg #[.int .i64 y, .int .i64 n, .bool c, .int .i64 d], .agg #[.int .i64 y', .int .i64 n', .bool c', .int .i64 d'], .int .i64 u] w fun e w' => e = .returned (.tuple #[.agg #[.int .i64 0, .int .i64 0, .int .i64 0, .int .i64 0], .int .i64 E]) ∧ Gr w w' := by
  have C1 := Lib.hid c1
  have e1 : (E == 0) = false := beq_eq_false_iff_ne.2 hE
  have e2 : (E != 0) = true := by simp [bne_iff_ne, hE]
  clear c1
  go_enter Tryz.func14, Tryz.ntmps14
  go_wp2_with (first | (go_at_call 31; fail))
  obtain ⟨W0, hW0, DA, DB, SR, G0⟩ := udate_new w y n d y' n' d' c c'
  rw [← hW0]
  clear hW0
  obtain ⟨a0, ha0⟩ : ∃ b, b = w.heap.size := ⟨_, rfl⟩
  obtain ⟨b0, hb0⟩ : ∃ b, b = w.heap.size + 1 := ⟨_, rfl⟩
  obtain ⟨r0, hr0⟩ : ∃ b, b = w.heap.size + 1 + 1 := ⟨_, rfl⟩
  have lr0 : w.heap.size ≤ r0 := by omega
  rw [← hr0] at SR ⊢
  rw [← hb0] at DB ⊢
  rw [← ha0] at DA ⊢
  clear hr0 hb0 ha0
  refine (C1.out W0 G0).mono ?_
  rintro e wA ⟨rfl, hgA⟩
  have DA := DA.gr hgA
  have DB := DB.gr hgA
  have SR := SR.gr hgA
  have GA := G0.trans hgA
  clear hgA
  obtain ⟨lr, r0', r1, r2, r3, f0, f1, f2, f3⟩ := SR
  go_wp2
  exact bodyPost_ret (v := .tuple #[.agg #[.int .i64 0, .int .i64 0, .int .i64 0, .int .i64 0], .int .i64 E]) (by simp [results, Tryz.results14, go_sem, *]) rfl ⟨rfl, (by repeat (first | exact Gr.refl _ | refine Gr.setCell ?_ _ _ (by first | exact Nat.le_refl _ | (simp; omega) | (simp; done) | (show (_ : Nat) ≤ _; omega)) | refine Gr.grown ?_ _ _ | refine Gr.drewN ?_ _ | refine Gr.drew ?_ | refine Gr.alloc ?_ _ | refine Gr.grow ?_ _ | (refine Gr.trans ?_ (by assumption))))⟩
set_option maxRecDepth 20000 in
set_option maxHeartbeats 8000000 in
theorem udate_b (y n d y' n' d' u E X : Int) (c c' : Bool) (w : World) (u0 : 0 ≤ u) (u1 : u ≤ 3) (hE : E ≠ 0)
    (c1 : ∀ W, Gr w W → Calls Tryz.prog 31 #[.agg #[.int .i64 y, .int .i64 n, .bool c, .int .i64 d]] W fun e w' => e = .returned (.tuple #[.int .i64 X, .int .i64 0]) ∧ Gr W w')
    (c2 : ∀ W, Gr w W → Calls Tryz.prog 31 #[.agg #[.int .i64 y', .int .i64 n', .bool c', .int .i64 d']] W fun e w' => e = .returned (.tuple #[.int .i64 0, .int .i64 E]) ∧ Gr W w') :
    Calls Tryz.prog 14 #[.agg #[.int .i64 y, .int .i64 n, .bool c, .int .i64 d], .agg #[.int .i64 y', .int .i64 n', .bool c', .int .i64 d'], .int .i64 u] w fun e w' => e = .returned (.tuple #[.agg #[.int .i64 0, .int .i64 0, .int .i64 0, .int .i64 0], .int .i64 E]) ∧ Gr w w' := by
  have C1 := Lib.hid c1
  have C2 := Lib.hid c2
  have e1 : (E == 0) = false := beq_eq_false_iff_ne.2 hE
  have e2 : (E != 0) = true := by simp [bne_iff_ne, hE]
  clear c1 c2
  go_enter Tryz.func14, Tryz.ntmps14
  go_wp2_with (first | (go_at_call 31; fail))
  obtain ⟨W0, hW0, DA, DB, SR, G0⟩ := udate_new w y n d y' n' d' c c'
  rw [← hW0]
  clear hW0
  obtain ⟨a0, ha0⟩ : ∃ b, b = w.heap.size := ⟨_, rfl⟩
  obtain ⟨b0, hb0⟩ : ∃ b, b = w.heap.size + 1 := ⟨_, rfl⟩
  obtain ⟨r0, hr0⟩ : ∃ b, b = w.heap.size + 1 + 1 := ⟨_, rfl⟩
  have lr0 : w.heap.size ≤ r0 := by omega
  rw [← hr0] at SR ⊢
  rw [← hb0] at DB ⊢
  rw [← ha0] at DA ⊢
  clear hr0 hb0 ha0
  refine (C1.out W0 G0).mono ?_
  rintro e wA ⟨rfl, hgA⟩
  have DA := DA.gr hgA
  have DB := DB.gr hgA
  have SR := SR.gr hgA
  have GA := G0.trans hgA
  clear hgA
  obtain ⟨lb, x0, x1, x2, x3, z0, z1, z2, z3⟩ := DB
  go_wp2_with (first | ((go_at_call 31; (with_reducible refine (C2.out _ ((by repeat (first | exact Gr.refl _ | refine Gr.setCell ?_ _ _ (by first | exact Nat.le_refl _ | (simp; omega) | (simp; done)) | refine Gr.grown ?_ _ _ | refine Gr.drewN ?_ _ | refine Gr.drew ?_ | refine Gr.alloc ?_ _ | refine Gr.grow ?_ _ | (refine Gr.trans ?_ (by assumption)))))).mono ?_); rintro e wB ⟨rfl, hgwB⟩); have DA := DA.gr hgwB; have SR := SR.gr hgwB; have GB := GA.trans hgwB; clear hgwB lb x0 x1 x2 x3 z0 z1 z2 z3 GA; obtain ⟨lr, r0', r1, r2, r3, f0, f1, f2, f3⟩ := SR))
  exact bodyPost_ret (v := .tuple #[.agg #[.int .i64 0, .int .i64 0, .int .i64 0, .int .i64 0], .int .i64 E]) (by simp [results, Tryz.results14, go_sem, *]) rfl ⟨rfl, (by repeat (first | exact Gr.refl _ | refine Gr.setCell ?_ _ _ (by first | exact Nat.le_refl _ | (simp; omega) | (simp; done) | (show (_ : Nat) ≤ _; omega)) | refine Gr.grown ?_ _ _ | refine Gr.drewN ?_ _ | refine Gr.drew ?_ | refine Gr.alloc ?_ _ | refine Gr.grow ?_ _ | (refine Gr.trans ?_ (by assumption))))⟩
set_option maxRecDepth 20000 in
set_option maxHeartbeats 8000000 in
theorem udate_0 (y n d y' n' d' X T : Int) (c c' : Bool) (w : World) (X0 : -1500000 ≤ X) (X1 : X ≤ 2300000) (T0 : -1500000 ≤ T) (T1 : T ≤ 2300000)
    (c1 : ∀ W, Gr w W → Calls Tryz.prog 31 #[.agg #[.int .i64 y, .int .i64 n, .bool c, .int .i64 d]] W fun e w' => e = .returned (.tuple #[.int .i64 X, .int .i64 0]) ∧ Gr W w')
    (c2 : ∀ W, Gr w W → Calls Tryz.prog 31 #[.agg #[.int .i64 y', .int .i64 n', .bool c', .int .i64 d']] W fun e w' => e = .returned (.tuple #[.int .i64 T, .int .i64 0]) ∧ Gr W w') :
    Calls Tryz.prog 14 #[.agg #[.int .i64 y, .int .i64 n, .bool c, .int .i64 d], .agg #[.int .i64 y', .int .i64 n', .bool c', .int .i64 d'], .int .i64 0] w fun e w' => e = .returned (.tuple #[.agg #[.int .i64 0, .int .i64 0, .int .i64 0, .int .i64 (T - X)], .int .i64 0]) ∧ Gr w w' := by
  have C1 := Lib.hid c1
  have C2 := Lib.hid c2
  clear c1 c2
  rcases Int.lt_or_le T X with hX | hX
  · skip
    go_enter Tryz.func14, Tryz.ntmps14
    go_wp2_with (first | (go_at_call 31; fail))
    obtain ⟨W0, hW0, DA, DB, SR, G0⟩ := udate_new w y n d y' n' d' c c'
    rw [← hW0]
    clear hW0
    obtain ⟨a0, ha0⟩ : ∃ b, b = w.heap.size := ⟨_, rfl⟩
    obtain ⟨b0, hb0⟩ : ∃ b, b = w.heap.size + 1 := ⟨_, rfl⟩
    obtain ⟨r0, hr0⟩ : ∃ b, b = w.heap.size + 1 + 1 := ⟨_, rfl⟩
    have lr0 : w.heap.size ≤ r0 := by omega
    rw [← hr0] at SR ⊢
    rw [← hb0] at DB ⊢
    rw [← ha0] at DA ⊢
    clear hr0 hb0 ha0
    refine (C1.out W0 G0).mono ?_
    rintro e wA ⟨rfl, hgA⟩
    have DA := DA.gr hgA
    have DB := DB.gr hgA
    have SR := SR.gr hgA
    have GA := G0.trans hgA
    clear hgA
    obtain ⟨lb, x0, x1, x2, x3, z0, z1, z2, z3⟩ := DB
    go_wp2_with (first | ((go_at_call 31; (with_reducible refine (C2.out _ ((by repeat (first | exact Gr.refl _ | refine Gr.setCell ?_ _ _ (by first | exact Nat.le_refl _ | (simp; omega) | (simp; done)) | refine Gr.grown ?_ _ _ | refine Gr.drewN ?_ _ | refine Gr.drew ?_ | refine Gr.alloc ?_ _ | refine Gr.grow ?_ _ | (refine Gr.trans ?_ (by assumption)))))).mono ?_); rintro e wB ⟨rfl, hgwB⟩); have DA := DA.gr hgwB; have SR := SR.gr hgwB; have GB := GA.trans hgwB; clear hgwB lb x0 x1 x2 x3 z0 z1 z2 z3 GA; obtain ⟨lr, r0', r1, r2, r3, f0, f1, f2, f3⟩ := SR; obtain ⟨la, y0, y1, y2, y3, v0, v1, v2, v3⟩ := DA))
    exact bodyPost_ret (v := .tuple #[.agg #[.int .i64 0, .int .i64 0, .int .i64 0, .int .i64 (T - X)], .int .i64 0]) (by simp [results, Tryz.results14, go_sem, *]) rfl ⟨rfl, (by repeat (first | exact Gr.refl _ | refine Gr.setCell ?_ _ _ (by first | exact Nat.le_refl _ | (simp; omega) | (simp; done) | (show (_ : Nat) ≤ _; omega)) | refine Gr.grown ?_ _ _ | refine Gr.drewN ?_ _ | refine Gr.drew ?_ | refine Gr.alloc ?_ _ | refine Gr.grow ?_ _ | (refine Gr.trans ?_ (by assumption))))⟩
  · skip
    go_enter Tryz.func14, Tryz.ntmps14
    go_wp2_with (first | (go_at_call 31; fail))
    obtain ⟨W0, hW0, DA, DB, SR, G0⟩ := udate_new w y n d y' n' d' c c'
    rw [← hW0]
    clear hW0
    obtain ⟨a0, ha0⟩ : ∃ b, b = w.heap.size := ⟨_, rfl⟩
    obtain ⟨b0, hb0⟩ : ∃ b, b = w.heap.size + 1 := ⟨_, rfl⟩
    obtain ⟨r0, hr0⟩ : ∃ b, b = w.heap.size + 1 + 1 := ⟨_, rfl⟩
    have lr0 : w.heap.size ≤ r0 := by omega
    rw [← hr0] at SR ⊢
    rw [← hb0] at DB ⊢
    rw [← ha0] at DA ⊢
    clear hr0 hb0 ha0
    refine (C1.out W0 G0).mono ?_
    rintro e wA ⟨rfl, hgA⟩
    have DA := DA.gr hgA
    have DB := DB.gr hgA
    have SR := SR.gr hgA
    have GA := G0.trans hgA
    clear hgA
    obtain ⟨lb, x0, x1, x2, x3, z0, z1, z2, z3⟩ := DB
    go_wp2_with (first | ((go_at_call 31; (with_reducible refine (C2.out _ ((by repeat (first | exact Gr.refl _ | refine Gr.setCell ?_ _ _ (by first | exact Nat.le_refl _ | (simp; omega) | (simp; done)) | refine Gr.grown ?_ _ _ | refine Gr.drewN ?_ _ | refine Gr.drew ?_ | refine Gr.alloc ?_ _ | refine Gr.grow ?_ _ | (refine Gr.trans ?_ (by assumption)))))).mono ?_); rintro e wB ⟨rfl, hgwB⟩); have DA := DA.gr hgwB; have SR := SR.gr hgwB; have GB := GA.trans hgwB; clear hgwB lb x0 x1 x2 x3 z0 z1 z2 z3 GA; obtain ⟨lr, r0', r1, r2, r3, f0, f1, f2, f3⟩ := SR; obtain ⟨la, y0, y1, y2, y3, v0, v1, v2, v3⟩ := DA))
    exact bodyPost_ret (v := .tuple #[.agg #[.int .i64 0, .int .i64 0, .int .i64 0, .int .i64 (T - X)], .int .i64 0]) (by simp [results, Tryz.results14, go_sem, *]) rfl ⟨rfl, (by repeat (first | exact Gr.refl _ | refine Gr.setCell ?_ _ _ (by first | exact Nat.le_refl _ | (simp; omega) | (simp; done) | (show (_ : Nat) ≤ _; omega)) | refine Gr.grown ?_ _ _ | refine Gr.drewN ?_ _ | refine Gr.drew ?_ | refine Gr.alloc ?_ _ | refine Gr.grow ?_ _ | (refine Gr.trans ?_ (by assumption))))⟩

end Go.Proofs.YtkiopgegdkeojaaGreatDoor.Walks

/- The walk of until.Date, by weeks, months and years. -/
namespace Go.Proofs.YtkiopgegdkeojaaGreatDoor.Walks
open Go Go.RowKit Go.Sort Go.Proofs.YtkiopgegdkeojaaGreatDoor.Base Go.Proofs.YtkiopgegdkeojaaGreatDoor.Plain Go.Proofs.YtkiopgegdkeojaaGreatDoor.Math

/-- Whole weeks, and what is left. -/
theorem tdiv7 (a : Int) : a = 7 * a.tdiv 7 + a.tmod 7 ∧ -7 < a.tmod 7 ∧ a.tmod 7 < 7 ∧ (0 ≤ a → 0 ≤ a.tmod 7) ∧ (a ≤ 0 → a.tmod 7 ≤ 0) := by
  have e := Int.mul_tdiv_add_tmod a 7
  refine ⟨by omega, Int.lt_tmod_of_pos a (by decide), Int.tmod_lt_of_pos a (by decide), fun h => Int.tmod_nonneg 7 h, fun h => ?_⟩
  have := Int.tmod_nonneg (a := -a) 7 (by omega)
  rw [Int.neg_tmod] at this
  omega
set_option maxRecDepth 20000 in
set_option maxHeartbeats 8000000 in
theorem udate_1 (y n d y' n' d' X T Q R : Int) (c c' : Bool) (w : World) (X0 : -1500000 ≤ X) (X1 : X ≤ 2300000) (T0 : -1500000 ≤ T) (T1 : T ≤ 2300000) (hQ : (T - X).tdiv 7 = Q) (hR : (T - X).tmod 7 = R)
    (c1 : ∀ W, Gr w W → Calls Tryz.prog 31 #[.agg #[.int .i64 y, .int .i64 n, .bool c, .int .i64 d]] W fun e w' => e = .returned (.tuple #[.int .i64 X, .int .i64 0]) ∧ Gr W w')
    (c2 : ∀ W, Gr w W → Calls Tryz.prog 31 #[.agg #[.int .i64 y', .int .i64 n', .bool c', .int .i64 d']] W fun e w' => e = .returned (.tuple #[.int .i64 T, .int .i64 0]) ∧ Gr W w') :
    Calls Tryz.prog 14 #[.agg #[.int .i64 y, .int .i64 n, .bool c, .int .i64 d], .agg #[.int .i64 y', .int .i64 n', .bool c', .int .i64 d'], .int .i64 1] w fun e w' => e = .returned (.tuple #[.agg #[.int .i64 0, .int .i64 0, .int .i64 Q, .int .i64 R], .int .i64 0]) ∧ Gr w w' := by
  have C1 := Lib.hid c1
  have C2 := Lib.hid c2
  clear c1 c2
  have hQ3 : wrap64 Q = Q := by have := tdiv7 (T - X); rw [hQ, hR] at this; unfold wrap64; omega
  rcases Int.lt_or_le T X with hX | hX
  · skip
    go_enter Tryz.func14, Tryz.ntmps14
    go_wp2_with (first | (go_at_call 31; fail))
    obtain ⟨W0, hW0, DA, DB, SR, G0⟩ := udate_new w y n d y' n' d' c c'
    rw [← hW0]
    clear hW0
    obtain ⟨a0, ha0⟩ : ∃ b, b = w.heap.size := ⟨_, rfl⟩
    obtain ⟨b0, hb0⟩ : ∃ b, b = w.heap.size + 1 := ⟨_, rfl⟩
    obtain ⟨r0, hr0⟩ : ∃ b, b = w.heap.size + 1 + 1 := ⟨_, rfl⟩
    have lr0 : w.heap.size ≤ r0 := by omega
    rw [← hr0] at SR ⊢
    rw [← hb0] at DB ⊢
    rw [← ha0] at DA ⊢
    clear hr0 hb0 ha0
    refine (C1.out W0 G0).mono ?_
    rintro e wA ⟨rfl, hgA⟩
    have DA := DA.gr hgA
    have DB := DB.gr hgA
    have SR := SR.gr hgA
    have GA := G0.trans hgA
    clear hgA
    obtain ⟨lb, x0, x1, x2, x3, z0, z1, z2, z3⟩ := DB
    go_wp2_with (first | ((go_at_call 31; (with_reducible refine (C2.out _ ((by repeat (first | exact Gr.refl _ | refine Gr.setCell ?_ _ _ (by first | exact Nat.le_refl _ | (simp; omega) | (simp; done)) | refine Gr.grown ?_ _ _ | refine Gr.drewN ?_ _ | refine Gr.drew ?_ | refine Gr.alloc ?_ _ | refine Gr.grow ?_ _ | (refine Gr.trans ?_ (by assumption)))))).mono ?_); rintro e wB ⟨rfl, hgwB⟩); have DA := DA.gr hgwB; have SR := SR.gr hgwB; have GB := GA.trans hgwB; clear hgwB lb x0 x1 x2 x3 z0 z1 z2 z3 GA; obtain ⟨lr, r0', r1, r2, r3, f0, f1, f2, f3⟩ := SR; obtain ⟨la, y0, y1, y2, y3, v0, v1, v2, v3⟩ := DA))
    exact bodyPost_ret (v := .tuple #[.agg #[.int .i64 0, .int .i64 0, .int .i64 Q, .int .i64 R], .int .i64 0]) (by simp [results, Tryz.results14, go_sem, *]) rfl ⟨rfl, (by repeat (first | exact Gr.refl _ | refine Gr.setCell ?_ _ _ (by first | exact Nat.le_refl _ | (simp; omega) | (simp; done) | (show (_ : Nat) ≤ _; omega)) | refine Gr.grown ?_ _ _ | refine Gr.drewN ?_ _ | refine Gr.drew ?_ | refine Gr.alloc ?_ _ | refine Gr.grow ?_ _ | (refine Gr.trans ?_ (by assumption))))⟩
  · have hQ2 : (T - X) / 7 = Q := by rw [← hQ]; exact (Int.tdiv_eq_ediv_of_nonneg (by omega)).symm
    have hR2 : (T - X) % 7 = R := by rw [← hR]; exact (Int.tmod_eq_emod_of_nonneg (by omega)).symm
    go_enter Tryz.func14, Tryz.ntmps14
    go_wp2_with (first | (go_at_call 31; fail))
    obtain ⟨W0, hW0, DA, DB, SR, G0⟩ := udate_new w y n d y' n' d' c c'
    rw [← hW0]
    clear hW0
    obtain ⟨a0, ha0⟩ : ∃ b, b = w.heap.size := ⟨_, rfl⟩
    obtain ⟨b0, hb0⟩ : ∃ b, b = w.heap.size + 1 := ⟨_, rfl⟩
    obtain ⟨r0, hr0⟩ : ∃ b, b = w.heap.size + 1 + 1 := ⟨_, rfl⟩
    have lr0 : w.heap.size ≤ r0 := by omega
    rw [← hr0] at SR ⊢
    rw [← hb0] at DB ⊢
    rw [← ha0] at DA ⊢
    clear hr0 hb0 ha0
    refine (C1.out W0 G0).mono ?_
    rintro e wA ⟨rfl, hgA⟩
    have DA := DA.gr hgA
    have DB := DB.gr hgA
    have SR := SR.gr hgA
    have GA := G0.trans hgA
    clear hgA
    obtain ⟨lb, x0, x1, x2, x3, z0, z1, z2, z3⟩ := DB
    go_wp2_with (first | ((go_at_call 31; (with_reducible refine (C2.out _ ((by repeat (first | exact Gr.refl _ | refine Gr.setCell ?_ _ _ (by first | exact Nat.le_refl _ | (simp; omega) | (simp; done)) | refine Gr.grown ?_ _ _ | refine Gr.drewN ?_ _ | refine Gr.drew ?_ | refine Gr.alloc ?_ _ | refine Gr.grow ?_ _ | (refine Gr.trans ?_ (by assumption)))))).mono ?_); rintro e wB ⟨rfl, hgwB⟩); have DA := DA.gr hgwB; have SR := SR.gr hgwB; have GB := GA.trans hgwB; clear hgwB lb x0 x1 x2 x3 z0 z1 z2 z3 GA; obtain ⟨lr, r0', r1, r2, r3, f0, f1, f2, f3⟩ := SR; obtain ⟨la, y0, y1, y2, y3, v0, v1, v2, v3⟩ := DA))
    exact bodyPost_ret (v := .tuple #[.agg #[.int .i64 0, .int .i64 0, .int .i64 Q, .int .i64 R], .int .i64 0]) (by simp [results, Tryz.results14, go_sem, *]) rfl ⟨rfl, (by repeat (first | exact Gr.refl _ | refine Gr.setCell ?_ _ _ (by first | exact Nat.le_refl _ | (simp; omega) | (simp; done) | (show (_ : Nat) ≤ _; omega)) | refine Gr.grown ?_ _ _ | refine Gr.drewN ?_ _ | refine Gr.drew ?_ | refine Gr.alloc ?_ _ | refine Gr.grow ?_ _ | (refine Gr.trans ?_ (by assumption))))⟩

end Go.Proofs.YtkiopgegdkeojaaGreatDoor.Walks

/- The walk of until.Date, by months and years. -/
namespace Go.Proofs.YtkiopgegdkeojaaGreatDoor.Walks
open Go Go.RowKit Go.Sort Go.Proofs.YtkiopgegdkeojaaGreatDoor.Base Go.Proofs.YtkiopgegdkeojaaGreatDoor.Plain Go.Proofs.YtkiopgegdkeojaaGreatDoor.Math

theorem uway_1 (w : World) (y n d t s : Int) (c : Bool) : ∃ W, W = (w.alloc (.cells #[.int .i64 y, .int .i64 n, .bool c, .int .i64 d, .int .i64 t, .int .i64 s] 56)).alloc (.cells #[.int .i64 0, .int .i64 0, .int .i64 0, .int .i64 0] 27) ∧ W6 W w.heap.size y n d t s c ∧ S5 W (w.heap.size + 1) 0 0 0 0 ∧ Gr w W ∧ W.heap.size = w.heap.size + 1 + 1 := by
  refine ⟨_, rfl, ⟨by simp; omega, by simp [go_sem], by simp [go_sem], by simp [go_sem], by simp [go_sem], by simp [go_sem], by simp [go_sem]⟩, S5.at (by simp) 0 0 0 0, ((Gr.refl _).alloc _).alloc _, by simp⟩
set_option maxRecDepth 20000 in
set_option maxHeartbeats 8000000 in
theorem udate_2 (y n d y' n' d' X T s M Y R1 R2 R4 : Int) (c c' R3 : Bool) (w : World) (X0 : -1500000 ≤ X) (X1 : X ≤ 2300000) (T0 : -1500000 ≤ T) (T1 : T ≤ 2300000) (Y0 : -1500000 ≤ Y) (Y1 : Y ≤ 2300000) (hs : (s = 1 ∧ X ≤ T) ∨ (s = -1 ∧ T < X))
    (c1 : ∀ W, Gr w W → Calls Tryz.prog 31 #[.agg #[.int .i64 y, .int .i64 n, .bool c, .int .i64 d]] W fun e w' => e = .returned (.tuple #[.int .i64 X, .int .i64 0]) ∧ Gr W w')
    (c2 : ∀ W, Gr w W → Calls Tryz.prog 31 #[.agg #[.int .i64 y', .int .i64 n', .bool c', .int .i64 d']] W fun e w' => e = .returned (.tuple #[.int .i64 T, .int .i64 0]) ∧ Gr W w')
    (c3 : ∀ W b, Gr w W → b < W.heap.size → W.cell? ⟨b, 0, none⟩ = some (.int .i64 0) → Calls Tryz.prog 32 #[.agg #[.int .i64 y, .int .i64 n, .bool c, .int .i64 d, .int .i64 T, .int .i64 s], .int .i64 130000, .func (.func 34) #[] #[.pointer (some ⟨b, 0, none⟩)]] W fun e w' => e = .returned (.agg #[.int .i64 0, .int .i64 M, .int .i64 0, .int .i64 0]) ∧ Gr W w')
    (c4 : ∀ W, Gr w W → Calls Tryz.prog 7 #[.agg #[.int .i64 y, .int .i64 n, .bool c, .int .i64 d], .agg #[.int .i64 0, .int .i64 M, .int .i64 0, .int .i64 0], .int .i64 0] W fun e w' => e = .returned (.tuple #[.agg #[.int .i64 R1, .int .i64 R2, .bool R3, .int .i64 R4], .int .i64 0]) ∧ Gr W w')
    (c6 : ∀ W, Gr w W → Calls Tryz.prog 31 #[.agg #[.int .i64 R1, .int .i64 R2, .bool R3, .int .i64 R4]] W fun e w' => e = .returned (.tuple #[.int .i64 Y, .int .i64 0]) ∧ Gr W w') :
    Calls Tryz.prog 14 #[.agg #[.int .i64 y, .int .i64 n, .bool c, .int .i64 d], .agg #[.int .i64 y', .int .i64 n', .bool c', .int .i64 d'], .int .i64 2] w fun e w' => e = .returned (.tuple #[.agg #[.int .i64 0, .int .i64 M, .int .i64 0, .int .i64 (T - Y)], .int .i64 0]) ∧ Gr w w' := by
  have C1 := Lib.hid c1
  have C2 := Lib.hid c2
  have C3 := Lib.hid c3
  have C4 := Lib.hid c4
  have C6 := Lib.hid c6
  clear c1 c2 c3 c4 c6
  rcases hs with ⟨rfl, hX⟩ | ⟨rfl, hX⟩
  · skip
    go_enter Tryz.func14, Tryz.ntmps14
    go_wp2_with (first | (go_at_call 31; fail))
    obtain ⟨W0, hW0, DA, DB, SR, G0⟩ := udate_new w y n d y' n' d' c c'
    rw [← hW0]
    clear hW0
    obtain ⟨a0, ha0⟩ : ∃ b, b = w.heap.size := ⟨_, rfl⟩
    obtain ⟨b0, hb0⟩ : ∃ b, b = w.heap.size + 1 := ⟨_, rfl⟩
    obtain ⟨r0, hr0⟩ : ∃ b, b = w.heap.size + 1 + 1 := ⟨_, rfl⟩
    have lr0 : w.heap.size ≤ r0 := by omega
    rw [← hr0] at SR ⊢
    rw [← hb0] at DB ⊢
    rw [← ha0] at DA ⊢
    clear hr0 hb0 ha0
    refine (C1.out W0 G0).mono ?_
    rintro e wA ⟨rfl, hgA⟩
    have DA := DA.gr hgA
    have DB := DB.gr hgA
    have SR := SR.gr hgA
    have GA := G0.trans hgA
    clear hgA
    obtain ⟨lb, x0, x1, x2, x3, z0, z1, z2, z3⟩ := DB
    go_wp2_with (first | ((go_at_call 31; (with_reducible refine (C2.out _ ((by repeat (first | exact Gr.refl _ | refine Gr.setCell ?_ _ _ (by first | exact Nat.le_refl _ | (simp; omega) | (simp; done)) | refine Gr.grown ?_ _ _ | refine Gr.drewN ?_ _ | refine Gr.drew ?_ | refine Gr.alloc ?_ _ | refine Gr.grow ?_ _ | (refine Gr.trans ?_ (by assumption)))))).mono ?_); rintro e wB ⟨rfl, hgwB⟩); have DA := DA.gr hgwB; have SR := SR.gr hgwB; have GB := GA.trans hgwB; clear hgwB lb x0 x1 x2 x3 z0 z1 z2 z3 GA; have SRB := SR; have DAB := DA; obtain ⟨lr, r0', r1, r2, r3, f0, f1, f2, f3⟩ := SR; obtain ⟨la, y0, y1, y2, y3, v0, v1, v2, v3⟩ := DA))
    obtain ⟨W, hW, H, S, gB, hz⟩ := uway_1 wB y n d T 1 c
    rw [← hW]
    clear hW lr r0' r1 r2 r3 f0 f1 f2 f3 la y0 y1 y2 y3 v0 v1 v2 v3
    obtain ⟨wb, hwb⟩ : ∃ b, b = wB.heap.size := ⟨_, rfl⟩
    obtain ⟨sb, hsb⟩ : ∃ b, b = wB.heap.size + 1 := ⟨_, rfl⟩
    have lsb : wB.heap.size ≤ sb := by omega
    have lsw : w.heap.size ≤ sb := by have := GB.size; omega
    rw [← hsb] at S hz ⊢
    have nb : wb ≠ sb := by omega
    rw [← hwb] at H ⊢
    clear hsb hwb
    obtain ⟨WY, hWY⟩ : ∃ WY, WY = W.alloc (.cells #[.int .i64 0] 3) := ⟨_, rfl⟩
    rw [← hWY]
    have gY : Gr W WY := by rw [hWY]; exact (Gr.refl _).alloc _
    have lY : sb + 1 < WY.heap.size := by rw [hWY, ← hz]; simp
    have cY : WY.cell? ⟨sb + 1, 0, none⟩ = some (.int .i64 0) := by rw [hWY, ← hz]; simp [go_sem]
    have S := S.gr gY
    have gB := gB.trans gY
    clear hWY gY
    refine (C3.out WY (sb + 1) (GB.trans gB) lY cY).mono ?_
    rintro e wD ⟨rfl, hgD⟩
    have S := S.gr hgD
    have gB := gB.trans hgD
    clear hgD lY cY
    have DA := DAB.gr gB
    have S_ := S
    obtain ⟨ls, s0, s1, s2, s3, t0, t1, t2, t3⟩ := S_
    obtain ⟨la, y0, y1, y2, y3, v0, v1, v2, v3⟩ := DA
    have na : a0 ≠ sb := by have := DAB.lt; omega
    go_wp2_with (first | (go_at_call 7; fail))
    obtain ⟨WS, hWS, SS⟩ := S.put 0 M 0 0
    rw [← hWS]
    have gS : Gr wB WS := by rw [hWS]; exact (((gB.setCell _ _ lsb).setCell _ _ lsb).setCell _ _ lsb).setCell _ _ lsb
    clear hWS S gB ls s0 s1 s2 s3 t0 t1 t2 t3 la y0 y1 y2 y3 v0 v1 v2 v3 na
    refine (C4.out WS (GB.trans gS)).mono ?_
    rintro e wE ⟨rfl, hgE⟩
    have SS := SS.gr hgE
    have gE := gS.trans hgE
    clear gS hgE
    go_wp2_with (first | (go_at_call 31; fail))
    obtain ⟨WF, hWF⟩ : ∃ WF, WF = wE.alloc (.cells #[.int .i64 R1, .int .i64 R2, .bool R3, .int .i64 R4] 25) := ⟨_, rfl⟩
    rw [← hWF]
    have gF : Gr wE WF := by rw [hWF]; exact (Gr.refl _).alloc _
    have SS := SS.gr gF
    have gE := gE.trans gF
    clear hWF gF
    refine (C6.out WF (GB.trans gE)).mono ?_
    rintro e wG ⟨rfl, hgG⟩
    have SS := SS.gr hgG
    have gG := gE.trans hgG
    have SR := SRB.gr gG
    have GG := GB.trans gG
    have nr : r0 ≠ sb := by have := SRB.lt; omega
    clear hgG gE gG SRB DAB GB lsb
    obtain ⟨ls, s0, s1, s2, s3, t0, t1, t2, t3⟩ := SS
    obtain ⟨lr, r0', r1, r2, r3, f0, f1, f2, f3⟩ := SR
    go_wp2
    exact bodyPost_ret (v := .tuple #[.agg #[.int .i64 0, .int .i64 M, .int .i64 0, .int .i64 (T - Y)], .int .i64 0]) (by simp [results, Tryz.results14, go_sem, *]) rfl ⟨rfl, (by repeat (first | exact Gr.refl _ | refine Gr.setCell ?_ _ _ (by first | exact Nat.le_refl _ | (simp; omega) | (simp; done) | (show (_ : Nat) ≤ _; omega)) | refine Gr.grown ?_ _ _ | refine Gr.drewN ?_ _ | refine Gr.drew ?_ | refine Gr.alloc ?_ _ | refine Gr.grow ?_ _ | (refine Gr.trans ?_ (by assumption))))⟩

  · skip
    go_enter Tryz.func14, Tryz.ntmps14
    go_wp2_with (first | (go_at_call 31; fail))
    obtain ⟨W0, hW0, DA, DB, SR, G0⟩ := udate_new w y n d y' n' d' c c'
    rw [← hW0]
    clear hW0
    obtain ⟨a0, ha0⟩ : ∃ b, b = w.heap.size := ⟨_, rfl⟩
    obtain ⟨b0, hb0⟩ : ∃ b, b = w.heap.size + 1 := ⟨_, rfl⟩
    obtain ⟨r0, hr0⟩ : ∃ b, b = w.heap.size + 1 + 1 := ⟨_, rfl⟩
    have lr0 : w.heap.size ≤ r0 := by omega
    rw [← hr0] at SR ⊢
    rw [← hb0] at DB ⊢
    rw [← ha0] at DA ⊢
    clear hr0 hb0 ha0
    refine (C1.out W0 G0).mono ?_
    rintro e wA ⟨rfl, hgA⟩
    have DA := DA.gr hgA
    have DB := DB.gr hgA
    have SR := SR.gr hgA
    have GA := G0.trans hgA
    clear hgA
    obtain ⟨lb, x0, x1, x2, x3, z0, z1, z2, z3⟩ := DB
    go_wp2_with (first | ((go_at_call 31; (with_reducible refine (C2.out _ ((by repeat (first | exact Gr.refl _ | refine Gr.setCell ?_ _ _ (by first | exact Nat.le_refl _ | (simp; omega) | (simp; done)) | refine Gr.grown ?_ _ _ | refine Gr.drewN ?_ _ | refine Gr.drew ?_ | refine Gr.alloc ?_ _ | refine Gr.grow ?_ _ | (refine Gr.trans ?_ (by assumption)))))).mono ?_); rintro e wB ⟨rfl, hgwB⟩); have DA := DA.gr hgwB; have SR := SR.gr hgwB; have GB := GA.trans hgwB; clear hgwB lb x0 x1 x2 x3 z0 z1 z2 z3 GA; have SRB := SR; have DAB := DA; obtain ⟨lr, r0', r1, r2, r3, f0, f1, f2, f3⟩ := SR; obtain ⟨la, y0, y1, y2, y3, v0, v1, v2, v3⟩ := DA))
    obtain ⟨W, hW, H, S, gB, hz⟩ := uway_1 wB y n d T (-1) c
    rw [← hW]
    clear hW lr r0' r1 r2 r3 f0 f1 f2 f3 la y0 y1 y2 y3 v0 v1 v2 v3
    obtain ⟨wb, hwb⟩ : ∃ b, b = wB.heap.size := ⟨_, rfl⟩
    obtain ⟨sb, hsb⟩ : ∃ b, b = wB.heap.size + 1 := ⟨_, rfl⟩
    have lsb : wB.heap.size ≤ sb := by omega
    have lsw : w.heap.size ≤ sb := by have := GB.size; omega
    rw [← hsb] at S hz ⊢
    have nb : wb ≠ sb := by omega
    rw [← hwb] at H ⊢
    clear hsb hwb
    obtain ⟨WY, hWY⟩ : ∃ WY, WY = W.alloc (.cells #[.int .i64 0] 3) := ⟨_, rfl⟩
    rw [← hWY]
    have gY : Gr W WY := by rw [hWY]; exact (Gr.refl _).alloc _
    have lY : sb + 1 < WY.heap.size := by rw [hWY, ← hz]; simp
    have cY : WY.cell? ⟨sb + 1, 0, none⟩ = some (.int .i64 0) := by rw [hWY, ← hz]; simp [go_sem]
    have S := S.gr gY
    have gB := gB.trans gY
    clear hWY gY
    refine (C3.out WY (sb + 1) (GB.trans gB) lY cY).mono ?_
    rintro e wD ⟨rfl, hgD⟩
    have S := S.gr hgD
    have gB := gB.trans hgD
    clear hgD lY cY
    have DA := DAB.gr gB
    have S_ := S
    obtain ⟨ls, s0, s1, s2, s3, t0, t1, t2, t3⟩ := S_
    obtain ⟨la, y0, y1, y2, y3, v0, v1, v2, v3⟩ := DA
    have na : a0 ≠ sb := by have := DAB.lt; omega
    go_wp2_with (first | (go_at_call 7; fail))
    obtain ⟨WS, hWS, SS⟩ := S.put 0 M 0 0
    rw [← hWS]
    have gS : Gr wB WS := by rw [hWS]; exact (((gB.setCell _ _ lsb).setCell _ _ lsb).setCell _ _ lsb).setCell _ _ lsb
    clear hWS S gB ls s0 s1 s2 s3 t0 t1 t2 t3 la y0 y1 y2 y3 v0 v1 v2 v3 na
    refine (C4.out WS (GB.trans gS)).mono ?_
    rintro e wE ⟨rfl, hgE⟩
    have SS := SS.gr hgE
    have gE := gS.trans hgE
    clear gS hgE
    go_wp2_with (first | (go_at_call 31; fail))
    obtain ⟨WF, hWF⟩ : ∃ WF, WF = wE.alloc (.cells #[.int .i64 R1, .int .i64 R2, .bool R3, .int .i64 R4] 25) := ⟨_, rfl⟩
    rw [← hWF]
    have gF : Gr wE WF := by rw [hWF]; exact (Gr.refl _).alloc _
    have SS := SS.gr gF
    have gE := gE.trans gF
    clear hWF gF
    refine (C6.out WF (GB.trans gE)).mono ?_
    rintro e wG ⟨rfl, hgG⟩
    have SS := SS.gr hgG
    have gG := gE.trans hgG
    have SR := SRB.gr gG
    have GG := GB.trans gG
    have nr : r0 ≠ sb := by have := SRB.lt; omega
    clear hgG gE gG SRB DAB GB lsb
    obtain ⟨ls, s0, s1, s2, s3, t0, t1, t2, t3⟩ := SS
    obtain ⟨lr, r0', r1, r2, r3, f0, f1, f2, f3⟩ := SR
    go_wp2
    exact bodyPost_ret (v := .tuple #[.agg #[.int .i64 0, .int .i64 M, .int .i64 0, .int .i64 (T - Y)], .int .i64 0]) (by simp [results, Tryz.results14, go_sem, *]) rfl ⟨rfl, (by repeat (first | exact Gr.refl _ | refine Gr.setCell ?_ _ _ (by first | exact Nat.le_refl _ | (simp; omega) | (simp; done) | (show (_ : Nat) ≤ _; omega)) | refine Gr.grown ?_ _ _ | refine Gr.drewN ?_ _ | refine Gr.drew ?_ | refine Gr.alloc ?_ _ | refine Gr.grow ?_ _ | (refine Gr.trans ?_ (by assumption))))⟩

set_option maxRecDepth 20000 in
set_option maxHeartbeats 8000000 in
theorem udate_3 (y n d y' n' d' X T s M Y R1 R2 R4 V : Int) (c c' R3 : Bool) (w : World) (X0 : -1500000 ≤ X) (X1 : X ≤ 2300000) (T0 : -1500000 ≤ T) (T1 : T ≤ 2300000) (Y0 : -1500000 ≤ Y) (Y1 : Y ≤ 2300000) (hs : (s = 1 ∧ X ≤ T) ∨ (s = -1 ∧ T < X))
    (c1 : ∀ W, Gr w W → Calls Tryz.prog 31 #[.agg #[.int .i64 y, .int .i64 n, .bool c, .int .i64 d]] W fun e w' => e = .returned (.tuple #[.int .i64 X, .int .i64 0]) ∧ Gr W w')
    (c2 : ∀ W, Gr w W → Calls Tryz.prog 31 #[.agg #[.int .i64 y', .int .i64 n', .bool c', .int .i64 d']] W fun e w' => e = .returned (.tuple #[.int .i64 T, .int .i64 0]) ∧ Gr W w')
    (c5 : ∀ W, Gr w W → Calls Tryz.prog 32 #[.agg #[.int .i64 y, .int .i64 n, .bool c, .int .i64 d, .int .i64 T, .int .i64 s], .int .i64 9999, .func (.func 33) #[] #[]] W fun e w' => e = .returned (.agg #[.int .i64 V, .int .i64 0, .int .i64 0, .int .i64 0]) ∧ Gr W w')
    (c3 : ∀ W b, Gr w W → b < W.heap.size → W.cell? ⟨b, 0, none⟩ = some (.int .i64 V) → Calls Tryz.prog 32 #[.agg #[.int .i64 y, .int .i64 n, .bool c, .int .i64 d, .int .i64 T, .int .i64 s], .int .i64 130000, .func (.func 34) #[] #[.pointer (some ⟨b, 0, none⟩)]] W fun e w' => e = .returned (.agg #[.int .i64 V, .int .i64 M, .int .i64 0, .int .i64 0]) ∧ Gr W w')
    (c4 : ∀ W, Gr w W → Calls Tryz.prog 7 #[.agg #[.int .i64 y, .int .i64 n, .bool c, .int .i64 d], .agg #[.int .i64 V, .int .i64 M, .int .i64 0, .int .i64 0], .int .i64 0] W fun e w' => e = .returned (.tuple #[.agg #[.int .i64 R1, .int .i64 R2, .bool R3, .int .i64 R4], .int .i64 0]) ∧ Gr W w')
    (c6 : ∀ W, Gr w W → Calls Tryz.prog 31 #[.agg #[.int .i64 R1, .int .i64 R2, .bool R3, .int .i64 R4]] W fun e w' => e = .returned (.tuple #[.int .i64 Y, .int .i64 0]) ∧ Gr W w') :
    Calls Tryz.prog 14 #[.agg #[.int .i64 y, .int .i64 n, .bool c, .int .i64 d], .agg #[.int .i64 y', .int .i64 n', .bool c', .int .i64 d'], .int .i64 3] w fun e w' => e = .returned (.tuple #[.agg #[.int .i64 V, .int .i64 M, .int .i64 0, .int .i64 (T - Y)], .int .i64 0]) ∧ Gr w w' := by
  have C1 := Lib.hid c1
  have C2 := Lib.hid c2
  have C3 := Lib.hid c3
  have C4 := Lib.hid c4
  have C5 := Lib.hid c5
  have C6 := Lib.hid c6
  clear c1 c2 c3 c4 c5 c6
  rcases hs with ⟨rfl, hX⟩ | ⟨rfl, hX⟩
  · skip
    go_enter Tryz.func14, Tryz.ntmps14
    go_wp2_with (first | (go_at_call 31; fail))
    obtain ⟨W0, hW0, DA, DB, SR, G0⟩ := udate_new w y n d y' n' d' c c'
    rw [← hW0]
    clear hW0
    obtain ⟨a0, ha0⟩ : ∃ b, b = w.heap.size := ⟨_, rfl⟩
    obtain ⟨b0, hb0⟩ : ∃ b, b = w.heap.size + 1 := ⟨_, rfl⟩
    obtain ⟨r0, hr0⟩ : ∃ b, b = w.heap.size + 1 + 1 := ⟨_, rfl⟩
    have lr0 : w.heap.size ≤ r0 := by omega
    rw [← hr0] at SR ⊢
    rw [← hb0] at DB ⊢
    rw [← ha0] at DA ⊢
    clear hr0 hb0 ha0
    refine (C1.out W0 G0).mono ?_
    rintro e wA ⟨rfl, hgA⟩
    have DA := DA.gr hgA
    have DB := DB.gr hgA
    have SR := SR.gr hgA
    have GA := G0.trans hgA
    clear hgA
    obtain ⟨lb, x0, x1, x2, x3, z0, z1, z2, z3⟩ := DB
    go_wp2_with (first | ((go_at_call 31; (with_reducible refine (C2.out _ ((by repeat (first | exact Gr.refl _ | refine Gr.setCell ?_ _ _ (by first | exact Nat.le_refl _ | (simp; omega) | (simp; done)) | refine Gr.grown ?_ _ _ | refine Gr.drewN ?_ _ | refine Gr.drew ?_ | refine Gr.alloc ?_ _ | refine Gr.grow ?_ _ | (refine Gr.trans ?_ (by assumption)))))).mono ?_); rintro e wB ⟨rfl, hgwB⟩); have DA := DA.gr hgwB; have SR := SR.gr hgwB; have GB := GA.trans hgwB; clear hgwB lb x0 x1 x2 x3 z0 z1 z2 z3 GA; have SRB := SR; have DAB := DA; obtain ⟨lr, r0', r1, r2, r3, f0, f1, f2, f3⟩ := SR; obtain ⟨la, y0, y1, y2, y3, v0, v1, v2, v3⟩ := DA))
    obtain ⟨W, hW, H, S, gB, hz⟩ := uway_1 wB y n d T 1 c
    rw [← hW]
    clear hW lr r0' r1 r2 r3 f0 f1 f2 f3 la y0 y1 y2 y3 v0 v1 v2 v3
    obtain ⟨wb, hwb⟩ : ∃ b, b = wB.heap.size := ⟨_, rfl⟩
    obtain ⟨sb, hsb⟩ : ∃ b, b = wB.heap.size + 1 := ⟨_, rfl⟩
    have lsb : wB.heap.size ≤ sb := by omega
    have lsw : w.heap.size ≤ sb := by have := GB.size; omega
    rw [← hsb] at S hz ⊢
    have nb : wb ≠ sb := by omega
    rw [← hwb] at H ⊢
    clear hsb hwb
    refine (C5.out W (GB.trans gB)).mono ?_
    rintro e wC ⟨rfl, hgC⟩
    have S := S.gr hgC
    have H := H.gr hgC
    have gB := gB.trans hgC
    clear hgC
    have S_ := S
    obtain ⟨ls, s0, s1, s2, s3, t0, t1, t2, t3⟩ := S_
    obtain ⟨lh, h0, h1, h2, h3, h4, h5⟩ := H
    go_wp2_with (first | (go_at_call 32; fail))
    obtain ⟨W', hW', S'⟩ := S.put V 0 0 0
    rw [← hW']
    have hz' : W'.heap.size = wC.heap.size := by rw [hW', set_size, set_size, set_size, set_size]
    have gB' : Gr wB W' := by rw [hW']; exact (((gB.setCell _ _ lsb).setCell _ _ lsb).setCell _ _ lsb).setCell _ _ lsb
    clear hW' S gB ls s0 s1 s2 s3 t0 t1 t2 t3 lh h0 h1 h2 h3 h4 h5 nb
    obtain ⟨WY, hWY⟩ : ∃ WY, WY = W'.alloc (.cells #[.int .i64 V] 3) := ⟨_, rfl⟩
    rw [← hWY]
    have gY : Gr W' WY := by rw [hWY]; exact (Gr.refl _).alloc _
    have lY : wC.heap.size < WY.heap.size := by rw [hWY, ← hz']; simp
    have cY : WY.cell? ⟨wC.heap.size, 0, none⟩ = some (.int .i64 V) := by rw [hWY, ← hz']; simp [go_sem]
    have S := S'.gr gY
    have gB := gB'.trans gY
    clear hWY gY
    refine (C3.out WY wC.heap.size (GB.trans gB) lY cY).mono ?_
    rintro e wD ⟨rfl, hgD⟩
    have S := S.gr hgD
    have gB := gB.trans hgD
    clear hgD lY cY
    have DA := DAB.gr gB
    have S_ := S
    obtain ⟨ls, s0, s1, s2, s3, t0, t1, t2, t3⟩ := S_
    obtain ⟨la, y0, y1, y2, y3, v0, v1, v2, v3⟩ := DA
    have na : a0 ≠ sb := by have := DAB.lt; omega
    go_wp2_with (first | (go_at_call 7; fail))
    obtain ⟨WS, hWS, SS⟩ := S.put V M 0 0
    rw [← hWS]
    have gS : Gr wB WS := by rw [hWS]; exact (((gB.setCell _ _ lsb).setCell _ _ lsb).setCell _ _ lsb).setCell _ _ lsb
    clear hWS S gB ls s0 s1 s2 s3 t0 t1 t2 t3 la y0 y1 y2 y3 v0 v1 v2 v3 na
    refine (C4.out WS (GB.trans gS)).mono ?_
    rintro e wE ⟨rfl, hgE⟩
    have SS := SS.gr hgE
    have gE := gS.trans hgE
    clear gS hgE
    go_wp2_with (first | (go_at_call 31; fail))
    obtain ⟨WF, hWF⟩ : ∃ WF, WF = wE.alloc (.cells #[.int .i64 R1, .int .i64 R2, .bool R3, .int .i64 R4] 25) := ⟨_, rfl⟩
    rw [← hWF]
    have gF : Gr wE WF := by rw [hWF]; exact (Gr.refl _).alloc _
    have SS := SS.gr gF
    have gE := gE.trans gF
    clear hWF gF
    refine (C6.out WF (GB.trans gE)).mono ?_
    rintro e wG ⟨rfl, hgG⟩
    have SS := SS.gr hgG
    have gG := gE.trans hgG
    have SR := SRB.gr gG
    have GG := GB.trans gG
    have nr : r0 ≠ sb := by have := SRB.lt; omega
    clear hgG gE gG SRB DAB GB lsb
    obtain ⟨ls, s0, s1, s2, s3, t0, t1, t2, t3⟩ := SS
    obtain ⟨lr, r0', r1, r2, r3, f0, f1, f2, f3⟩ := SR
    go_wp2
    exact bodyPost_ret (v := .tuple #[.agg #[.int .i64 V, .int .i64 M, .int .i64 0, .int .i64 (T - Y)], .int .i64 0]) (by simp [results, Tryz.results14, go_sem, *]) rfl ⟨rfl, (by repeat (first | exact Gr.refl _ | refine Gr.setCell ?_ _ _ (by first | exact Nat.le_refl _ | (simp; omega) | (simp; done) | (show (_ : Nat) ≤ _; omega)) | refine Gr.grown ?_ _ _ | refine Gr.drewN ?_ _ | refine Gr.drew ?_ | refine Gr.alloc ?_ _ | refine Gr.grow ?_ _ | (refine Gr.trans ?_ (by assumption))))⟩

  · skip
    go_enter Tryz.func14, Tryz.ntmps14
    go_wp2_with (first | (go_at_call 31; fail))
    obtain ⟨W0, hW0, DA, DB, SR, G0⟩ := udate_new w y n d y' n' d' c c'
    rw [← hW0]
    clear hW0
    obtain ⟨a0, ha0⟩ : ∃ b, b = w.heap.size := ⟨_, rfl⟩
    obtain ⟨b0, hb0⟩ : ∃ b, b = w.heap.size + 1 := ⟨_, rfl⟩
    obtain ⟨r0, hr0⟩ : ∃ b, b = w.heap.size + 1 + 1 := ⟨_, rfl⟩
    have lr0 : w.heap.size ≤ r0 := by omega
    rw [← hr0] at SR ⊢
    rw [← hb0] at DB ⊢
    rw [← ha0] at DA ⊢
    clear hr0 hb0 ha0
    refine (C1.out W0 G0).mono ?_
    rintro e wA ⟨rfl, hgA⟩
    have DA := DA.gr hgA
    have DB := DB.gr hgA
    have SR := SR.gr hgA
    have GA := G0.trans hgA
    clear hgA
    obtain ⟨lb, x0, x1, x2, x3, z0, z1, z2, z3⟩ := DB
    go_wp2_with (first | ((go_at_call 31; (with_reducible refine (C2.out _ ((by repeat (first | exact Gr.refl _ | refine Gr.setCell ?_ _ _ (by first | exact Nat.le_refl _ | (simp; omega) | (simp; done)) | refine Gr.grown ?_ _ _ | refine Gr.drewN ?_ _ | refine Gr.drew ?_ | refine Gr.alloc ?_ _ | refine Gr.grow ?_ _ | (refine Gr.trans ?_ (by assumption)))))).mono ?_); rintro e wB ⟨rfl, hgwB⟩); have DA := DA.gr hgwB; have SR := SR.gr hgwB; have GB := GA.trans hgwB; clear hgwB lb x0 x1 x2 x3 z0 z1 z2 z3 GA; have SRB := SR; have DAB := DA; obtain ⟨lr, r0', r1, r2, r3, f0, f1, f2, f3⟩ := SR; obtain ⟨la, y0, y1, y2, y3, v0, v1, v2, v3⟩ := DA))
    obtain ⟨W, hW, H, S, gB, hz⟩ := uway_1 wB y n d T (-1) c
    rw [← hW]
    clear hW lr r0' r1 r2 r3 f0 f1 f2 f3 la y0 y1 y2 y3 v0 v1 v2 v3
    obtain ⟨wb, hwb⟩ : ∃ b, b = wB.heap.size := ⟨_, rfl⟩
    obtain ⟨sb, hsb⟩ : ∃ b, b = wB.heap.size + 1 := ⟨_, rfl⟩
    have lsb : wB.heap.size ≤ sb := by omega
    have lsw : w.heap.size ≤ sb := by have := GB.size; omega
    rw [← hsb] at S hz ⊢
    have nb : wb ≠ sb := by omega
    rw [← hwb] at H ⊢
    clear hsb hwb
    refine (C5.out W (GB.trans gB)).mono ?_
    rintro e wC ⟨rfl, hgC⟩
    have S := S.gr hgC
    have H := H.gr hgC
    have gB := gB.trans hgC
    clear hgC
    have S_ := S
    obtain ⟨ls, s0, s1, s2, s3, t0, t1, t2, t3⟩ := S_
    obtain ⟨lh, h0, h1, h2, h3, h4, h5⟩ := H
    go_wp2_with (first | (go_at_call 32; fail))
    obtain ⟨W', hW', S'⟩ := S.put V 0 0 0
    rw [← hW']
    have hz' : W'.heap.size = wC.heap.size := by rw [hW', set_size, set_size, set_size, set_size]
    have gB' : Gr wB W' := by rw [hW']; exact (((gB.setCell _ _ lsb).setCell _ _ lsb).setCell _ _ lsb).setCell _ _ lsb
    clear hW' S gB ls s0 s1 s2 s3 t0 t1 t2 t3 lh h0 h1 h2 h3 h4 h5 nb
    obtain ⟨WY, hWY⟩ : ∃ WY, WY = W'.alloc (.cells #[.int .i64 V] 3) := ⟨_, rfl⟩
    rw [← hWY]
    have gY : Gr W' WY := by rw [hWY]; exact (Gr.refl _).alloc _
    have lY : wC.heap.size < WY.heap.size := by rw [hWY, ← hz']; simp
    have cY : WY.cell? ⟨wC.heap.size, 0, none⟩ = some (.int .i64 V) := by rw [hWY, ← hz']; simp [go_sem]
    have S := S'.gr gY
    have gB := gB'.trans gY
    clear hWY gY
    refine (C3.out WY wC.heap.size (GB.trans gB) lY cY).mono ?_
    rintro e wD ⟨rfl, hgD⟩
    have S := S.gr hgD
    have gB := gB.trans hgD
    clear hgD lY cY
    have DA := DAB.gr gB
    have S_ := S
    obtain ⟨ls, s0, s1, s2, s3, t0, t1, t2, t3⟩ := S_
    obtain ⟨la, y0, y1, y2, y3, v0, v1, v2, v3⟩ := DA
    have na : a0 ≠ sb := by have := DAB.lt; omega
    go_wp2_with (first | (go_at_call 7; fail))
    obtain ⟨WS, hWS, SS⟩ := S.put V M 0 0
    rw [← hWS]
    have gS : Gr wB WS := by rw [hWS]; exact (((gB.setCell _ _ lsb).setCell _ _ lsb).setCell _ _ lsb).setCell _ _ lsb
    clear hWS S gB ls s0 s1 s2 s3 t0 t1 t2 t3 la y0 y1 y2 y3 v0 v1 v2 v3 na
    refine (C4.out WS (GB.trans gS)).mono ?_
    rintro e wE ⟨rfl, hgE⟩
    have SS := SS.gr hgE
    have gE := gS.trans hgE
    clear gS hgE
    go_wp2_with (first | (go_at_call 31; fail))
    obtain ⟨WF, hWF⟩ : ∃ WF, WF = wE.alloc (.cells #[.int .i64 R1, .int .i64 R2, .bool R3, .int .i64 R4] 25) := ⟨_, rfl⟩
    rw [← hWF]
    have gF : Gr wE WF := by rw [hWF]; exact (Gr.refl _).alloc _
    have SS := SS.gr gF
    have gE := gE.trans gF
    clear hWF gF
    refine (C6.out WF (GB.trans gE)).mono ?_
    rintro e wG ⟨rfl, hgG⟩
    have SS := SS.gr hgG
    have gG := gE.trans hgG
    have SR := SRB.gr gG
    have GG := GB.trans gG
    have nr : r0 ≠ sb := by have := SRB.lt; omega
    clear hgG gE gG SRB DAB GB lsb
    obtain ⟨ls, s0, s1, s2, s3, t0, t1, t2, t3⟩ := SS
    obtain ⟨lr, r0', r1, r2, r3, f0, f1, f2, f3⟩ := SR
    go_wp2
    exact bodyPost_ret (v := .tuple #[.agg #[.int .i64 V, .int .i64 M, .int .i64 0, .int .i64 (T - Y)], .int .i64 0]) (by simp [results, Tryz.results14, go_sem, *]) rfl ⟨rfl, (by repeat (first | exact Gr.refl _ | refine Gr.setCell ?_ _ _ (by first | exact Nat.le_refl _ | (simp; omega) | (simp; done) | (show (_ : Nat) ≤ _; omega)) | refine Gr.grown ?_ _ _ | refine Gr.drewN ?_ _ | refine Gr.drew ?_ | refine Gr.alloc ?_ _ | refine Gr.grow ?_ _ | (refine Gr.trans ?_ (by assumption))))⟩


end Go.Proofs.YtkiopgegdkeojaaGreatDoor.Walks
