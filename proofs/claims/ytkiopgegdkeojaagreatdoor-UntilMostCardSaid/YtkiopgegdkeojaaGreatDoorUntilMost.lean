/- One more of the greatest unit leads beyond the other date; how great months and days are. No program in sight. -/
import Derived.Test.YtkiopgegdkeojaaGreatDoorUntilB
set_option linter.unusedVariables false
set_option linter.unusedSimpArgs false
namespace Go.Proofs.YtkiopgegdkeojaaGreatDoor.Walks
open Go Go.RowKit Go.Sort Go.Proofs.YtkiopgegdkeojaaGreatDoor.Base Go.Proofs.YtkiopgegdkeojaaGreatDoor.Plain Go.Proofs.YtkiopgegdkeojaaGreatDoor.Math

/-- Which month of a year a code of another year is. -/
def idx (lt ly : Bool) (j : Nat) : Nat := if lt = ly then j else if lt = true then (if 5 ≤ j then j + 1 else j) else (if 6 ≤ j then j - 1 else j)
theorem idx_all : ∀ lt ly : Bool, ∀ j : Nat, j < 13 → ∀ i : Nat, i < 13 → (decide (j < mct ly) && decide (i < mct lt) && decide ((if cHas lt (cN ly j) (cL ly j) = true then cN ly j else cN ly j + 1) = cN lt i) && decide ((if cHas lt (cN ly j) (cL ly j) = true then cL ly j else false) = cL lt i)) = true → i = idx lt ly j := by
  decide +kernel
theorem in1_idx {y : Int} {j : Nat} (hj : j < mct (lp y)) {t : Int} {i : Nat} (a : In1 y j 0 t i) : i = idx (lp t) (lp y) j := by
  have m := mct_le (lp y)
  have m' := mct_le (lp t)
  have i1 := a.i1
  have n := a.n
  have c := a.c
  unfold inNum at n
  unfold inLp at c
  rw [a.e, if_pos rfl] at n c
  exact idx_all _ _ j (by omega) i (by omega) (by rw [decide_eq_true hj, decide_eq_true i1, decide_eq_true n, decide_eq_true c]; rfl)
theorem in1_near {y : Int} {j : Nat} (hj : j < mct (lp y)) {t t' : Int} {i i' : Nat} (a : In1 y j 0 t i) (b : In1 y j 0 t' i') : (i : Int) ≤ i' + 1 ∧ (i' : Int) ≤ i + 1 := by
  rw [in1_idx hj a, in1_idx hj b]
  unfold idx
  cases lp y <;> cases lp t <;> cases lp t' <;> simp <;> (repeat' split) <;> omega
/-- The days that are left: fewer than a month's. -/
theorem gap30 {y : Int} {j : Nat} {d y' : Int} {j' : Nat} {d' : Int} {f : Int → Int → UV} {p s : Int} {N : Nat} (h : HV y j d) (h' : HV y' j' d') (F : UF y j d f) (hs : s = 1 ∨ s = -1) (n3 : (f p (s * (N : Int))).ok = true) (n4 : s * ((f p (s * (N : Int))).X - hd y' j' d') ≤ 0) (n5 : (f p (s * ((N : Int) + 1))).by (hd y' j' d') s = true) :
    -31 < hd y' j' d' - (f p (s * (N : Int))).X ∧ hd y' j' d' - (f p (s * (N : Int))).X < 31 := by
  have U := uf_ok F n3
  have v := ur_hv h U
  have b := ur_in U
  have m' := month_in h'.y0 h'.y1 h'.j1
  have me := U.b.e
  unfold UV.X at n4 ⊢
  cases e : (f p (s * ((N : Int) + 1))).ok
  · rcases uf_out F e with z | ⟨z0, z1, i, u, z⟩
    · omega
    · obtain rfl := in1_inj u U.a
      generalize (f p (s * (N : Int))).Y = Y at *
      generalize (f p (s * (N : Int))).J = J at *
      generalize (f p (s * (N : Int))).N = K at *
      have same : bf Y + (J : Int) = bf y' + (j' : Int) → -31 < hd y' j' d' - hd Y J K ∧ hd y' j' d' - hd Y J K < 31 := by
        intro q
        obtain ⟨rfl, rfl⟩ := month_inj v.j1 h'.j1 q
        have l := mlen_range (kk Y) (lp Y) J
        have := v.d0
        have := v.d1
        have := h'.d0
        have := h'.d1
        unfold hd
        omega
      rcases hs with rfl | rfl
      · rcases Int.lt_or_le (bf y' + (j' : Int)) (bf Y + (J : Int)) with g | g
        · have := hd_month h' v g
          omega
        · exact same (by omega)
      · rcases Int.lt_or_le (bf Y + (J : Int)) (bf y' + (j' : Int)) with g | g
        · have := hd_month v h' g
          omega
        · exact same (by omega)
  · have U1 := uf_ok F e
    have v1 := ur_hv h U1
    have me1 := U1.b.e
    have i1 := in1_inj U1.a U.a
    unfold UV.by at n5
    rw [e] at n5
    simp only [Bool.not_true, Bool.false_or, decide_eq_true_eq] at n5
    unfold UV.X at n5
    rw [i1] at me1
    rcases hs with rfl | rfl
    · have := next_gap v v1 U.c U1.c (by omega)
      omega
    · have := next_gap v1 v U1.c U.c (by omega)
      omega
theorem ft_same {Y : Int} {J : Nat} {d N N' : Int} (a : Ft Y J d 0 N) (b : Ft Y J d 0 N') : N = N' := by
  rcases a.e with ⟨p, q⟩ | ⟨p, -, q⟩ <;> rcases b.e with ⟨r, s⟩ | ⟨r, -, s⟩ <;> omega
/-- The months that are left: fewer than a year's. -/
theorem n13 {y : Int} {j : Nat} {d T : Int} {f : Int → Int → UV} {p s : Int} {N : Nat} (h : HV y j d) (F : UF y j d f) (hs : s = 1 ∨ s = -1) (m3 : (f p 0).ok = true) (m5 : (f (p + s) 0).by T s = true) (n2 : ∀ i : Nat, i < 130000 → (f p (s * ((i : Int) + 1))).by T s = decide (N ≤ i)) (n3 : (f p (s * (N : Int))).ok = true) : N < 14 := by
  have UM := uf_ok F m3
  have U := uf_ok F n3
  have b := ur_in U
  have bM := ur_in UM
  rw [in1_inj U.a UM.a] at b
  have iM := UM.a.i1
  have b1 : bf 1 = 0 := by decide +kernel
  have b9 : bf 10000 = 123671 := by decide +kernel
  have nx := bf_next (y + p)
  have nb := bf_next (y + p - 1)
  rw [show y + p - 1 + 1 = y + p by omega] at nb
  have c := mct_le (lp (y + p))
  have c' := mct_le (lp (y + p - 1))
  cases e : (f (p + s) 0).ok
  · rcases uf_out F e with z | ⟨z0, z1, i, u, z⟩
    · rcases hs with rfl | rfl
      · rw [show y + p + 1 = 10000 by omega, b9] at nx
        omega
      · have q : bf (y + p) = 0 := by rw [show y + p = 1 by omega, b1]
        omega
    · have := month_in z0 z1 u.i1
      omega
  · have U1 := uf_ok F e
    have u1 := ur_in U1
    have near := in1_near h.j1 U1.a UM.a
    rw [show y + (p + s) = y + p + s by omega] at u1
    obtain ⟨c, hc⟩ : ∃ c : Nat, s * ((c : Int) + 1) = bf (y + p + s) + (f (p + s) 0).i - (bf (y + p) + (f p 0).i) ∧ c ≤ 13 := by
      rcases hs with rfl | rfl
      · refine ⟨(bf (y + p + 1) + (f (p + 1) 0).i - (bf (y + p) + (f p 0).i) - 1).toNat, ?_⟩
        omega
      · rw [show y + p + -1 = y + p - 1 by omega] at *
        refine ⟨(bf (y + p) + (f p 0).i - (bf (y + p - 1) + (f (p + -1) 0).i) - 1).toNat, ?_⟩
        omega
    obtain ⟨hc, c13⟩ := hc
    have k := n2 c (by omega)
    have ok2 : (f p (s * ((c : Int) + 1))).ok = true := ((line_months h F m3).ok _).2 (by omega)
    have U2 := uf_ok F ok2
    have e2 := U2.b.e
    rw [in1_inj U2.a UM.a] at e2
    have e1 := U1.b.e
    rw [show y + (p + s) = y + p + s by omega] at e1
    obtain ⟨q1, q2⟩ := month_inj U2.b.j1 U1.b.j1 (by omega)
    have c2 := U2.c
    rw [q1, q2] at c2
    have q3 := ft_same c2 U1.c
    have eb : (f p (s * ((c : Int) + 1))).by T s = (f (p + s) 0).by T s := by
      unfold UV.by UV.X
      rw [ok2, e, q1, q2, q3]
    rw [eb, m5] at k
    have := of_decide_eq_true k.symm
    omega
/-- One more of the greatest unit: out of range, or beyond. -/
structure Bey (y : Int) (j : Nat) (d T s P Q R : Int) : Prop where
  r : spR P Q R 0 = true
  e : ToK y j d P Q R 0 0 2 0 0 false 0 ∨ ∃ Y J N, HV Y J N ∧ ToK y j d P Q R 0 0 0 Y (cN (lp Y) J) (cL (lp Y) J) N ∧ 0 < s * (hd Y J N - T)
theorem bey_f {y : Int} {j : Nat} {d T s P Q : Int} {f : Int → Int → UV} (h : HV y j d) (F : UF y j d f) (p0 : -300000 ≤ P) (p1 : P ≤ 300000) (q0 : -300000 ≤ Q) (q1 : Q ≤ 300000) (k : (f P Q).by T s = true) : Bey y j d T s P Q 0 := by
  refine ⟨spR_pq p0 p1 q0 q1, ?_⟩
  cases e : (f P Q).ok
  · exact .inl (uout_to (uf_out F e))
  · have U := uf_ok F e
    unfold UV.by at k
    rw [e] at k
    simp only [Bool.not_true, Bool.false_or, decide_eq_true_eq] at k
    exact .inr ⟨_, _, _, ur_hv h U, ur_to h U, k⟩
theorem bey_w {y : Int} {j : Nat} {d T s R : Int} (h : HV y j d) (r0 : -3000000 ≤ R) (r1 : R ≤ 3000000) (k : 0 < s * (hd y j d + 7 * R - T)) : Bey y j d T s 0 0 R := by
  obtain ⟨f, F⟩ := uf_ex h
  obtain ⟨z0, z1⟩ := uf_zero h F
  have U := uf_ok F z0
  unfold UV.X at z1
  refine ⟨?_, ?_⟩
  · unfold spR spF
    simp only [Bool.and_eq_true, decide_eq_true_eq]
    omega
  · by_cases e : hd y j d + 7 * R < -1373427 ∨ 2278650 < hd y j d + 7 * R
    · exact .inl (.out _ _ _ _ U.a U.b U.c (by omega))
    · obtain ⟨Y, J, N, hv, g⟩ := hd_of (n := hd y j d + 7 * R) (by omega) (by omega)
      exact .inr ⟨Y, J, N, hv, .ok _ _ _ _ _ _ _ U.a U.b U.c hv (by omega), by rw [g]; exact k⟩
/-- What is known of the duration by a unit from weeks on. -/
inductive UM (y : Int) (j : Nat) (d X T s : Int) : Int → Int → Int → Int → Int → Prop
  | weeks (r z : Int) : -7 < z → z < 7 → -3000000 ≤ r → r ≤ 3000000 → Bey y j d T s 0 0 (r + s) → UM y j d X T s 1 0 0 r z
  | months (q z : Int) : -31 < z → z < 31 → -300000 ≤ q → q ≤ 300000 → Bey y j d T s 0 (q + s) 0 → UM y j d X T s 2 0 q 0 z
  | years (p q z : Int) : -31 < z → z < 31 → -14 < q → q < 14 → -300000 ≤ p → p ≤ 300000 → Bey y j d T s (p + s) 0 0 → UM y j d X T s 3 p q 0 z
theorem um_of {y : Int} {j : Nat} {d y' : Int} {j' : Nat} {d' u p q r z : Int} (h : HV y j d) (h' : HV y' j' d') (u1 : 1 ≤ u) (k : UK y j d (hd y j d) (hd y' j' d') u p q r z) :
    ∃ s, ((s = 1 ∧ hd y j d ≤ hd y' j' d') ∨ (s = -1 ∧ hd y' j' d' < hd y j d)) ∧ UM y j d (hd y j d) (hd y' j' d') s u p q r z := by
  have rX := hd_range h
  have rT := hd_range h'
  cases k with
  | days => omega
  | weeks =>
    obtain ⟨t0, t1, t2, t3, t4⟩ := tdiv7 (hd y' j' d' - hd y j d)
    generalize (hd y' j' d' - hd y j d).tdiv 7 = A at *
    generalize (hd y' j' d' - hd y j d).tmod 7 = B at *
    rcases Int.lt_or_le (hd y' j' d') (hd y j d) with g | g
    · exact ⟨-1, .inr ⟨rfl, g⟩, .weeks _ _ t1 t2 (by omega) (by omega) (bey_w h (by omega) (by omega) (by omega))⟩
    · exact ⟨1, .inl ⟨rfl, g⟩, .weeks _ _ t1 t2 (by omega) (by omega) (bey_w h (by omega) (by omega) (by omega))⟩
  | months f s N F hs n1 n3 n4 n5 =>
    have hs1 : s = 1 ∨ s = -1 := by omega
    have sN := sN_range hs1 (N := N) (by omega)
    have sK := sK_range hs1 (i := N) (by omega)
    have g := gap30 h h' F hs1 n3 n4 n5
    rw [show s * ((N : Int) + 1) = s * (N : Int) + s by rw [Int.mul_add, Int.mul_one]] at sK n5
    exact ⟨s, hs, .months _ _ g.1 g.2 sN.1 sN.2 (bey_f h F (by omega) (by omega) sK.1 sK.2 n5)⟩
  | years f s M N F hs m1 n1 m3 m4 m5 n2 n3 n4 n5 =>
    have hs1 : s = 1 ∨ s = -1 := by omega
    have sN := sN_range hs1 (N := N) (by omega)
    have sM := sN_range hs1 (N := M) (by omega)
    have sK := sK_range hs1 (i := M) (by omega)
    have g := gap30 h h' F hs1 n3 n4 n5
    rw [show s * ((M : Int) + 1) = s * (M : Int) + s by rw [Int.mul_add, Int.mul_one]] at sK m5
    have n := n13 h F hs1 m3 m5 n2 n3
    exact ⟨s, hs, .years _ _ _ g.1 g.2 (by rcases hs1 with rfl | rfl <;> omega) (by rcases hs1 with rfl | rfl <;> omega) sM.1 sM.2 (bey_f h F sK.1 sK.2 (by omega) (by omega) m5)⟩

end Go.Proofs.YtkiopgegdkeojaaGreatDoor.Walks

/- One more of the greatest unit would come beyond the other date; months are fewer than a year's, days than a month's: the walk of the law; every input. -/
namespace Go.Proofs.YtkiopgegdkeojaaGreatDoor.Walks
open Go Go.RowKit Go.Sort Go.Proofs.YtkiopgegdkeojaaGreatDoor.Base Go.Proofs.YtkiopgegdkeojaaGreatDoor.Plain Go.Proofs.YtkiopgegdkeojaaGreatDoor.Math

set_option maxRecDepth 20000 in
set_option maxHeartbeats 8000000 in
theorem umost_bad (y n d y' n' d' u M E : Int) (c c' : Bool) (w : World) (G : GT w) (u0 : 0 ≤ u) (u1 : u ≤ 255) (hM : u.tmod 3 = M) (M0 : 0 ≤ M) (M1 : M ≤ 2) (hE : E ≠ 0)
    (c1 : ∀ W, Gr w W → Calls Tryz.prog 14 #[.agg #[.int .i64 y, .int .i64 n, .bool c, .int .i64 d], .agg #[.int .i64 y', .int .i64 n', .bool c', .int .i64 d'], .int .i64 (1 + M)] W fun e w' => e = .returned (.tuple #[.agg #[.int .i64 0, .int .i64 0, .int .i64 0, .int .i64 0], .int .i64 E]) ∧ Gr W w') :
    Calls Tryz.prog 6 #[.agg #[.int .i64 y, .int .i64 n, .bool c, .int .i64 d], .agg #[.int .i64 y', .int .i64 n', .bool c', .int .i64 d'], .int .u8 u] w fun e w' => e = .returned (.bool true) ∧ Gr w w' := by
  have C1 := Lib.hid c1
  have C9 := Lib.hid fun W (hW : Gr w W) => awake17_c W (G.gr hW)
  have e1 : (E == 0) = false := beq_eq_false_iff_ne.2 hE
  have e2 : (E != 0) = true := by simp [bne_iff_ne, hE]
  clear c1 G
  go_enter Tryz.func6, Tryz.ntmps6
  go_wp2_with (first | ((try rw [hM]); (go_at_call 14; (with_reducible refine (C1.out _ ((by repeat (first | exact Gr.refl _ | refine Gr.setCell ?_ _ _ (by first | exact Nat.le_refl _ | (simp; omega) | (simp; done)) | refine Gr.grown ?_ _ _ | refine Gr.drewN ?_ _ | refine Gr.drew ?_ | refine Gr.alloc ?_ _ | refine Gr.grow ?_ _ | (refine Gr.trans ?_ (by assumption)))))).mono ?_); rintro e wA ⟨rfl, hgwA⟩; obtain ⟨hclwA, hfzwA, hszwA⟩ := gcell hgwA; (try simp [Nat.add_one_le_iff] at hszwA); have hlwA_w : w.heap.size < wA.heap.size := (by omega))) | (go_at_call 16; (with_reducible refine (C9.out _ ((by repeat (first | exact Gr.refl _ | refine Gr.setCell ?_ _ _ (by first | exact Nat.le_refl _ | (simp; omega) | (simp; done)) | refine Gr.grown ?_ _ _ | refine Gr.drewN ?_ _ | refine Gr.drew ?_ | refine Gr.alloc ?_ _ | refine Gr.grow ?_ _ | (refine Gr.trans ?_ (by assumption)))))).mono ?_); rintro e wI ⟨rfl, hgwI⟩))
  go_ret
  exact ⟨rfl, (by repeat (first | exact Gr.refl _ | refine Gr.setCell ?_ _ _ (by first | exact Nat.le_refl _ | (simp; omega) | (simp; done)) | refine Gr.grown ?_ _ _ | refine Gr.drewN ?_ _ | refine Gr.drew ?_ | refine Gr.alloc ?_ _ | refine Gr.grow ?_ _ | (refine Gr.trans ?_ (by assumption))))⟩

set_option maxRecDepth 20000 in
set_option maxHeartbeats 16000000 in
theorem umost_1 (y n d y' n' d' u r z X T s F D1 D2 D4 x E' : Int) (c c' D3 : Bool) (w : World) (G : GT w) (u0 : 0 ≤ u) (u1 : u ≤ 255) (hM : u.tmod 3 = 0) (z0 : -7 < z) (z1 : z < 7) (r0 : -3000000 ≤ r) (r1 : r ≤ 3000000)
    (hs : (s = 1 ∧ X ≤ T) ∨ (s = -1 ∧ T < X)) (T0 : -1500000 ≤ T) (T1 : T ≤ 2300000) (X0 : -1500000 ≤ X) (X1 : X ≤ 2300000) (x0 : -1500000 ≤ x) (x1 : x ≤ 2300000) (hF : F = 2 ∨ (F = 0 ∧ 0 < s * (x - T)))
    (c1 : ∀ W, Gr w W → Calls Tryz.prog 14 #[.agg #[.int .i64 y, .int .i64 n, .bool c, .int .i64 d], .agg #[.int .i64 y', .int .i64 n', .bool c', .int .i64 d'], .int .i64 1] W fun e w' => e = .returned (.tuple #[.agg #[.int .i64 0, .int .i64 0, .int .i64 r, .int .i64 z], .int .i64 0]) ∧ Gr W w')
    (c2 : ∀ W, Calls Tryz.prog 17 #[.agg #[.int .i64 y', .int .i64 n', .bool c', .int .i64 d']] W fun e w' => e = .returned (.tuple #[.int .i64 T, .int .i64 0]) ∧ Gr W w')
    (c3 : ∀ W, Calls Tryz.prog 17 #[.agg #[.int .i64 y, .int .i64 n, .bool c, .int .i64 d]] W fun e w' => e = .returned (.tuple #[.int .i64 X, .int .i64 0]) ∧ Gr W w')
    (c4 : ∀ W, Calls Tryz.prog 8 #[.agg #[.int .i64 y, .int .i64 n, .bool c, .int .i64 d], .agg #[.int .i64 0, .int .i64 0, .int .i64 (r + s), .int .i64 0], .int .i64 0] W fun e w' => e = .returned (.tuple #[.agg #[.int .i64 D1, .int .i64 D2, .bool D3, .int .i64 D4], .int .i64 F]) ∧ Gr W w')
    (c5 : ∀ W, Calls Tryz.prog 17 #[.agg #[.int .i64 D1, .int .i64 D2, .bool D3, .int .i64 D4]] W fun e w' => e = .returned (.tuple #[.int .i64 x, .int .i64 E']) ∧ Gr W w') :
    Calls Tryz.prog 6 #[.agg #[.int .i64 y, .int .i64 n, .bool c, .int .i64 d], .agg #[.int .i64 y', .int .i64 n', .bool c', .int .i64 d'], .int .u8 u] w fun e w' => e = .returned (.bool true) ∧ Gr w w' := by
  have C1 := Lib.hid c1
  have C2 := Lib.hid c2
  have C3 := Lib.hid c3
  have C4 := Lib.hid c4
  have C5 := Lib.hid c5
  have C9 := Lib.hid fun W (hW : Gr w W) => awake17_c W (G.gr hW)
  clear c1 c2 c3 c4 c5 G
  rcases hs with ⟨rfl, hX⟩ | ⟨rfl, hX⟩ <;> rcases hF with rfl | ⟨rfl, hF⟩
  all_goals (
    go_enter Tryz.func6, Tryz.ntmps6
    go_wp2_with (first | ((try rw [hM]); (go_at_call 14; (with_reducible refine (C1.out _ ((by repeat (first | exact Gr.refl _ | refine Gr.setCell ?_ _ _ (by first | exact Nat.le_refl _ | (simp; omega) | (simp; done)) | refine Gr.grown ?_ _ _ | refine Gr.drewN ?_ _ | refine Gr.drew ?_ | refine Gr.alloc ?_ _ | refine Gr.grow ?_ _ | (refine Gr.trans ?_ (by assumption)))))).mono ?_); rintro e wA ⟨rfl, hgwA⟩; obtain ⟨hclwA, hfzwA, hszwA⟩ := gcell hgwA; (try simp [Nat.add_one_le_iff] at hszwA); have hlwA_w : w.heap.size < wA.heap.size := (by omega))) | ((go_at_call 17; (with_reducible refine (C2.out _).mono ?_); rintro e wB ⟨rfl, hgwB⟩; obtain ⟨hclwB, hfzwB, hszwB⟩ := gcell hgwB; (try simp [Nat.add_one_le_iff] at hszwB); have hlwB_w : w.heap.size < wB.heap.size := (by omega); have hlwB_wA : wA.heap.size < wB.heap.size := (by omega)); have hv1 : w.heap.size + 1 < wB.heap.size := (by omega)) | ((go_at_call 17; (with_reducible refine (C3.out _).mono ?_); rintro e wD ⟨rfl, hgwD⟩; obtain ⟨hclwD, hfzwD, hszwD⟩ := gcell hgwD; (try simp [Nat.add_one_le_iff] at hszwD); have hlwD_w : w.heap.size < wD.heap.size := (by omega); have hlwD_wA : wA.heap.size < wD.heap.size := (by omega)); have hv2 : w.heap.size + 1 < wD.heap.size := (by omega)) | ((go_at_call 8; (with_reducible refine (C4.out _).mono ?_); rintro e wE ⟨rfl, hgwE⟩; obtain ⟨hclwE, hfzwE, hszwE⟩ := gcell hgwE; (try simp [Nat.add_one_le_iff] at hszwE); have hlwE_w : w.heap.size < wE.heap.size := (by omega); have hlwE_wA : wA.heap.size < wE.heap.size := (by omega)); have hv3 : w.heap.size + 1 < wE.heap.size := (by omega)) | ((go_at_call 17; (with_reducible refine (C5.out _).mono ?_); rintro e wF ⟨rfl, hgwF⟩; obtain ⟨hclwF, hfzwF, hszwF⟩ := gcell hgwF; (try simp [Nat.add_one_le_iff] at hszwF); have hlwF_w : w.heap.size < wF.heap.size := (by omega); have hlwF_wA : wA.heap.size < wF.heap.size := (by omega); have hlwF_wB : wB.heap.size < wF.heap.size := (by omega); have hlwF_wE : wE.heap.size < wF.heap.size := (by omega)); have hv4 : w.heap.size + 1 < wF.heap.size := (by omega)) | (go_at_call 16; (with_reducible refine (C9.out _ ((by repeat (first | exact Gr.refl _ | refine Gr.setCell ?_ _ _ (by first | exact Nat.le_refl _ | (simp; omega) | (simp; done)) | refine Gr.grown ?_ _ _ | refine Gr.drewN ?_ _ | refine Gr.drew ?_ | refine Gr.alloc ?_ _ | refine Gr.grow ?_ _ | (refine Gr.trans ?_ (by assumption)))))).mono ?_); rintro e wI ⟨rfl, hgwI⟩))
    go_ret
    exact ⟨(by first | rfl | (simp; omega)), (by repeat (first | exact Gr.refl _ | refine Gr.setCell ?_ _ _ (by first | exact Nat.le_refl _ | (simp; omega) | (simp; done)) | refine Gr.grown ?_ _ _ | refine Gr.drewN ?_ _ | refine Gr.drew ?_ | refine Gr.alloc ?_ _ | refine Gr.grow ?_ _ | (refine Gr.trans ?_ (by assumption))))⟩)

set_option maxRecDepth 20000 in
set_option maxHeartbeats 16000000 in
theorem umost_2 (y n d y' n' d' u q z X T s F D1 D2 D4 x E' : Int) (c c' D3 : Bool) (w : World) (G : GT w) (u0 : 0 ≤ u) (u1 : u ≤ 255) (hM : u.tmod 3 = 1) (z0 : -31 < z) (z1 : z < 31) (q0 : -300000 ≤ q) (q1 : q ≤ 300000)
    (hs : (s = 1 ∧ X ≤ T) ∨ (s = -1 ∧ T < X)) (T0 : -1500000 ≤ T) (T1 : T ≤ 2300000) (X0 : -1500000 ≤ X) (X1 : X ≤ 2300000) (x0 : -1500000 ≤ x) (x1 : x ≤ 2300000) (hF : F = 2 ∨ (F = 0 ∧ 0 < s * (x - T)))
    (c1 : ∀ W, Gr w W → Calls Tryz.prog 14 #[.agg #[.int .i64 y, .int .i64 n, .bool c, .int .i64 d], .agg #[.int .i64 y', .int .i64 n', .bool c', .int .i64 d'], .int .i64 2] W fun e w' => e = .returned (.tuple #[.agg #[.int .i64 0, .int .i64 q, .int .i64 0, .int .i64 z], .int .i64 0]) ∧ Gr W w')
    (c2 : ∀ W, Calls Tryz.prog 17 #[.agg #[.int .i64 y', .int .i64 n', .bool c', .int .i64 d']] W fun e w' => e = .returned (.tuple #[.int .i64 T, .int .i64 0]) ∧ Gr W w')
    (c3 : ∀ W, Calls Tryz.prog 17 #[.agg #[.int .i64 y, .int .i64 n, .bool c, .int .i64 d]] W fun e w' => e = .returned (.tuple #[.int .i64 X, .int .i64 0]) ∧ Gr W w')
    (c4 : ∀ W, Calls Tryz.prog 8 #[.agg #[.int .i64 y, .int .i64 n, .bool c, .int .i64 d], .agg #[.int .i64 0, .int .i64 (q + s), .int .i64 0, .int .i64 0], .int .i64 0] W fun e w' => e = .returned (.tuple #[.agg #[.int .i64 D1, .int .i64 D2, .bool D3, .int .i64 D4], .int .i64 F]) ∧ Gr W w')
    (c5 : ∀ W, Calls Tryz.prog 17 #[.agg #[.int .i64 D1, .int .i64 D2, .bool D3, .int .i64 D4]] W fun e w' => e = .returned (.tuple #[.int .i64 x, .int .i64 E']) ∧ Gr W w') :
    Calls Tryz.prog 6 #[.agg #[.int .i64 y, .int .i64 n, .bool c, .int .i64 d], .agg #[.int .i64 y', .int .i64 n', .bool c', .int .i64 d'], .int .u8 u] w fun e w' => e = .returned (.bool true) ∧ Gr w w' := by
  have C1 := Lib.hid c1
  have C2 := Lib.hid c2
  have C3 := Lib.hid c3
  have C4 := Lib.hid c4
  have C5 := Lib.hid c5
  have C9 := Lib.hid fun W (hW : Gr w W) => awake17_c W (G.gr hW)
  clear c1 c2 c3 c4 c5 G
  rcases hs with ⟨rfl, hX⟩ | ⟨rfl, hX⟩ <;> rcases hF with rfl | ⟨rfl, hF⟩
  all_goals (
    go_enter Tryz.func6, Tryz.ntmps6
    go_wp2_with (first | ((try rw [hM]); (go_at_call 14; (with_reducible refine (C1.out _ ((by repeat (first | exact Gr.refl _ | refine Gr.setCell ?_ _ _ (by first | exact Nat.le_refl _ | (simp; omega) | (simp; done)) | refine Gr.grown ?_ _ _ | refine Gr.drewN ?_ _ | refine Gr.drew ?_ | refine Gr.alloc ?_ _ | refine Gr.grow ?_ _ | (refine Gr.trans ?_ (by assumption)))))).mono ?_); rintro e wA ⟨rfl, hgwA⟩; obtain ⟨hclwA, hfzwA, hszwA⟩ := gcell hgwA; (try simp [Nat.add_one_le_iff] at hszwA); have hlwA_w : w.heap.size < wA.heap.size := (by omega))) | ((go_at_call 17; (with_reducible refine (C2.out _).mono ?_); rintro e wB ⟨rfl, hgwB⟩; obtain ⟨hclwB, hfzwB, hszwB⟩ := gcell hgwB; (try simp [Nat.add_one_le_iff] at hszwB); have hlwB_w : w.heap.size < wB.heap.size := (by omega); have hlwB_wA : wA.heap.size < wB.heap.size := (by omega)); have hv1 : w.heap.size + 1 < wB.heap.size := (by omega)) | ((go_at_call 17; (with_reducible refine (C3.out _).mono ?_); rintro e wD ⟨rfl, hgwD⟩; obtain ⟨hclwD, hfzwD, hszwD⟩ := gcell hgwD; (try simp [Nat.add_one_le_iff] at hszwD); have hlwD_w : w.heap.size < wD.heap.size := (by omega); have hlwD_wA : wA.heap.size < wD.heap.size := (by omega)); have hv2 : w.heap.size + 1 < wD.heap.size := (by omega)) | ((go_at_call 8; (with_reducible refine (C4.out _).mono ?_); rintro e wE ⟨rfl, hgwE⟩; obtain ⟨hclwE, hfzwE, hszwE⟩ := gcell hgwE; (try simp [Nat.add_one_le_iff] at hszwE); have hlwE_w : w.heap.size < wE.heap.size := (by omega); have hlwE_wA : wA.heap.size < wE.heap.size := (by omega)); have hv3 : w.heap.size + 1 < wE.heap.size := (by omega)) | ((go_at_call 17; (with_reducible refine (C5.out _).mono ?_); rintro e wF ⟨rfl, hgwF⟩; obtain ⟨hclwF, hfzwF, hszwF⟩ := gcell hgwF; (try simp [Nat.add_one_le_iff] at hszwF); have hlwF_w : w.heap.size < wF.heap.size := (by omega); have hlwF_wA : wA.heap.size < wF.heap.size := (by omega); have hlwF_wB : wB.heap.size < wF.heap.size := (by omega); have hlwF_wE : wE.heap.size < wF.heap.size := (by omega)); have hv4 : w.heap.size + 1 < wF.heap.size := (by omega)) | (go_at_call 16; (with_reducible refine (C9.out _ ((by repeat (first | exact Gr.refl _ | refine Gr.setCell ?_ _ _ (by first | exact Nat.le_refl _ | (simp; omega) | (simp; done)) | refine Gr.grown ?_ _ _ | refine Gr.drewN ?_ _ | refine Gr.drew ?_ | refine Gr.alloc ?_ _ | refine Gr.grow ?_ _ | (refine Gr.trans ?_ (by assumption)))))).mono ?_); rintro e wI ⟨rfl, hgwI⟩))
    go_ret
    exact ⟨(by first | rfl | (simp; omega)), (by repeat (first | exact Gr.refl _ | refine Gr.setCell ?_ _ _ (by first | exact Nat.le_refl _ | (simp; omega) | (simp; done)) | refine Gr.grown ?_ _ _ | refine Gr.drewN ?_ _ | refine Gr.drew ?_ | refine Gr.alloc ?_ _ | refine Gr.grow ?_ _ | (refine Gr.trans ?_ (by assumption))))⟩)

set_option maxRecDepth 20000 in
set_option maxHeartbeats 16000000 in
theorem umost_3 (y n d y' n' d' u p q z X T s F D1 D2 D4 x E' : Int) (c c' D3 : Bool) (w : World) (G : GT w) (u0 : 0 ≤ u) (u1 : u ≤ 255) (hM : u.tmod 3 = 2) (z0 : -31 < z) (z1 : z < 31) (q0 : -14 < q) (q1 : q < 14) (p0 : -300000 ≤ p) (p1 : p ≤ 300000)
    (hs : (s = 1 ∧ X ≤ T) ∨ (s = -1 ∧ T < X)) (T0 : -1500000 ≤ T) (T1 : T ≤ 2300000) (X0 : -1500000 ≤ X) (X1 : X ≤ 2300000) (x0 : -1500000 ≤ x) (x1 : x ≤ 2300000) (hF : F = 2 ∨ (F = 0 ∧ 0 < s * (x - T)))
    (c1 : ∀ W, Gr w W → Calls Tryz.prog 14 #[.agg #[.int .i64 y, .int .i64 n, .bool c, .int .i64 d], .agg #[.int .i64 y', .int .i64 n', .bool c', .int .i64 d'], .int .i64 3] W fun e w' => e = .returned (.tuple #[.agg #[.int .i64 p, .int .i64 q, .int .i64 0, .int .i64 z], .int .i64 0]) ∧ Gr W w')
    (c2 : ∀ W, Calls Tryz.prog 17 #[.agg #[.int .i64 y', .int .i64 n', .bool c', .int .i64 d']] W fun e w' => e = .returned (.tuple #[.int .i64 T, .int .i64 0]) ∧ Gr W w')
    (c3 : ∀ W, Calls Tryz.prog 17 #[.agg #[.int .i64 y, .int .i64 n, .bool c, .int .i64 d]] W fun e w' => e = .returned (.tuple #[.int .i64 X, .int .i64 0]) ∧ Gr W w')
    (c4 : ∀ W, Calls Tryz.prog 8 #[.agg #[.int .i64 y, .int .i64 n, .bool c, .int .i64 d], .agg #[.int .i64 (p + s), .int .i64 0, .int .i64 0, .int .i64 0], .int .i64 0] W fun e w' => e = .returned (.tuple #[.agg #[.int .i64 D1, .int .i64 D2, .bool D3, .int .i64 D4], .int .i64 F]) ∧ Gr W w')
    (c5 : ∀ W, Calls Tryz.prog 17 #[.agg #[.int .i64 D1, .int .i64 D2, .bool D3, .int .i64 D4]] W fun e w' => e = .returned (.tuple #[.int .i64 x, .int .i64 E']) ∧ Gr W w') :
    Calls Tryz.prog 6 #[.agg #[.int .i64 y, .int .i64 n, .bool c, .int .i64 d], .agg #[.int .i64 y', .int .i64 n', .bool c', .int .i64 d'], .int .u8 u] w fun e w' => e = .returned (.bool true) ∧ Gr w w' := by
  have C1 := Lib.hid c1
  have C2 := Lib.hid c2
  have C3 := Lib.hid c3
  have C4 := Lib.hid c4
  have C5 := Lib.hid c5
  have C9 := Lib.hid fun W (hW : Gr w W) => awake17_c W (G.gr hW)
  clear c1 c2 c3 c4 c5 G
  rcases hs with ⟨rfl, hX⟩ | ⟨rfl, hX⟩ <;> rcases hF with rfl | ⟨rfl, hF⟩
  all_goals (
    go_enter Tryz.func6, Tryz.ntmps6
    go_wp2_with (first | ((try rw [hM]); (go_at_call 14; (with_reducible refine (C1.out _ ((by repeat (first | exact Gr.refl _ | refine Gr.setCell ?_ _ _ (by first | exact Nat.le_refl _ | (simp; omega) | (simp; done)) | refine Gr.grown ?_ _ _ | refine Gr.drewN ?_ _ | refine Gr.drew ?_ | refine Gr.alloc ?_ _ | refine Gr.grow ?_ _ | (refine Gr.trans ?_ (by assumption)))))).mono ?_); rintro e wA ⟨rfl, hgwA⟩; obtain ⟨hclwA, hfzwA, hszwA⟩ := gcell hgwA; (try simp [Nat.add_one_le_iff] at hszwA); have hlwA_w : w.heap.size < wA.heap.size := (by omega))) | ((go_at_call 17; (with_reducible refine (C2.out _).mono ?_); rintro e wB ⟨rfl, hgwB⟩; obtain ⟨hclwB, hfzwB, hszwB⟩ := gcell hgwB; (try simp [Nat.add_one_le_iff] at hszwB); have hlwB_w : w.heap.size < wB.heap.size := (by omega); have hlwB_wA : wA.heap.size < wB.heap.size := (by omega)); have hv1 : w.heap.size + 1 < wB.heap.size := (by omega)) | ((go_at_call 17; (with_reducible refine (C3.out _).mono ?_); rintro e wD ⟨rfl, hgwD⟩; obtain ⟨hclwD, hfzwD, hszwD⟩ := gcell hgwD; (try simp [Nat.add_one_le_iff] at hszwD); have hlwD_w : w.heap.size < wD.heap.size := (by omega); have hlwD_wA : wA.heap.size < wD.heap.size := (by omega)); have hv2 : w.heap.size + 1 < wD.heap.size := (by omega)) | ((go_at_call 8; (with_reducible refine (C4.out _).mono ?_); rintro e wE ⟨rfl, hgwE⟩; obtain ⟨hclwE, hfzwE, hszwE⟩ := gcell hgwE; (try simp [Nat.add_one_le_iff] at hszwE); have hlwE_w : w.heap.size < wE.heap.size := (by omega); have hlwE_wA : wA.heap.size < wE.heap.size := (by omega)); have hv3 : w.heap.size + 1 < wE.heap.size := (by omega)) | ((go_at_call 17; (with_reducible refine (C5.out _).mono ?_); rintro e wF ⟨rfl, hgwF⟩; obtain ⟨hclwF, hfzwF, hszwF⟩ := gcell hgwF; (try simp [Nat.add_one_le_iff] at hszwF); have hlwF_w : w.heap.size < wF.heap.size := (by omega); have hlwF_wA : wA.heap.size < wF.heap.size := (by omega); have hlwF_wB : wB.heap.size < wF.heap.size := (by omega); have hlwF_wE : wE.heap.size < wF.heap.size := (by omega)); have hv4 : w.heap.size + 1 < wF.heap.size := (by omega)) | (go_at_call 16; (with_reducible refine (C9.out _ ((by repeat (first | exact Gr.refl _ | refine Gr.setCell ?_ _ _ (by first | exact Nat.le_refl _ | (simp; omega) | (simp; done)) | refine Gr.grown ?_ _ _ | refine Gr.drewN ?_ _ | refine Gr.drew ?_ | refine Gr.alloc ?_ _ | refine Gr.grow ?_ _ | (refine Gr.trans ?_ (by assumption)))))).mono ?_); rintro e wI ⟨rfl, hgwI⟩))
    go_ret
    exact ⟨(by first | rfl | (simp; omega)), (by repeat (first | exact Gr.refl _ | refine Gr.setCell ?_ _ _ (by first | exact Nat.le_refl _ | (simp; omega) | (simp; done)) | refine Gr.grown ?_ _ _ | refine Gr.drewN ?_ _ | refine Gr.drew ?_ | refine Gr.alloc ?_ _ | refine Gr.grow ?_ _ | (refine Gr.trans ?_ (by assumption))))⟩)

theorem untilMost_t (y n : Int) (c : Bool) (d y' n' : Int) (c' : Bool) (d' u : Int) (w : World) (G : GT w) (w0 : (Lit.int .i64 y).wf = true) (w1 : (Lit.int .i64 n).wf = true) (w2 : (Lit.int .i64 d).wf = true) (w3 : (Lit.int .i64 y').wf = true) (w4 : (Lit.int .i64 n').wf = true) (w5 : (Lit.int .i64 d').wf = true) (w6 : (Lit.int .u8 u).wf = true) :
    Calls Tryz.prog 6 #[.agg #[.int .i64 y, .int .i64 n, .bool c, .int .i64 d], .agg #[.int .i64 y', .int .i64 n', .bool c', .int .i64 d'], .int .u8 u] w fun e w' => e = .returned (.bool true) ∧ Gr w w' := by
  obtain ⟨u0, u1⟩ := bounds_u8 w6
  have m0 : 0 ≤ u.tmod 3 := Int.tmod_nonneg 3 u0
  have m1 : u.tmod 3 < 3 := Int.tmod_lt_of_pos u (by decide)
  obtain ⟨M, hM⟩ : ∃ M, u.tmod 3 = M := ⟨_, rfl⟩
  rw [hM] at m0 m1
  by_cases h : ∃ j, n = cN (lp y) j ∧ c = cL (lp y) j ∧ HV y j d
  · obtain ⟨j, rfl, rfl, hv⟩ := h
    by_cases h' : ∃ j, n' = cN (lp y') j ∧ c' = cL (lp y') j ∧ HV y' j d'
    · obtain ⟨j', rfl, rfl, hv'⟩ := h'
      obtain ⟨p, q, r, z, k, k1, -⟩ := until_ok hv hv' (1 + M) (by omega) (by omega)
      obtain ⟨s, hs, k2⟩ := um_of hv hv' (by omega) k
      have rX := hd_range hv
      have rT := hd_range hv'
      have end_ : ∀ {P Q R : Int}, Bey y j d (hd y' j' d') s P Q R → ∃ F D1 D2 D3 D4 x E', (F = 2 ∨ (F = 0 ∧ 0 < s * (x - hd y' j' d'))) ∧ (-1500000 ≤ x ∧ x ≤ 2300000) ∧
          (∀ W, Calls Tryz.prog 8 #[.agg #[.int .i64 y, .int .i64 (cN (lp y) j), .bool (cL (lp y) j), .int .i64 d], .agg #[.int .i64 P, .int .i64 Q, .int .i64 R, .int .i64 0], .int .i64 0] W fun e w' => e = .returned (.tuple #[.agg #[.int .i64 D1, .int .i64 D2, .bool D3, .int .i64 D4], .int .i64 F]) ∧ Gr W w') ∧
          (∀ W, Calls Tryz.prog 17 #[.agg #[.int .i64 D1, .int .i64 D2, .bool D3, .int .i64 D4]] W fun e w' => e = .returned (.tuple #[.int .i64 x, .int .i64 E']) ∧ Gr W w') := by
        intro P Q R b
        rcases b.e with t | ⟨Y, J, N, v, t, g⟩
        · obtain ⟨E', -, -, -, c4⟩ := tday_bad 0 0 false 0 (fun ⟨_, _, _, v⟩ => by have := v.y0; omega)
          exact ⟨2, 0, 0, false, 0, 0, E', .inl rfl, by omega, fun W => rto_c hv b.r (.inl rfl) t W, c4⟩
        · have rv := hd_range v
          exact ⟨0, Y, _, _, N, hd Y J N, 0, .inr ⟨rfl, g⟩, by omega, fun W => rto_c hv b.r (.inl rfl) t W, fun W => r10today_in Y J N W v⟩
      rcases (by omega : M = 0 ∨ M = 1 ∨ M = 2) with rfl | rfl | rfl
      · cases k2 with
        | weeks r z z0 z1 r0 r1 b =>
          obtain ⟨F, D1, D2, D3, D4, x, E', e1, ⟨e2, e3⟩, e4, e5⟩ := end_ b
          exact umost_1 _ _ _ _ _ _ u r z _ _ s F D1 D2 D4 x E' _ _ D3 w G u0 u1 hM z0 z1 r0 r1 hs (by omega) (by omega) (by omega) (by omega) e2 e3 e1 (fun W hW => k1 W (G.gr hW)) (fun W => r10today_in y' j' d' W hv') (fun W => r10today_in y j d W hv) e4 e5
      · cases k2 with
        | months q z z0 z1 q0 q1 b =>
          obtain ⟨F, D1, D2, D3, D4, x, E', e1, ⟨e2, e3⟩, e4, e5⟩ := end_ b
          exact umost_2 _ _ _ _ _ _ u q z _ _ s F D1 D2 D4 x E' _ _ D3 w G u0 u1 hM z0 z1 q0 q1 hs (by omega) (by omega) (by omega) (by omega) e2 e3 e1 (fun W hW => k1 W (G.gr hW)) (fun W => r10today_in y' j' d' W hv') (fun W => r10today_in y j d W hv) e4 e5
      · cases k2 with
        | years p q z z0 z1 q0 q1 p0 p1 b =>
          obtain ⟨F, D1, D2, D3, D4, x, E', e1, ⟨e2, e3⟩, e4, e5⟩ := end_ b
          exact umost_3 _ _ _ _ _ _ u p q z _ _ s F D1 D2 D4 x E' _ _ D3 w G u0 u1 hM z0 z1 q0 q1 p0 p1 hs (by omega) (by omega) (by omega) (by omega) e2 e3 e1 (fun W hW => k1 W (G.gr hW)) (fun W => r10today_in y' j' d' W hv') (fun W => r10today_in y j d W hv) e4 e5
    · obtain ⟨E, e0, e1, c1, c2⟩ := tday_bad y' n' c' d' h'
      exact umost_bad _ _ _ _ _ _ u M E _ _ w G u0 u1 hM m0 (by omega) (by omega) (fun W hW => udate_b _ _ _ _ _ _ (1 + M) E _ _ _ W (by omega) (by omega) (by omega) (fun V hV => htoday_in y j d V ((G.gr hW).gr hV) hv) (fun V hV => c1 V ((G.gr hW).gr hV)))
  · obtain ⟨E, e0, e1, c1, c2⟩ := tday_bad y n c d h
    exact umost_bad _ _ _ _ _ _ u M E _ _ w G u0 u1 hM m0 (by omega) (by omega) (fun W hW => udate_a _ _ _ _ _ _ (1 + M) E _ _ W (by omega) (by omega) (by omega) (fun V hV => c1 V ((G.gr hW).gr hV)))

end Go.Proofs.YtkiopgegdkeojaaGreatDoor.Walks
