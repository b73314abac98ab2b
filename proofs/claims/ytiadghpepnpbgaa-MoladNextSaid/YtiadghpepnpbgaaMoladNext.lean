/- From one month to the next one, over the year's end too, it is a moon: the walk of the law; every input. -/
import Derived.Test.YtiadghpepnpbgaaAwake45
import Derived.Test.YtiadghpepnpbgaaRef02
set_option linter.unusedVariables false
set_option linter.unusedSimpArgs false
namespace Go.Proofs.Ytiadghpepnpbgaa.Walks
open Go Go.RowKit Go.Sort Go.Proofs.Ytiadghpepnpbgaa.Base Go.Proofs.Ytiadghpepnpbgaa.Plain Go.Proofs.Ytiadghpepnpbgaa.Math

/-- A moment's parts, in plain numbers. -/
def jn (d p : Int) : Int := d * 25920 + p
theorem rjoin_v (D P : Int) (w : World) (h0 : -7300000 ≤ D) (h1 : D ≤ 4540000) (p0 : 0 ≤ P) (p1 : P ≤ 25919) :
    Calls Try.prog 20 #[.agg #[.int .i64 D, .int .i64 P]] w fun e w' => e = .returned (.tuple #[.int .i64 (jn D P), .int .i64 0]) ∧ Gr w w' := by
  have h := rjoin_u D P w ⟨by omega, by omega⟩ ⟨by omega, by omega⟩
  have c : ¬ (P < 0 ∨ 25920 ≤ P) := by omega
  have e1 : jnN D P = jn D P := by
    unfold jnN jn
    rw [if_neg c]
    by_cases g : 0 ≤ D
    · rw [if_pos g, ptN_of ⟨⟨by omega, by omega⟩, ⟨by omega, by omega⟩, ⟨by omega, by omega⟩, ⟨by omega, by omega⟩⟩]; omega
    · rw [if_neg g, if_pos ⟨⟨by omega, by omega⟩, ⟨by omega, by omega⟩⟩]; omega
  have e2 : jnE D P = 0 := by
    unfold jnE
    rw [if_neg c]
    by_cases g : 0 ≤ D
    · rw [if_pos g, ptE_of ⟨⟨by omega, by omega⟩, ⟨by omega, by omega⟩, ⟨by omega, by omega⟩, ⟨by omega, by omega⟩⟩]
    · rw [if_neg g, if_pos ⟨⟨by omega, by omega⟩, ⟨by omega, by omega⟩⟩]
  rwa [e1, e2] at h
theorem jn_mo (n : Int) : jn (moD n) (moP n) = 765433 * n - 35599222236 := by unfold jn moD moP; omega
theorem bf_next (y : Int) : bf (y + 1) = bf y + ml y := by
  have e : lp y = lp (y % 19) := by unfold lp; congr 2; omega
  unfold ml
  rw [e]
  unfold bf
  have hr : y % 19 = 0 ∨ y % 19 = 1 ∨ y % 19 = 2 ∨ y % 19 = 3 ∨ y % 19 = 4 ∨ y % 19 = 5 ∨ y % 19 = 6 ∨ y % 19 = 7 ∨ y % 19 = 8 ∨ y % 19 = 9 ∨ y % 19 = 10 ∨ y % 19 = 11 ∨ y % 19 = 12 ∨ y % 19 = 13 ∨ y % 19 = 14 ∨ y % 19 = 15 ∨ y % 19 = 16 ∨ y % 19 = 17 ∨ y % 19 = 18 := by omega
  rcases hr with h | h | h | h | h | h | h | h | h | h | h | h | h | h | h | h | h | h | h <;> rw [h] <;> simp only [lp, Int.reduceMul, Int.reduceAdd, Int.reduceMod, Int.reduceLT, decide_true, decide_false, if_true] <;> first | omega | (rw [if_neg (by simp)]; omega)

theorem of_v (k i D P : Int) (h0 : 0 ≤ k) (h1 : k ≤ 10001) (m0 : 1 ≤ i) (m1 : i ≤ ml k) (hD : moD (bf k + i - 1) = D) (hP : moP (bf k + i - 1) = P) (w : World) :
    Calls Try.prog 28 #[.int .i64 k, .int .i64 i] w fun e w' => e = .returned (.tuple #[.agg #[.int .i64 D, .int .i64 P], .int .i64 0]) ∧ Gr w w' := by
  have := of_in k i w h0 h1 m0 m1
  rwa [hD, hP] at this

set_option maxHeartbeats 4000000 in
/-- Two months, one behind the other, whose new moons are the numbers x and x + 1. -/
theorem next_core (y m k N : Int) (w : World) (y0 : 0 ≤ y) (y1 : y ≤ 65535) (m0 : 0 ≤ m) (m1 : m ≤ 255) (hk : 1 + y % 9998 = k) (hN : ml k = N) (e : 1 + m % N = N ∨ 1 + m % N < N) :
    Calls Try.prog 7 #[.int .u16 y, .int .u8 m] w fun e w' => e = .returned (.bool true) ∧ Gr w w' := by
  have hr := ml_range k
  have k0 : 1 ≤ k := by omega
  have k1 : k ≤ 9998 := by omega
  have n0 : 12 ≤ N := by omega
  have n1 : N ≤ 13 := by omega
  have g0 : 0 ≤ m % N := Int.emod_nonneg m (by omega)
  have g1 : m % N < N := Int.emod_lt_of_pos m (by omega)
  have hbf := bf_range (y := k) (by omega) (by omega)
  obtain ⟨x, hx⟩ : ∃ x, bf k + (1 + m % N) - 1 = x := ⟨_, rfl⟩
  have x0 : -200000 ≤ x := by omega
  have x1 : x + 1 ≤ 200000 := by omega
  obtain ⟨D1, hD1⟩ : ∃ D, moD x = D := ⟨_, rfl⟩
  obtain ⟨P1, hP1⟩ : ∃ D, moP x = D := ⟨_, rfl⟩
  obtain ⟨D2, hD2⟩ : ∃ D, moD (x + 1) = D := ⟨_, rfl⟩
  obtain ⟨P2, hP2⟩ : ∃ D, moP (x + 1) = D := ⟨_, rfl⟩
  have a0 := moD_range (n := x) x0 (by omega)
  have a1 := moD_range (n := x + 1) (by omega) x1
  have a2 := moP_range x
  have a3 := moP_range (x + 1)
  rw [hD1] at a0; rw [hD2] at a1; rw [hP1] at a2; rw [hP2] at a3
  have j1 := jn_mo x
  have j2 := jn_mo (x + 1)
  rw [hD1, hP1] at j1; rw [hD2, hP2] at j2
  have jd : (jn D2 P2 - jn D1 P1 == 765433) = true := beq_iff_eq.2 (by omega)
  have jr : -9000000000000 ≤ jn D1 P1 ∧ jn D1 P1 ≤ 9000000000000 ∧ -9000000000000 ≤ jn D2 P2 ∧ jn D2 P2 ≤ 9000000000000 := by omega
  obtain ⟨q0, q1, q2, q3⟩ := jr
  have CO1 := Lib.hid (of_v k (1 + m % N) D1 P1 (by omega) (by omega) (by omega) (by omega) (by rw [hx]; exact hD1) (by rw [hx]; exact hP1))
  have CN : RowKit.Hid (∀ w, Calls Try.prog 33 #[.int .i64 k] w fun e w' => e = .returned (.tuple #[.int .i64 N, .int .i64 0]) ∧ Gr w w') := Lib.hid fun w => by
    have := rin_c k w
    rwa [inN_in (by omega) (by omega), hN, yE_in (by omega) (by omega)] at this
  have HK := Lib.hid hk
  rcases e with e | e
  · have hnext : bf (k + 1) + 1 - 1 = x + 1 := by rw [bf_next]; omega
    have hml := ml_range (k + 1)
    have CO2 := Lib.hid (of_v (k + 1) 1 D2 P2 (by omega) (by omega) (by omega) (by omega) (by rw [hnext]; exact hD2) (by rw [hnext]; exact hP2))
    have eb : (1 + m % N == N) = true := beq_iff_eq.2 e
    clear hD1 hP1 hD2 hP2 hx j1 j2 hr hbf hN e hnext hml hk
    go_enter Try.func7, Try.ntmps7
    go_wp2_with fail
    rw [HK.out]
    go_wp2_with (first | (go_at_call 33; (with_reducible refine (CN.out _).mono ?_); rintro e wA ⟨rfl, hgwA⟩; obtain ⟨hclwA, hfzwA, hszwA⟩ := gcell hgwA; (try simp [Nat.add_one_le_iff] at hszwA)) | (go_at_call 28; (with_reducible refine (CO1.out _).mono ?_); rintro e wB ⟨rfl, hgwB⟩; obtain ⟨hclwB, hfzwB, hszwB⟩ := gcell hgwB; (try simp [Nat.add_one_le_iff] at hszwB)) | (go_at_call 28; (with_reducible refine (CO2.out _).mono ?_); rintro e wC ⟨rfl, hgwC⟩; obtain ⟨hclwC, hfzwC, hszwC⟩ := gcell hgwC; (try simp [Nat.add_one_le_iff] at hszwC); have hlwC_wB : wB.heap.size < wC.heap.size := (by omega)) | (go_at_call 20; (with_reducible refine (rjoin_v D1 P1 _ a0.1 a0.2 a2.1 a2.2).mono ?_); rintro e wD ⟨rfl, hgwD⟩; obtain ⟨hclwD, hfzwD, hszwD⟩ := gcell hgwD; (try simp [Nat.add_one_le_iff] at hszwD); have hlwD_wB : wB.heap.size < wD.heap.size := (by omega); have hlwD_wC : wC.heap.size < wD.heap.size := (by omega)) | (go_at_call 20; (with_reducible refine (rjoin_v D2 P2 _ a1.1 a1.2 a3.1 a3.2).mono ?_); rintro e wE ⟨rfl, hgwE⟩; obtain ⟨hclwE, hfzwE, hszwE⟩ := gcell hgwE; (try simp [Nat.add_one_le_iff] at hszwE); have hlwE_wB : wB.heap.size < wE.heap.size := (by omega); have hlwE_wC : wC.heap.size < wE.heap.size := (by omega)) | (go_at_call 30; (with_reducible refine (awake04_c _).mono ?_); rintro e wF ⟨rfl, hgwF⟩; obtain ⟨hclwF, hfzwF, hszwF⟩ := gcell hgwF; (try simp [Nat.add_one_le_iff] at hszwF); have hlwF_wB : wB.heap.size < wF.heap.size := (by omega); have hlwF_wC : wC.heap.size < wF.heap.size := (by omega)))
    go_ret
    exact ⟨rfl, (by repeat (first | exact Gr.refl _ | refine Gr.setCell ?_ _ _ (by first | exact Nat.le_refl _ | (simp; omega) | (simp; done)) | refine Gr.grown ?_ _ _ | refine Gr.drewN ?_ _ | refine Gr.drew ?_ | refine Gr.alloc ?_ _ | refine Gr.grow ?_ _ | (refine Gr.trans ?_ (by assumption))))⟩
  · have hnext : bf k + (1 + m % N + 1) - 1 = x + 1 := by omega
    have CO2 := Lib.hid (of_v k (1 + m % N + 1) D2 P2 (by omega) (by omega) (by omega) (by omega) (by rw [hnext]; exact hD2) (by rw [hnext]; exact hP2))
    have eb : (1 + m % N == N) = false := beq_eq_false_iff_ne.2 (by omega)
    clear hD1 hP1 hD2 hP2 hx j1 j2 hr hbf hN e hnext hk
    go_enter Try.func7, Try.ntmps7
    go_wp2_with fail
    rw [HK.out]
    go_wp2_with (first | (go_at_call 33; (with_reducible refine (CN.out _).mono ?_); rintro e wA ⟨rfl, hgwA⟩; obtain ⟨hclwA, hfzwA, hszwA⟩ := gcell hgwA; (try simp [Nat.add_one_le_iff] at hszwA)) | (go_at_call 28; (with_reducible refine (CO1.out _).mono ?_); rintro e wB ⟨rfl, hgwB⟩; obtain ⟨hclwB, hfzwB, hszwB⟩ := gcell hgwB; (try simp [Nat.add_one_le_iff] at hszwB)) | (go_at_call 28; (with_reducible refine (CO2.out _).mono ?_); rintro e wC ⟨rfl, hgwC⟩; obtain ⟨hclwC, hfzwC, hszwC⟩ := gcell hgwC; (try simp [Nat.add_one_le_iff] at hszwC); have hlwC_wB : wB.heap.size < wC.heap.size := (by omega)) | (go_at_call 20; (with_reducible refine (rjoin_v D1 P1 _ a0.1 a0.2 a2.1 a2.2).mono ?_); rintro e wD ⟨rfl, hgwD⟩; obtain ⟨hclwD, hfzwD, hszwD⟩ := gcell hgwD; (try simp [Nat.add_one_le_iff] at hszwD); have hlwD_wB : wB.heap.size < wD.heap.size := (by omega); have hlwD_wC : wC.heap.size < wD.heap.size := (by omega)) | (go_at_call 20; (with_reducible refine (rjoin_v D2 P2 _ a1.1 a1.2 a3.1 a3.2).mono ?_); rintro e wE ⟨rfl, hgwE⟩; obtain ⟨hclwE, hfzwE, hszwE⟩ := gcell hgwE; (try simp [Nat.add_one_le_iff] at hszwE); have hlwE_wB : wB.heap.size < wE.heap.size := (by omega); have hlwE_wC : wC.heap.size < wE.heap.size := (by omega)) | (go_at_call 30; (with_reducible refine (awake04_c _).mono ?_); rintro e wF ⟨rfl, hgwF⟩; obtain ⟨hclwF, hfzwF, hszwF⟩ := gcell hgwF; (try simp [Nat.add_one_le_iff] at hszwF); have hlwF_wB : wB.heap.size < wF.heap.size := (by omega); have hlwF_wC : wC.heap.size < wF.heap.size := (by omega)))
    go_ret
    exact ⟨rfl, (by repeat (first | exact Gr.refl _ | refine Gr.setCell ?_ _ _ (by first | exact Nat.le_refl _ | (simp; omega) | (simp; done)) | refine Gr.grown ?_ _ _ | refine Gr.drewN ?_ _ | refine Gr.drew ?_ | refine Gr.alloc ?_ _ | refine Gr.grow ?_ _ | (refine Gr.trans ?_ (by assumption))))⟩

theorem moladNext_w (y m : Int) (w : World) (w0 : (Lit.int .u16 y).wf = true) (w1 : (Lit.int .u8 m).wf = true) :
    Calls Try.prog 7 #[.int .u16 y, .int .u8 m] w fun e w' => e = .returned (.bool true) ∧ Gr w w' := by
  have b0 := bounds_u16 w0
  have b1 := bounds_u8 w1
  have hr := ml_range (1 + y % 9998)
  have g1 : m % ml (1 + y % 9998) < ml (1 + y % 9998) := Int.emod_lt_of_pos m (by omega)
  exact next_core y m _ _ w b0.1 b0.2 b1.1 b1.2 rfl rfl (by omega)

end Go.Proofs.Ytiadghpepnpbgaa.Walks
