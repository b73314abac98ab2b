/- All months' days together are the year's; a month begins behind those ahead of it: the walk of the law; every input. -/
import Derived.Test.YtgjgkldkdmohjaaDoorMonthTells
import Derived.Test.YtgjgkldkdmohjaaDoorKeviahNumbers
set_option linter.unusedVariables false
set_option linter.unusedSimpArgs false
namespace Go.Proofs.YtgjgkldkdmohjaaDoor.Walks
open Go Go.RowKit Go.Sort Go.Proofs.YtgjgkldkdmohjaaDoor.Base Go.Proofs.YtgjgkldkdmohjaaDoor.Plain Go.Proofs.YtgjgkldkdmohjaaDoor.Math

theorem mfind_v (b kd : Int) (l : Bool) (j : Nat) (r x y : Int) (w : World) (G : GT w) (hj : j < mN b kd l) (h0 : mah kd l j < r) (h1 : r ≤ mah kd l (j + 1)) (hx : (j : Int) + 1 = x) (hy : r - mah kd l j = y) :
    Calls Tryd.prog 15 #[.agg #[.int .i64 b, .int .i64 kd, .bool l], .int .i64 r] w fun e w' => e = .returned (.tuple #[.int .i64 x, .int .i64 y, .bool true]) ∧ Gr w w' := by
  subst hx hy
  exact mfind_in b kd l j r w G hj h0 h1

set_option maxRecDepth 20000 in
set_option maxHeartbeats 8000000 in
theorem msums_core (n b kd : Int) (l : Bool) (N : Nat) (w : World) (T : GT w) (n0 : 0 ≤ n) (n1 : n ≤ 255) (hN : mN b kd l = N) (k0 : 0 ≤ kd) (k1 : kd ≤ 2)
    (c1 : ∀ W, Calls Tryd.prog 24 #[.int .i64 (1 + n % 14)] W fun e w' => e = .returned (.tuple #[.agg #[.int .i64 b, .int .i64 kd, .bool l], .bool true]) ∧ Gr W w')
    (hq : mah kd l N = 353 + kd + (if l = true then 30 else 0)) :
    Calls Tryd.prog 4 #[.int .u8 n] w fun e w' => e = .returned (.bool true) ∧ Gr w w' := by
  have HT := Lib.hid T
  have C1 := Lib.hid c1
  have C2 : RowKit.Hid (∀ W, Gr w W → Calls Tryd.prog 18 #[.agg #[.int .i64 b, .int .i64 kd, .bool l]] W fun e w' => e = .returned (.int .i64 (N : Int)) ∧ Gr W w') := Lib.hid fun W hW => by
    have := mcount_c b kd l W (T.gr hW); rwa [hN] at this
  have n13 : (N : Int) ≤ 13 := by have := mN_le b kd l; omega
  have HS : RowKit.Hid (∀ k, mah kd l (k + 1) = mah kd l k + mlen kd l k) := Lib.hid fun _ => rfl
  have HR := Lib.hid (mah_range kd l)
  have HL := Lib.hid (mlen_range kd l)
  have HZ : RowKit.Hid (mah kd l 0 = 0) := Lib.hid rfl
  have C3 : RowKit.Hid (∀ k, k < N → ∀ W, Gr w W → Calls Tryd.prog 20 #[.agg #[.int .i64 b, .int .i64 kd, .bool l], .int .i64 ((k : Int) + 1)] W fun e w' => e = .returned (.int .i64 (mlen kd l k)) ∧ Gr W w') := Lib.hid fun k hk W hW => mdays_in b kd l k W (T.gr hW) (by omega)
  have C4 : RowKit.Hid (∀ k, k < N → ∀ W, Gr w W → Calls Tryd.prog 22 #[.agg #[.int .i64 b, .int .i64 kd, .bool l], .int .i64 ((k : Int) + 1)] W fun e w' => e = .returned (.int .i64 (mah kd l k)) ∧ Gr W w') := Lib.hid fun k hk W hW => mahead_in b kd l k W (T.gr hW) (by omega)
  have C5 : RowKit.Hid (∀ k, k < N → ∀ W, Gr w W → Calls Tryd.prog 15 #[.agg #[.int .i64 b, .int .i64 kd, .bool l], .int .i64 (mah kd l k + 1)] W fun e w' => e = .returned (.tuple #[.int .i64 ((k : Int) + 1), .int .i64 1, .bool true]) ∧ Gr W w') := Lib.hid fun k hk W hW =>
    mfind_v b kd l k _ _ _ W (T.gr hW) (by omega) (by omega) (by have := (mlen_range kd l k).1; rw [HS.out]; omega) rfl (by omega)
  have C6 : RowKit.Hid (∀ k, k < N → ∀ W, Gr w W → Calls Tryd.prog 15 #[.agg #[.int .i64 b, .int .i64 kd, .bool l], .int .i64 (mah kd l k + mlen kd l k)] W fun e w' => e = .returned (.tuple #[.int .i64 ((k : Int) + 1), .int .i64 (mlen kd l k), .bool true]) ∧ Gr W w') := Lib.hid fun k hk W hW =>
    mfind_v b kd l k _ _ _ W (T.gr hW) (by omega) (by have := (mlen_range kd l k).1; omega) (by rw [HS.out]; omega) rfl (by omega)
  have C7 : RowKit.Hid (∀ W, Gr w W → Calls Tryd.prog 15 #[.agg #[.int .i64 b, .int .i64 kd, .bool l], .int .i64 (mah kd l N + 1)] W fun e w' => e = .returned (.tuple #[.int .i64 0, .int .i64 0, .bool false]) ∧ Gr W w') := Lib.hid fun W hW =>
    mfind_out b kd l _ W (T.gr hW) (.inr (by rw [hN]; omega)) (by have := (mah_range kd l N).1; omega) (by have := (mah_range kd l N).2; omega)
  have C8 : RowKit.Hid (∀ W, Gr w W → Calls Tryd.prog 17 #[] W fun e w' => e = .returned (.bool true) ∧ Gr W w') := Lib.hid fun W hW => awake08_c W (T.gr hW)
  have HQ := Lib.hid hq
  clear c1 T hN hq
  go_enter Tryd.func4, Tryd.ntmps4
  go_wp2_with (first | (go_at_call 24; (with_reducible refine (C1.out _).mono ?_); rintro e wA ⟨rfl, hgwA⟩))
  have GA : Gr w wA := (by repeat (first | exact Gr.refl _ | refine Gr.setCell ?_ _ _ (by first | exact Nat.le_refl _ | (simp; omega) | (simp; done)) | refine Gr.grown ?_ _ _ | refine Gr.drewN ?_ _ | refine Gr.drew ?_ | refine Gr.alloc ?_ _ | refine Gr.grow ?_ _ | (refine Gr.trans ?_ (by assumption))))
  clear hgwA
  go_loopg [5, 6] N (fun kx s5 s6 wr => ∃ k : Nat, k ≤ N ∧ N - k ≤ kx ∧ s5 = .int .i64 (mah kd l k) ∧ s6 = .int .i64 ((k : Int) + 1) ∧ wr.cell? ⟨wA.heap.size, 0, none⟩ = some (.int .i64 b) ∧ wr.cell? ⟨wA.heap.size, 1, none⟩ = some (.int .i64 kd) ∧ wr.cell? ⟨wA.heap.size, 2, none⟩ = some (.bool l) ∧ wA.heap.size < wr.heap.size ∧ Gr w wr)
  case atStart => exact ⟨0, by omega, by omega, by rw [HZ.out], rfl, by simp [go_sem], by simp [go_sem], by simp [go_sem], by simp, (by repeat (first | exact Gr.refl _ | refine Gr.setCell ?_ _ _ (by first | exact Nat.le_refl _ | (simp; omega) | (simp; done)) | refine Gr.grown ?_ _ _ | refine Gr.drewN ?_ _ | refine Gr.drew ?_ | refine Gr.alloc ?_ _ | refine Gr.grow ?_ _ | (refine Gr.trans ?_ (by assumption))))⟩
  case round =>
    obtain ⟨k, hk, hm, rfl, rfl, b0, b1, b2, hlt, hg⟩ := hrel
    have r0 := (HR.out k).1
    have r1 := (HR.out k).2
    by_cases e : k < N
    · have kN : (k : Int) < (N : Int) := by omega
      have m0 := (HL.out k).1
      have m1 := (HL.out k).2
      have C3 := Lib.hid (C3.out k e)
      have C4 := Lib.hid (C4.out k e)
      have C5 := Lib.hid (C5.out k e)
      have C6 := Lib.hid (C6.out k e)
      clear C7 C8 C1
      go_wp2_with (first | ((go_at_call 18; (with_reducible refine (C2.out _ ((by repeat (first | exact Gr.refl _ | refine Gr.setCell ?_ _ _ (by first | exact Nat.le_refl _ | (simp; omega) | (simp; done)) | refine Gr.grown ?_ _ _ | refine Gr.drewN ?_ _ | refine Gr.drew ?_ | refine Gr.alloc ?_ _ | refine Gr.grow ?_ _ | (refine Gr.trans ?_ (by assumption)))))).mono ?_); rintro e w1 ⟨rfl, hgw1⟩); have G1 : Gr wr w1 := (by assumption); have g1 : Gr w w1 := hg.trans G1; have b01 := G1.keep hlt b0; have b11 := G1.keep hlt b1; have b21 := G1.keep hlt b2; have h1 := G1.lt hlt) | ((go_at_call 20; (with_reducible refine (C3.out _ g1).mono ?_); rintro e w2 ⟨rfl, hgw2⟩); have G2 : Gr w1 w2 := (by assumption); have g2 : Gr w w2 := g1.trans G2; have b02 := G2.keep h1 b01; have b12 := G2.keep h1 b11; have b22 := G2.keep h1 b21; have h2 := G2.lt h1) | ((go_at_call 22; (with_reducible refine (C4.out _ g2).mono ?_); rintro e w3 ⟨rfl, hgw3⟩); have G3 : Gr w2 w3 := (by assumption); have g3 : Gr w w3 := g2.trans G3; have b03 := G3.keep h2 b02; have b13 := G3.keep h2 b12; have b23 := G3.keep h2 b22; have h3 := G3.lt h2) | ((go_at_call 15; (with_reducible refine (C5.out _ g3).mono ?_); rintro e w4 ⟨rfl, hgw4⟩); have G4 : Gr w3 w4 := (by assumption); have g4 : Gr w w4 := g3.trans G4; have b04 := G4.keep h3 b03; have b14 := G4.keep h3 b13; have b24 := G4.keep h3 b23; have h4 := G4.lt h3) | ((go_at_call 15; (with_reducible refine (C6.out _ g4).mono ?_); rintro e w5 ⟨rfl, hgw5⟩); have G5 : Gr w4 w5 := (by assumption); have g5 : Gr w w5 := g4.trans G5))
      go_roundg (N - (k + 1))
      case measure => omega
      case rel => exact ⟨k + 1, by omega, Nat.le_refl _, by rw [HS.out], by go_num, G5.keep h4 b04, G5.keep h4 b14, G5.keep h4 b24, G5.lt h4, g5⟩
    · obtain rfl : k = N := by omega
      clear C3 C4 C5 C6
      have hq := HQ.out
      cases l
      · have q : (mah kd false k == 353 + kd) = true := beq_iff_eq.2 (by simpa using hq)
        clear hq HQ
        go_wp2_with (first | ((go_at_call 18; (with_reducible refine (C2.out _ ((by repeat (first | exact Gr.refl _ | refine Gr.setCell ?_ _ _ (by first | exact Nat.le_refl _ | (simp; omega) | (simp; done)) | refine Gr.grown ?_ _ _ | refine Gr.drewN ?_ _ | refine Gr.drew ?_ | refine Gr.alloc ?_ _ | refine Gr.grow ?_ _ | (refine Gr.trans ?_ (by assumption)))))).mono ?_); rintro e w1 ⟨rfl, hgw1⟩); have G1 : Gr wr w1 := (by assumption); have g1 : Gr w w1 := hg.trans G1; have b01 := G1.keep hlt b0; have b11 := G1.keep hlt b1; have b21 := G1.keep hlt b2; have h1 := G1.lt hlt) | ((go_at_call 15; (with_reducible refine (C7.out _ g1).mono ?_); rintro e w5 ⟨rfl, hgw5⟩); have G5 : Gr w1 w5 := (by assumption); have g5 : Gr w w5 := g1.trans G5) | (go_at_call 17; (with_reducible refine (C8.out _ g5).mono ?_); rintro e w6 ⟨rfl, hgw6⟩))
        go_ret
        exact ⟨rfl, g5.trans (by assumption)⟩
      · have q : (mah kd true k == 353 + kd + 30) = true := beq_iff_eq.2 (by simpa using hq)
        clear hq HQ
        go_wp2_with (first | ((go_at_call 18; (with_reducible refine (C2.out _ ((by repeat (first | exact Gr.refl _ | refine Gr.setCell ?_ _ _ (by first | exact Nat.le_refl _ | (simp; omega) | (simp; done)) | refine Gr.grown ?_ _ _ | refine Gr.drewN ?_ _ | refine Gr.drew ?_ | refine Gr.alloc ?_ _ | refine Gr.grow ?_ _ | (refine Gr.trans ?_ (by assumption)))))).mono ?_); rintro e w1 ⟨rfl, hgw1⟩); have G1 : Gr wr w1 := (by assumption); have g1 : Gr w w1 := hg.trans G1; have b01 := G1.keep hlt b0; have b11 := G1.keep hlt b1; have b21 := G1.keep hlt b2; have h1 := G1.lt hlt) | ((go_at_call 15; (with_reducible refine (C7.out _ g1).mono ?_); rintro e w5 ⟨rfl, hgw5⟩); have G5 : Gr w1 w5 := (by assumption); have g5 : Gr w w5 := g1.trans G5) | (go_at_call 17; (with_reducible refine (C8.out _ g5).mono ?_); rintro e w6 ⟨rfl, hgw6⟩))
        go_ret
        exact ⟨rfl, g5.trans (by assumption)⟩

theorem monthSums_t (n : Int) (w : World) (T : GT w) (w0 : (Lit.int .u8 n).wf = true) : Calls Tryd.prog 4 #[.int .u8 n] w fun e w' => e = .returned (.bool true) ∧ Gr w w' := by
  have h0 := bounds_u8 w0
  obtain ⟨i, ei⟩ : ∃ i : Nat, n % 14 = (i : Int) := ⟨(n % 14).toNat, by omega⟩
  have hi : i < 14 := by omega
  have hk : 0 < knum (kB i) (kK i) (kL i) := by rw [knum_at hi]; omega
  have rk : 0 ≤ kK i ∧ kK i ≤ 2 := by
    have e : ∀ i : Nat, i < 14 → 0 ≤ kK i ∧ kK i ≤ 2 := by decide
    exact e i hi
  exact msums_core n (kB i) (kK i) (kL i) (mct (kL i)) w T h0.1 h0.2 (mN_in hk) rk.1 rk.2 (fun W => by rw [← mod_in ei]; exact rtype7_in i W hi) (mah_all _ _ rk.1 rk.2)

end Go.Proofs.YtgjgkldkdmohjaaDoor.Walks
