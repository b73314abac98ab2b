/- The omer's days are seven weeks, one behind the other: the walk of the law; every input. -/
import Derived.Test.YtbalbkkimlbecaaDoorChodesh3
import Derived.Test.YtbalbkkimlbecaaDoorCount3
set_option linter.unusedVariables false
set_option linter.unusedSimpArgs false
namespace Go.Proofs.YtbalbkkimlbecaaDoor.Walks
open Go Go.RowKit Go.Sort Go.Proofs.YtbalbkkimlbecaaDoor.Base Go.Proofs.YtbalbkkimlbecaaDoor.Plain Go.Proofs.YtbalbkkimlbecaaDoor.Math

theorem p7_len (kd : Int) (l : Bool) : mlen kd l (p7 l) = 30 ∧ mlen kd l (p7 l + 1) = 29 ∧ p7 l + 6 = mct l ∧ cN l (p7 l + 2) = 9 ∧ cL l (p7 l + 2) = false := by
  cases l <;> simp [p7, mlen, mct, cN, cL]
/-- A counted day, the one ahead of them and the one behind them: dates of the year. -/
theorem om_in {y t : Int} (h0 : 1 ≤ y) (h1 : y ≤ 9999) (t0 : 0 ≤ t) (t1 : t ≤ 50) : ∃ j d, HV y j d ∧ hd y j d = omS y + t := by
  have a := hd_in (hv_15 h0 h1)
  have r := omS_range h0 h1
  obtain ⟨l1, l2, l3, -⟩ := p7_len (kk y) (lp y)
  have k := kln_mah h0 h1
  have m := mah_le (kk y) (lp y) (i := p7 (lp y)) (j := mct (lp y)) (by omega)
  unfold kln at k
  have hi : omS y + t < fy (y + 1) := by
    unfold omS hd
    omega
  have top := fy_mono (a := y + 1) (b := 10000) (by omega) (by omega) (by omega)
  have ft := fy_top
  obtain ⟨y', j, d, hv, e⟩ := hd_of (n := omS y + t) (by omega) (by omega)
  have b := hd_in hv
  have : y' = y := by
    have y0 := hv.y0
    have y1 := hv.y1
    rcases Int.lt_trichotomy y' y with z | z | z
    · have := fy_mono (a := y' + 1) (b := y) (by omega) (by omega) (by omega)
      unfold omS at *
      omega
    · exact z
    · have := fy_mono (a := y + 1) (b := y') (by omega) (by omega) (by omega)
      omega
  subst this
  exact ⟨j, d, hv, e⟩
theorem om_omer {y : Int} (t : Int) (h0 : 1 ≤ y) (h1 : y ≤ 9999) (t0 : 0 ≤ t) (t1 : t ≤ 50) (w : World) (G : GT w) : Calls Tryd.prog 27 #[.int .i64 (omS y + t)] w fun e w' => e = .returned (.tuple #[.int .i64 (omN t), .int .i64 0]) ∧ Gr w w' := by
  obtain ⟨j, d, hv, e⟩ := om_in h0 h1 t0 t1
  have := omer_in hv e w G
  rwa [show omS y + t - omS y = t by omega] at this

set_option maxRecDepth 20000 in
set_option maxHeartbeats 16000000 in
theorem omer_law (u m A B : Int) (w : World) (G : GT w) (u0 : 0 ≤ u) (u1 : u ≤ 65535) (m0 : 0 ≤ m) (m1 : m ≤ 255) (s0 : -1373427 ≤ A) (s1 : A ≤ 2278700) (hB : B = A + (1 + m % 49) - 1)
    (c1 : ∀ W, Gr w W → Calls Tryd.prog 29 #[.int .i64 (1 + u % 9999), .int .i64 1] W fun e w' => e = .returned (.tuple #[.int .i64 A, .int .i64 0]) ∧ Gr W w')
    (c2 : ∀ W, Gr w W → Calls Tryd.prog 29 #[.int .i64 (1 + u % 9999), .int .i64 (1 + m % 49)] W fun e w' => e = .returned (.tuple #[.int .i64 B, .int .i64 0]) ∧ Gr W w')
    (c3 : ∀ W, Gr w W → Calls Tryd.prog 27 #[.int .i64 B] W fun e w' => e = .returned (.tuple #[.int .i64 (1 + m % 49), .int .i64 0]) ∧ Gr W w')
    (c4 : ∀ W, Calls Tryd.prog 23 #[.int .i64 A] W fun e w' => e = .returned (.tuple #[.agg #[.int .i64 (1 + u % 9999), .int .i64 7, .bool false, .int .i64 16], .int .i64 0]) ∧ Gr W w')
    (c5 : ∀ W, Calls Tryd.prog 23 #[.int .i64 (A + 48)] W fun e w' => e = .returned (.tuple #[.agg #[.int .i64 (1 + u % 9999), .int .i64 9, .bool false, .int .i64 5], .int .i64 0]) ∧ Gr W w')
    (c6 : ∀ W, Gr w W → Calls Tryd.prog 27 #[.int .i64 (A - 1)] W fun e w' => e = .returned (.tuple #[.int .i64 0, .int .i64 0]) ∧ Gr W w')
    (c7 : ∀ W, Gr w W → Calls Tryd.prog 27 #[.int .i64 (A + 49)] W fun e w' => e = .returned (.tuple #[.int .i64 0, .int .i64 0]) ∧ Gr W w') :
    Calls Tryd.prog 8 #[.int .u16 u, .int .u8 m] w fun e w' => e = .returned (.bool true) ∧ Gr w w' := by
  have C1 := Lib.hid c1
  have C2 := Lib.hid c2
  have C3 := Lib.hid c3
  have C4 := Lib.hid c4
  have C5 := Lib.hid c5
  have C6 := Lib.hid c6
  have C7 := Lib.hid c7
  have C9 := Lib.hid fun W (hW : Gr w W) => awake21_c W (G.gr hW)
  have q : (B == A + (1 + m % 49) - 1) = true := beq_iff_eq.2 hB
  clear hB
  clear c1 c2 c3 c4 c5 c6 c7 G
  go_enter Tryd.func8, Tryd.ntmps8
  go_wp2_with (first | (go_at_call 29; (with_reducible refine (C1.out _ ((by repeat (first | exact Gr.refl _ | refine Gr.setCell ?_ _ _ (by first | exact Nat.le_refl _ | (simp; omega) | (simp; done)) | refine Gr.grown ?_ _ _ | refine Gr.drewN ?_ _ | refine Gr.drew ?_ | refine Gr.alloc ?_ _ | refine Gr.grow ?_ _ | (refine Gr.trans ?_ (by assumption)))))).mono ?_); rintro e wA ⟨rfl, hgwA⟩) | (go_at_call 29; (with_reducible refine (C2.out _ ((by repeat (first | exact Gr.refl _ | refine Gr.setCell ?_ _ _ (by first | exact Nat.le_refl _ | (simp; omega) | (simp; done)) | refine Gr.grown ?_ _ _ | refine Gr.drewN ?_ _ | refine Gr.drew ?_ | refine Gr.alloc ?_ _ | refine Gr.grow ?_ _ | (refine Gr.trans ?_ (by assumption)))))).mono ?_); rintro e wB ⟨rfl, hgwB⟩) | (go_at_call 27; (with_reducible refine (C3.out _ ((by repeat (first | exact Gr.refl _ | refine Gr.setCell ?_ _ _ (by first | exact Nat.le_refl _ | (simp; omega) | (simp; done)) | refine Gr.grown ?_ _ _ | refine Gr.drewN ?_ _ | refine Gr.drew ?_ | refine Gr.alloc ?_ _ | refine Gr.grow ?_ _ | (refine Gr.trans ?_ (by assumption)))))).mono ?_); rintro e wC ⟨rfl, hgwC⟩) | (go_at_call 23; (with_reducible refine (C4.out _).mono ?_); rintro e wD ⟨rfl, hgwD⟩) | (go_at_call 23; (with_reducible refine (C5.out _).mono ?_); rintro e wE ⟨rfl, hgwE⟩; obtain ⟨hclwE, hfzwE, hszwE⟩ := gcell hgwE; (try simp [Nat.add_one_le_iff] at hszwE); have hlwE_wD : wD.heap.size < wE.heap.size := (by omega)) | (go_at_call 27; (with_reducible refine (C6.out _ ((by repeat (first | exact Gr.refl _ | refine Gr.setCell ?_ _ _ (by first | exact Nat.le_refl _ | (simp; omega) | (simp; done)) | refine Gr.grown ?_ _ _ | refine Gr.drewN ?_ _ | refine Gr.drew ?_ | refine Gr.alloc ?_ _ | refine Gr.grow ?_ _ | (refine Gr.trans ?_ (by assumption)))))).mono ?_); rintro e wH ⟨rfl, hgwH⟩; obtain ⟨hclwH, hfzwH, hszwH⟩ := gcell hgwH; (try simp [Nat.add_one_le_iff] at hszwH); have hlwH_wD : wD.heap.size < wH.heap.size := (by omega); have hlwH_wE : wE.heap.size < wH.heap.size := (by omega)) | (go_at_call 27; (with_reducible refine (C7.out _ ((by repeat (first | exact Gr.refl _ | refine Gr.setCell ?_ _ _ (by first | exact Nat.le_refl _ | (simp; omega) | (simp; done)) | refine Gr.grown ?_ _ _ | refine Gr.drewN ?_ _ | refine Gr.drew ?_ | refine Gr.alloc ?_ _ | refine Gr.grow ?_ _ | (refine Gr.trans ?_ (by assumption)))))).mono ?_); rintro e wI ⟨rfl, hgwI⟩; obtain ⟨hclwI, hfzwI, hszwI⟩ := gcell hgwI; (try simp [Nat.add_one_le_iff] at hszwI); have hlwI_wD : wD.heap.size < wI.heap.size := (by omega); have hlwI_wE : wE.heap.size < wI.heap.size := (by omega)) | (go_at_call 31; (with_reducible refine (C9.out _ ((by repeat (first | exact Gr.refl _ | refine Gr.setCell ?_ _ _ (by first | exact Nat.le_refl _ | (simp; omega) | (simp; done)) | refine Gr.grown ?_ _ _ | refine Gr.drewN ?_ _ | refine Gr.drew ?_ | refine Gr.alloc ?_ _ | refine Gr.grow ?_ _ | (refine Gr.trans ?_ (by assumption)))))).mono ?_); rintro e wF ⟨rfl, hgwF⟩; obtain ⟨hclwF, hfzwF, hszwF⟩ := gcell hgwF; (try simp [Nat.add_one_le_iff] at hszwF); have hlwF_wD : wD.heap.size < wF.heap.size := (by omega); have hlwF_wE : wE.heap.size < wF.heap.size := (by omega)))
  go_ret
  exact ⟨rfl, (by repeat (first | exact Gr.refl _ | refine Gr.setCell ?_ _ _ (by first | exact Nat.le_refl _ | (simp; omega) | (simp; done)) | refine Gr.grown ?_ _ _ | refine Gr.drewN ?_ _ | refine Gr.drew ?_ | refine Gr.alloc ?_ _ | refine Gr.grow ?_ _ | (refine Gr.trans ?_ (by assumption))))⟩

theorem chodeshOmer_t (u m : Int) (w : World) (G : GT w) (w1 : (Lit.int .u16 u).wf = true) (w2 : (Lit.int .u8 m).wf = true) : Calls Tryd.prog 8 #[.int .u16 u, .int .u8 m] w fun e w' => e = .returned (.bool true) ∧ Gr w w' := by
  have b1 := bounds_u16 w1
  have b2 := bounds_u8 w2
  have k0 : 1 ≤ 1 + u % 9999 := by omega
  have k1 : 1 + u % 9999 ≤ 9999 := by omega
  obtain ⟨k, hk⟩ : ∃ k, 1 + u % 9999 = k := ⟨_, rfl⟩
  obtain ⟨i, hi⟩ : ∃ i, 1 + m % 49 = i := ⟨_, rfl⟩
  have i0 : 1 ≤ i := by omega
  have i1 : i ≤ 49 := by omega
  rw [hk] at k0 k1
  have s := omS_range k0 k1
  obtain ⟨l1, l2, l3, l4, l5⟩ := p7_len (kk k) (lp k)
  have l6 := p7_at (lp k)
  have l7 := mlen_range (kk k) (lp k) (p7 (lp k) + 2)
  have v16 : HV k (p7 (lp k)) 16 := ⟨k0, k1, l6.1, by decide, by omega⟩
  have v5 : HV k (p7 (lp k) + 2) 5 := ⟨k0, k1, by omega, by decide, by omega⟩
  have e16 : hd k (p7 (lp k)) 16 = omS k + 1 := by unfold omS hd; omega
  have e5 : hd k (p7 (lp k) + 2) 5 = omS k + 1 + 48 := by unfold omS hd; simp only [mah]; omega
  have ct : ∀ n : Int, 1 ≤ n → n ≤ 49 → ∀ W, GT W → Calls Tryd.prog 29 #[.int .i64 k, .int .i64 n] W fun e w' => e = .returned (.tuple #[.int .i64 (omS k + n), .int .i64 0]) ∧ Gr W w' := fun n n0 n1 W G => by
    have := counted_c k n W G
    unfold ctN ctE at this
    rwa [if_pos ⟨k0, k1⟩, if_pos ⟨n0, n1⟩, if_pos ⟨k0, k1⟩, if_pos ⟨n0, n1⟩] at this
  have oN : omN i = i := by unfold omN; rw [if_pos (by omega)]
  refine omer_law u m (omS k + 1) (omS k + i) w G b1.1 b1.2 b2.1 b2.2 (by omega) (by omega) (by omega) (fun W hW => ?_) (fun W hW => ?_) (fun W hW => ?_) (fun W => ?_) (fun W => ?_) (fun W hW => ?_) (fun W hW => ?_)
  · rw [hk]; exact ct 1 (by decide) (by decide) W (G.gr hW)
  · rw [hk, hi]; exact ct i i0 i1 W (G.gr hW)
  · rw [hi]
    have := om_omer i k0 k1 (by omega) (by omega) W (G.gr hW)
    rwa [oN] at this
  · rw [hk]
    have := r10from_in k (p7 (lp k)) 16 _ W v16 e16
    rwa [l6.2.1, l6.2.2] at this
  · rw [hk]
    have := r10from_in k (p7 (lp k) + 2) 5 _ W v5 e5
    rwa [l4, l5] at this
  · have := om_omer 0 k0 k1 (by decide) (by decide) W (G.gr hW)
    rw [show omS k + 1 - 1 = omS k + 0 by omega]
    exact this
  · have := om_omer 50 k0 k1 (by decide) (by decide) W (G.gr hW)
    rw [show omS k + 1 + 49 = omS k + 50 by omega]
    exact this

end Go.Proofs.YtbalbkkimlbecaaDoor.Walks
