/- Walks of chodesh.Of and of the document's answer: the list of a year's days of RoshChodesh; are two lists the same. -/
import Derived.Test.YtbalbkkimlbecaaDoorChodesh
import Derived.Test.YtbalbkkimlbecaaDoorRef09
set_option linter.unusedVariables false
set_option linter.unusedSimpArgs false
namespace Go.Proofs.YtbalbkkimlbecaaDoor.Walks
open Go Go.RowKit Go.Sort Go.Proofs.YtbalbkkimlbecaaDoor.Base Go.Proofs.YtbalbkkimlbecaaDoor.Plain Go.Proofs.YtbalbkkimlbecaaDoor.Math

theorem own_gr {w w' : World} {base e size n : Nat} {v : Value} {xs : List Value} (h : w.ownsRow base e size v n xs) (g : Gr w w') : w'.ownsRow base e size v n xs := by
  refine ⟨h.1, ?_⟩
  rcases h.2 with q | ⟨g', cap, cur, q, hb, hh, r⟩
  · exact .inl q
  · exact .inr ⟨g', cap, cur, q, hb, (g.heap (Array.getElem?_eq_some_iff.1 hh).1).trans hh, r⟩
theorem ninfo_ev : (Tryd.prog.info? 49).map (fun i => (i.zero, i.size, i.bytes)) = some (some (.agg #[.int .i64 0, .int .i64 0]), 2, 16) := by kernel_rfl
theorem nund_evs : Tryd.prog.underlying 40 = some (.slice 49) := by kernel_rfl
theorem append_evs (w : World) {ops : Array Oper} {rest : List Oper} {o : Oper} {a : Act} {Q : Exit → Act → World → Prop} (hg : o.guard = none) (s x : Operand)
    (hop : o.op = .call { callee := .builtin .append, args := #[s, x], argTypes := #[40, 40] })
    (base : Nat) (v : Value) (n : Nat) (xs : List Value) (hs : a.eval s = v) (hown : w.ownsRow base 49 2 v n xs)
    (ad : Addr) (c : Nat) (news : List Value) (hx : a.eval x = .slice (some ad) 1 c) (hl : news.length = 2) (hnews : ∀ j u, news[j]? = some u → w.cell? (ad.add j) = some u) (h1 : ∀ u ∈ news, u.oneCell' = true)
    (hsm : n + 1 ≤ 100000) (hbase : base ≤ w.heap.size)
    (hK : ∀ g cap w', w'.ownsRow base 49 2 (.slice (some ⟨g, 0, none⟩) (n + 1) cap) (n + 1) (xs ++ news) → w.grownBy w' v.ownBlock → base ≤ g → (∀ W, Gr W w → W.heap.size ≤ base → Gr W w') →
      wpList Tryd.prog ops Q rest (a.put o.dst (.slice (some ⟨g, 0, none⟩) (n + 1) cap)) w') : wpList Tryd.prog ops Q (o :: rest) a w := by
  obtain ⟨i, h2, h3, h4, h5⟩ := info_parts ninfo_ev
  exact wpList_append_gr w hg s x 40 hop base 49 i (.agg #[.int .i64 0, .int .i64 0]) 2 16 nund_evs h2 h3 h4 h5 rfl (by decide) v n xs hs hown ad 1 c news hx hl hnews h1 (by decide) (by simp only [maxLen]; omega) (by omega) hbase hK

/-- What comes of Of: a slice that holds the events. -/
def EvL (L : List Int) (w : World) (e : Ending) (w' : World) : Prop :=
  ∃ g cap, e = .returned (.tuple #[.slice (some ⟨g, 0, none⟩) L.length cap, .int .i64 0]) ∧ Row w' 2 L.length g (evf L) ∧ Gr w w'
theorem chA_30 {kd : Int} {l : Bool} (F : Int) {p : Nat} (h : p ≠ 0) (g : mlen kd l p = 30) : chL kd l F (p + 1) = chL kd l F p ++ [F + mah kd l p] ++ [F + mah kd l p + 29] := by
  simp [chL, chA, h, g]
theorem chA_29 {kd : Int} {l : Bool} (F : Int) {p : Nat} (h : p ≠ 0) (g : mlen kd l p = 29) : chL kd l F (p + 1) = chL kd l F p ++ [F + mah kd l p] := by
  simp [chL, chA, h, g]
theorem chA_0 {kd : Int} {l : Bool} (F : Int) (g : mlen kd l 0 = 30) : chL kd l F (0 + 1) = chL kd l F 0 ++ [F + mah kd l 0 + 29] := by
  simp [chL, chA, g]
theorem mlen_0 (kd : Int) (l : Bool) : mlen kd l 0 = 30 := by simp [mlen]
theorem ev_snoc {L : List Int} {xs : List Int} {x : Int} (h : xs = L ++ [x]) : xs.length = L.length + 1 ∧ evx xs = evx L ++ [.int .i64 29, .int .i64 x] := by
  subst h
  exact ⟨by simp, by rw [evx_append]; rfl⟩
theorem ev_snoc2 {L : List Int} {xs : List Int} {x y : Int} (h : xs = L ++ [x] ++ [y]) : xs.length = L.length + 1 + 1 ∧ evx xs = evx L ++ [.int .i64 29, .int .i64 x] ++ [.int .i64 29, .int .i64 y] := by
  subst h
  exact ⟨by simp, by rw [evx_append, evx_append]; rfl⟩

set_option maxRecDepth 20000 in
set_option maxHeartbeats 8000000 in
theorem chof_in (y : Int) (w : World) (G : GT w) (h0 : 1 ≤ y) (h1 : y ≤ 9999) : Calls Tryd.prog 24 #[.int .i64 y] w (EvL (chL (kk y) (lp y) (fy y) (mct (lp y))) w) := by
  have C1 := Lib.hid fun w => kof_in y w h0 h1
  have C2 := Lib.hid fun w => first_in y w (by omega) (by omega)
  have C3 : RowKit.Hid (∀ W, Gr w W → Calls Tryd.prog 40 #[.agg #[.int .i64 (kb y), .int .i64 (kk y), .bool (lp y)]] W fun e w' => e = .returned (.int .i64 (mct (lp y) : Int)) ∧ Gr W w') := Lib.hid fun W hW => by
    have := mcount_c (kb y) (kk y) (lp y) W (G.gr hW)
    rwa [mN_year h0 h1] at this
  have C4 := Lib.hid fun W (hW : Gr w W) (j : Nat) (hj : j < mct (lp y)) => mdays_in (kb y) (kk y) (lp y) j W (G.gr hW) (by rw [mN_year h0 h1]; exact hj)
  have rF := fy_range (y := y) (by omega) (by omega)
  have rk := kk_leap h0 h1
  have hc := chL_count (lp y) (fy y) rk.2.1 rk.2.2
  clear rk h0 h1 G
  obtain ⟨F, hF⟩ : ∃ F, fy y = F := ⟨_, rfl⟩
  obtain ⟨l, hl⟩ : ∃ l, lp y = l := ⟨_, rfl⟩
  obtain ⟨b, hb⟩ : ∃ b, kb y = b := ⟨_, rfl⟩
  obtain ⟨kd, hk⟩ : ∃ kd, kk y = kd := ⟨_, rfl⟩
  rw [hF] at C2 rF hc ⊢
  rw [hl] at C1 C3 C4 hc ⊢
  rw [hb] at C1 C3 C4
  rw [hk] at C1 C3 C4 hc ⊢
  clear hF hl hb hk
  have hN : mct l ≤ 13 := (mct_le l).2
  go_enter Tryd.func24, Tryd.ntmps24
  go_wp2_with (first | (go_at_call 42; (with_reducible refine (C1.out _).mono ?_); rintro e wA ⟨rfl, hgwA⟩) | (go_at_call 54; (with_reducible refine (C2.out _).mono ?_); rintro e wB ⟨rfl, hgB⟩; have KB := (K3.at wA b kd l).gr hgB; have GB : Gr w wB := (by repeat (first | exact Gr.refl _ | refine Gr.setCell ?_ _ _ (by first | exact Nat.le_refl _ | (simp; omega) | (simp; done)) | refine Gr.grown ?_ _ _ | refine Gr.drewN ?_ _ | refine Gr.drew ?_ | refine Gr.alloc ?_ _ | refine Gr.grow ?_ _ | (refine Gr.trans ?_ (by assumption)))); clear hgB; obtain ⟨lk, e0, e1, e2, i0, i1, i2⟩ := KB) | ((go_at_call 40; (with_reducible refine (C3.out _ ((by repeat (first | exact Gr.refl _ | refine Gr.setCell ?_ _ _ (by first | exact Nat.le_refl _ | (simp; omega) | (simp; done)) | refine Gr.grown ?_ _ _ | refine Gr.drewN ?_ _ | refine Gr.drew ?_ | refine Gr.alloc ?_ _ | refine Gr.grow ?_ _ | (refine Gr.trans ?_ (by assumption)))))).mono ?_); rintro e wC ⟨rfl, hgwC⟩); have KC := (K3.mk lk e0 e1 e2 i0 i1 i2).gr hgwC; have GC : Gr w wC := GB.trans hgwC; clear lk e0 e1 e2 i0 i1 i2 hgwC))
  go_loopg [6, 7, 28] (mct l) (fun kx s6 s7 s28 wr => ∃ (p : Nat) (v : Value), p ≤ mct l ∧ mct l - p ≤ kx ∧ s6 = .int .i64 (F + mah kd l p) ∧ v = s7 ∧ s28 = .int .i64 (p : Int) ∧ wr.ownsRow wC.heap.size 49 2 v (chL kd l F p).length (evx (chL kd l F p)) ∧ Gr wC wr)
  case atStart => exact ⟨0, _, by omega, by omega, by simp [mah], rfl, rfl, World.ownsRow_nil _ _ _ _, Gr.refl _⟩
  case round =>
    obtain ⟨p, v, hp, hm, rfl, rfl, rfl, ho, hg⟩ := hrel
    have hle := chL_len kd l F p
    have rm := mah_range kd l p
    by_cases e : p < mct l
    · have e' : (p : Int) < (mct l : Int) := by omega
      obtain ⟨lk, e0, e1, e2, i0, i1, i2⟩ := KC.gr hg
      have CD := Lib.hid fun W (hW : Gr w W) => C4.out W hW p e
      have EM : F + mah kd l (p + 1) = F + mah kd l p + mlen kd l p := by simp only [mah]; omega
      by_cases ez : p = 0
      · subst ez
        have CD : RowKit.Hid (∀ W, Gr w W → Calls Tryd.prog 39 #[.agg #[.int .i64 b, .int .i64 kd, .bool l], .int .i64 1] W fun e w' => e = .returned (.int .i64 30) ∧ Gr W w') := Lib.hid fun W hW => by
          have := CD.out W hW
          rw [mlen_0] at this
          exact this
        rw [mlen_0] at EM
        have EM := Lib.hid EM
        have E1 := Lib.hid (ev_snoc (chA_0 F (mlen_0 kd l)))
        go_wp2_with (first | ((go_at_call 39; (with_reducible refine (CD.out _ ((by repeat (first | exact Gr.refl _ | refine Gr.setCell ?_ _ _ (by first | exact Nat.le_refl _ | (simp; omega) | (simp; done)) | refine Gr.grown ?_ _ _ | refine Gr.drewN ?_ _ | refine Gr.drew ?_ | refine Gr.alloc ?_ _ | refine Gr.grow ?_ _ | (refine Gr.trans ?_ (by assumption)))))).mono ?_); rintro e wD ⟨rfl, hgwD⟩); have OD := own_gr ho hgwD; have GD : Gr wC wD := Gr.trans hg hgwD; have hsD := GD.size; clear ho hgwD lk e0 e1 e2 i0 i1 i2) | (at_builtin; refine append_evs _ rfl _ _ rfl wC.heap.size v _ _ rfl (OD.alloc _) _ 1 [.int .i64 29, .int .i64 (F + mah kd l 0 + 29)] rfl rfl (news2 rfl _ _ _) (by simp [Value.oneCell']) (by omega) (by simp; omega) ?_; intro g1 c1 wX OX kX bX GX_; have GX : Gr wC wX := GX_ wC ((by repeat (first | exact Gr.refl _ | refine Gr.setCell ?_ _ _ (by first | exact Nat.le_refl _ | (simp; omega) | (simp; done)) | refine Gr.grown ?_ _ _ | refine Gr.drewN ?_ _ | refine Gr.drew ?_ | refine Gr.alloc ?_ _ | refine Gr.grow ?_ _ | (refine Gr.trans ?_ (by assumption))))) (Nat.le_refl _); have hsX := GX.size; clear OD))
        go_roundg (mct l - (0 + 1))
        case measure => omega
        case rel => exact ⟨0 + 1, _, by omega, Nat.le_refl _, by rw [EM.out], rfl, by go_num, by rw [E1.out.1, E1.out.2]; exact OX, GX⟩
      · have q0 : (0 : Int) < (p : Int) := by omega
        have q1 : 0 < p := by omega
        by_cases z : mlen kd l p = 30
        · have E1 := Lib.hid (ev_snoc2 (chA_30 F ez z))
          rw [z] at CD EM
          have EM := Lib.hid EM
          clear z ez
          go_wp2_with (first | ((go_at_call 39; (with_reducible refine (CD.out _ ((by repeat (first | exact Gr.refl _ | refine Gr.setCell ?_ _ _ (by first | exact Nat.le_refl _ | (simp; omega) | (simp; done)) | refine Gr.grown ?_ _ _ | refine Gr.drewN ?_ _ | refine Gr.drew ?_ | refine Gr.alloc ?_ _ | refine Gr.grow ?_ _ | (refine Gr.trans ?_ (by assumption)))))).mono ?_); rintro e wD ⟨rfl, hgwD⟩); have OD := own_gr ho hgwD; have GD : Gr wC wD := Gr.trans hg hgwD; have hsD := GD.size; clear ho hgwD lk e0 e1 e2 i0 i1 i2) | (at_builtin; refine append_evs _ rfl _ _ rfl wC.heap.size v _ _ rfl (OD.alloc _) _ 1 [.int .i64 29, .int .i64 (F + mah kd l p)] rfl rfl (news2 rfl _ _ _) (by simp [Value.oneCell']) (by omega) (by simp; omega) ?_; intro g1 c1 wX OX kX bX GX_; have GX : Gr wC wX := GX_ wC ((by repeat (first | exact Gr.refl _ | refine Gr.setCell ?_ _ _ (by first | exact Nat.le_refl _ | (simp; omega) | (simp; done)) | refine Gr.grown ?_ _ _ | refine Gr.drewN ?_ _ | refine Gr.drew ?_ | refine Gr.alloc ?_ _ | refine Gr.grow ?_ _ | (refine Gr.trans ?_ (by assumption))))) (Nat.le_refl _); have hsX := GX.size; clear OD) | (at_builtin; refine append_evs _ rfl _ _ rfl wC.heap.size _ _ _ rfl (OX.alloc _) _ 1 [.int .i64 29, .int .i64 (F + mah kd l p + 29)] rfl rfl (news2 rfl _ _ _) (by simp [Value.oneCell']) (by omega) (by simp; omega) ?_; intro g2 c2 wY OY kY bY GY_; have GY : Gr wC wY := GY_ wC ((by repeat (first | exact Gr.refl _ | refine Gr.setCell ?_ _ _ (by first | exact Nat.le_refl _ | (simp; omega) | (simp; done)) | refine Gr.grown ?_ _ _ | refine Gr.drewN ?_ _ | refine Gr.drew ?_ | refine Gr.alloc ?_ _ | refine Gr.grow ?_ _ | (refine Gr.trans ?_ (by assumption))))) (Nat.le_refl _); have hsY := GY.size; clear OX))
          go_roundg (mct l - (p + 1))
          case measure => omega
          case rel => exact ⟨p + 1, _, by omega, Nat.le_refl _, by rw [EM.out], rfl, by go_num, by rw [E1.out.1, E1.out.2]; exact OY, GY⟩
        · have z2 : mlen kd l p = 29 := by have := mlen_range kd l p; omega
          have E1 := Lib.hid (ev_snoc (chA_29 F ez z2))
          rw [z2] at CD EM
          have EM := Lib.hid EM
          clear z z2 ez
          go_wp2_with (first | ((go_at_call 39; (with_reducible refine (CD.out _ ((by repeat (first | exact Gr.refl _ | refine Gr.setCell ?_ _ _ (by first | exact Nat.le_refl _ | (simp; omega) | (simp; done)) | refine Gr.grown ?_ _ _ | refine Gr.drewN ?_ _ | refine Gr.drew ?_ | refine Gr.alloc ?_ _ | refine Gr.grow ?_ _ | (refine Gr.trans ?_ (by assumption)))))).mono ?_); rintro e wD ⟨rfl, hgwD⟩); have OD := own_gr ho hgwD; have GD : Gr wC wD := Gr.trans hg hgwD; have hsD := GD.size; clear ho hgwD lk e0 e1 e2 i0 i1 i2) | (at_builtin; refine append_evs _ rfl _ _ rfl wC.heap.size v _ _ rfl (OD.alloc _) _ 1 [.int .i64 29, .int .i64 (F + mah kd l p)] rfl rfl (news2 rfl _ _ _) (by simp [Value.oneCell']) (by omega) (by simp; omega) ?_; intro g1 c1 wX OX kX bX GX_; have GX : Gr wC wX := GX_ wC ((by repeat (first | exact Gr.refl _ | refine Gr.setCell ?_ _ _ (by first | exact Nat.le_refl _ | (simp; omega) | (simp; done)) | refine Gr.grown ?_ _ _ | refine Gr.drewN ?_ _ | refine Gr.drew ?_ | refine Gr.alloc ?_ _ | refine Gr.grow ?_ _ | (refine Gr.trans ?_ (by assumption))))) (Nat.le_refl _); have hsX := GX.size; clear OD))
          go_roundg (mct l - (p + 1))
          case measure => omega
          case rel => exact ⟨p + 1, _, by omega, Nat.le_refl _, by rw [EM.out], rfl, by go_num, by rw [E1.out.1, E1.out.2]; exact OX, GX⟩
    · obtain rfl : p = mct l := by omega
      have hp : 0 < (chL kd l F (mct l)).length := by omega
      obtain ⟨g, cap, rfl⟩ : ∃ g cap, v = .slice (some ⟨g, 0, none⟩) (chL kd l F (mct l)).length cap := by
        rcases ho.2 with ⟨-, z⟩ | ⟨g, cap, -, rfl, -⟩
        · omega
        · exact ⟨g, cap, rfl⟩
      have HO := Lib.hid (row_of ho hp (evx_at _))
      clear ho
      go_wp2
      go_ret2
      exact ⟨g, cap, rfl, HO.out, (by repeat (first | exact Gr.refl _ | refine Gr.setCell ?_ _ _ (by first | exact Nat.le_refl _ | (simp; omega) | (simp; done)) | refine Gr.grown ?_ _ _ | refine Gr.drewN ?_ _ | refine Gr.drew ?_ | refine Gr.alloc ?_ _ | refine Gr.grow ?_ _ | (refine Gr.trans ?_ (by assumption))))⟩
set_option maxHeartbeats 2000000 in
theorem chof_out (y : Int) (w : World) (h : y < 1 ∨ 9999 < y) : Calls Tryd.prog 24 #[.int .i64 y] w fun e w' => e = .returned (.tuple #[.slice none 0 0, .int .i64 2]) ∧ Gr w w' := by
  have C1 := Lib.hid fun w => kof_out y w h
  clear h
  go_enter Tryd.func24, Tryd.ntmps24
  go_wp2_with (first | (go_at_call 42; (with_reducible refine (C1.out _).mono ?_); rintro e wA ⟨rfl, hgwA⟩))
  go_ret2
  exact ⟨rfl, (by repeat (first | exact Gr.refl _ | refine Gr.setCell ?_ _ _ (by first | exact Nat.le_refl _ | (simp; omega) | (simp; done)) | refine Gr.grown ?_ _ _ | refine Gr.drewN ?_ _ | refine Gr.drew ?_ | refine Gr.alloc ?_ _ | refine Gr.grow ?_ _ | (refine Gr.trans ?_ (by assumption))))⟩

set_option maxRecDepth 20000 in
set_option maxHeartbeats 8000000 in
theorem rchof_in (y : Int) (w : World) (h0 : 1 ≤ y) (h1 : y ≤ 9999) : Calls Tryd.prog 25 #[.int .i64 y] w (EvL (chL (kk y) (lp y) (fy y) (mct (lp y))) w) := by
  have C1 := Lib.hid fun w => rkof_in y w h0 h1
  have C2 := Lib.hid fun w => rfirst_in y w (by omega) (by omega)
  have C3 : RowKit.Hid (∀ W, Calls Tryd.prog 47 #[.agg #[.int .i64 (kb y), .int .i64 (kk y), .bool (lp y)]] W fun e w' => e = .returned (.int .i64 (mct (lp y) : Int)) ∧ Gr W w') := Lib.hid fun W => by
    have := rcount_c (kb y) (kk y) (lp y) W
    rwa [mN_year h0 h1] at this
  have C4 := Lib.hid fun W (j : Nat) (hj : j < mct (lp y)) => rahead_in (kb y) (kk y) (lp y) j W (by rw [mN_year h0 h1]; exact hj)
  have C5 := Lib.hid fun W (j : Nat) (hj : j < mct (lp y)) => rdays_in (kb y) (kk y) (lp y) j W (by rw [mN_year h0 h1]; exact hj)
  have rF := fy_range (y := y) (by omega) (by omega)
  have rk := kk_leap h0 h1
  have hc := chL_count (lp y) (fy y) rk.2.1 rk.2.2
  clear rk h0 h1
  obtain ⟨F, hF⟩ : ∃ F, fy y = F := ⟨_, rfl⟩
  obtain ⟨l, hl⟩ : ∃ l, lp y = l := ⟨_, rfl⟩
  obtain ⟨b, hb⟩ : ∃ b, kb y = b := ⟨_, rfl⟩
  obtain ⟨kd, hk⟩ : ∃ kd, kk y = kd := ⟨_, rfl⟩
  rw [hF] at C2 rF hc ⊢
  rw [hl] at C1 C3 C4 C5 hc ⊢
  rw [hb] at C1 C3 C4 C5
  rw [hk] at C1 C3 C4 C5 hc ⊢
  clear hF hl hb hk
  have hN : mct l ≤ 13 := (mct_le l).2
  go_enter Tryd.func25, Tryd.ntmps25
  go_wp2_with (first | (go_at_call 44; (with_reducible refine (C1.out _).mono ?_); rintro e wA ⟨rfl, hgwA⟩) | (go_at_call 50; (with_reducible refine (C2.out _).mono ?_); rintro e wC ⟨rfl, hgC⟩; have KC := (K3.at wA b kd l).gr hgC; have GC : Gr w wC := (by repeat (first | exact Gr.refl _ | refine Gr.setCell ?_ _ _ (by first | exact Nat.le_refl _ | (simp; omega) | (simp; done)) | refine Gr.grown ?_ _ _ | refine Gr.drewN ?_ _ | refine Gr.drew ?_ | refine Gr.alloc ?_ _ | refine Gr.grow ?_ _ | (refine Gr.trans ?_ (by assumption)))); clear hgC))
  go_loopg [8, 9] (mct l) (fun kx s8 s9 wr => ∃ (p : Nat) (v : Value), p ≤ mct l ∧ mct l - p ≤ kx ∧ v = s8 ∧ s9 = .int .i64 ((p : Int) + 1) ∧ wr.ownsRow wC.heap.size 49 2 v (chL kd l F p).length (evx (chL kd l F p)) ∧ Gr wC wr)
  case atStart => exact ⟨0, _, by omega, by omega, rfl, rfl, World.ownsRow_nil _ _ _ _, Gr.refl _⟩
  case round =>
    obtain ⟨p, v, hp, hm, rfl, rfl, ho, hg⟩ := hrel
    have hle := chL_len kd l F p
    have rm := mah_range kd l p
    by_cases e : p < mct l
    · have e' : (p : Int) + 1 ≤ (mct l : Int) := by omega
      obtain ⟨lk, e0, e1, e2, i0, i1, i2⟩ := KC.gr hg
      have CA := Lib.hid fun W => C4.out W p e
      have CD := Lib.hid fun W => C5.out W p e
      by_cases ez : p = 0
      · subst ez
        have CD : RowKit.Hid (∀ W, Calls Tryd.prog 46 #[.agg #[.int .i64 b, .int .i64 kd, .bool l], .int .i64 1] W fun e w' => e = .returned (.int .i64 30) ∧ Gr W w') := Lib.hid fun W => by
          have := CD.out W
          rw [mlen_0] at this
          exact this
        have CA : RowKit.Hid (∀ W, Calls Tryd.prog 51 #[.agg #[.int .i64 b, .int .i64 kd, .bool l], .int .i64 1] W fun e w' => e = .returned (.int .i64 (mah kd l 0)) ∧ Gr W w') := Lib.hid fun W => CA.out W
        have E1 := Lib.hid (ev_snoc (chA_0 F (mlen_0 kd l)))
        go_wp2_with (first | ((go_at_call 47; (with_reducible refine (C3.out _).mono ?_); rintro e wD ⟨rfl, hgwD⟩); have OD := own_gr ho hgwD; have GD : Gr wC wD := Gr.trans hg hgwD; have hsD := GD.size; clear ho hgwD lk e0 e1 e2 i0 i1 i2; obtain ⟨lk, e0, e1, e2, i0, i1, i2⟩ := KC.gr GD) | ((go_at_call 51; (with_reducible refine (CA.out _).mono ?_); rintro e wE ⟨rfl, hgwE⟩); have OE := own_gr OD hgwE; have GE : Gr wC wE := Gr.trans GD hgwE; have hsE := GE.size; clear OD hgwE lk e0 e1 e2 i0 i1 i2; obtain ⟨lk, e0, e1, e2, i0, i1, i2⟩ := KC.gr GE) | ((go_at_call 46; (with_reducible refine (CD.out _).mono ?_); rintro e wH ⟨rfl, hgwH⟩); have OH := own_gr OE hgwH; have GH : Gr wC wH := Gr.trans GE hgwH; have hsH := GH.size; clear OE hgwH lk e0 e1 e2 i0 i1 i2) | (at_builtin; refine append_evs _ rfl _ _ rfl wC.heap.size v _ _ rfl (OH.alloc _) _ 1 [.int .i64 29, .int .i64 (F + mah kd l 0 + 29)] rfl rfl (news2 rfl _ _ _) (by simp [Value.oneCell']) (by omega) (by simp; omega) ?_; intro g1 c1 wY OY kY bY GY_; have GY : Gr wC wY := GY_ wC ((by repeat (first | exact Gr.refl _ | refine Gr.setCell ?_ _ _ (by first | exact Nat.le_refl _ | (simp; omega) | (simp; done)) | refine Gr.grown ?_ _ _ | refine Gr.drewN ?_ _ | refine Gr.drew ?_ | refine Gr.alloc ?_ _ | refine Gr.grow ?_ _ | (refine Gr.trans ?_ (by assumption))))) (Nat.le_refl _); have hsY := GY.size; clear OH))
        go_roundg (mct l - (0 + 1))
        case measure => omega
        case rel => exact ⟨0 + 1, _, by omega, Nat.le_refl _, rfl, by go_num, by rw [E1.out.1, E1.out.2]; exact OY, GY⟩
      · have q0 : (1 : Int) < (p : Int) + 1 := by omega
        have q1 : 0 < p := by omega
        by_cases z : mlen kd l p = 30
        · have E1 := Lib.hid (ev_snoc2 (chA_30 F ez z))
          rw [z] at CD
          clear z ez
          go_wp2_with (first | ((go_at_call 47; (with_reducible refine (C3.out _).mono ?_); rintro e wD ⟨rfl, hgwD⟩); have OD := own_gr ho hgwD; have GD : Gr wC wD := Gr.trans hg hgwD; have hsD := GD.size; clear ho hgwD lk e0 e1 e2 i0 i1 i2; obtain ⟨lk, e0, e1, e2, i0, i1, i2⟩ := KC.gr GD) | ((go_at_call 51; (with_reducible refine (CA.out _).mono ?_); rintro e wE ⟨rfl, hgwE⟩); have OE := own_gr OD hgwE; have GE : Gr wC wE := Gr.trans GD hgwE; have hsE := GE.size; clear OD hgwE lk e0 e1 e2 i0 i1 i2; obtain ⟨lk, e0, e1, e2, i0, i1, i2⟩ := KC.gr GE) | (at_builtin; refine append_evs _ rfl _ _ rfl wC.heap.size v _ _ rfl (OE.alloc _) _ 1 [.int .i64 29, .int .i64 (F + mah kd l p)] rfl rfl (news2 rfl _ _ _) (by simp [Value.oneCell']) (by omega) (by simp; omega) ?_; intro g1 c1 wX OX kX bX GX_; have GX : Gr wC wX := GX_ wC ((by repeat (first | exact Gr.refl _ | refine Gr.setCell ?_ _ _ (by first | exact Nat.le_refl _ | (simp; omega) | (simp; done)) | refine Gr.grown ?_ _ _ | refine Gr.drewN ?_ _ | refine Gr.drew ?_ | refine Gr.alloc ?_ _ | refine Gr.grow ?_ _ | (refine Gr.trans ?_ (by assumption))))) (Nat.le_refl _); have hsX := GX.size; clear OE lk e0 e1 e2 i0 i1 i2; obtain ⟨lk, e0, e1, e2, i0, i1, i2⟩ := KC.gr GX) | ((go_at_call 46; (with_reducible refine (CD.out _).mono ?_); rintro e wH ⟨rfl, hgwH⟩); have OH := own_gr OX hgwH; have GH : Gr wC wH := Gr.trans GX hgwH; have hsH := GH.size; clear OX hgwH lk e0 e1 e2 i0 i1 i2) | (at_builtin; refine append_evs _ rfl _ _ rfl wC.heap.size _ _ _ rfl (OH.alloc _) _ 1 [.int .i64 29, .int .i64 (F + mah kd l p + 29)] rfl rfl (news2 rfl _ _ _) (by simp [Value.oneCell']) (by omega) (by simp; omega) ?_; intro g2 c2 wY OY kY bY GY_; have GY : Gr wC wY := GY_ wC ((by repeat (first | exact Gr.refl _ | refine Gr.setCell ?_ _ _ (by first | exact Nat.le_refl _ | (simp; omega) | (simp; done)) | refine Gr.grown ?_ _ _ | refine Gr.drewN ?_ _ | refine Gr.drew ?_ | refine Gr.alloc ?_ _ | refine Gr.grow ?_ _ | (refine Gr.trans ?_ (by assumption))))) (Nat.le_refl _); have hsY := GY.size; clear OH))
          go_roundg (mct l - (p + 1))
          case measure => omega
          case rel => exact ⟨p + 1, _, by omega, Nat.le_refl _, rfl, by go_num, by rw [E1.out.1, E1.out.2]; exact OY, GY⟩
        · have z2 : mlen kd l p = 29 := by have := mlen_range kd l p; omega
          have E1 := Lib.hid (ev_snoc (chA_29 F ez z2))
          rw [z2] at CD
          clear z z2 ez
          go_wp2_with (first | ((go_at_call 47; (with_reducible refine (C3.out _).mono ?_); rintro e wD ⟨rfl, hgwD⟩); have OD := own_gr ho hgwD; have GD : Gr wC wD := Gr.trans hg hgwD; have hsD := GD.size; clear ho hgwD lk e0 e1 e2 i0 i1 i2; obtain ⟨lk, e0, e1, e2, i0, i1, i2⟩ := KC.gr GD) | ((go_at_call 51; (with_reducible refine (CA.out _).mono ?_); rintro e wE ⟨rfl, hgwE⟩); have OE := own_gr OD hgwE; have GE : Gr wC wE := Gr.trans GD hgwE; have hsE := GE.size; clear OD hgwE lk e0 e1 e2 i0 i1 i2; obtain ⟨lk, e0, e1, e2, i0, i1, i2⟩ := KC.gr GE) | (at_builtin; refine append_evs _ rfl _ _ rfl wC.heap.size v _ _ rfl (OE.alloc _) _ 1 [.int .i64 29, .int .i64 (F + mah kd l p)] rfl rfl (news2 rfl _ _ _) (by simp [Value.oneCell']) (by omega) (by simp; omega) ?_; intro g1 c1 wX OX kX bX GX_; have GX : Gr wC wX := GX_ wC ((by repeat (first | exact Gr.refl _ | refine Gr.setCell ?_ _ _ (by first | exact Nat.le_refl _ | (simp; omega) | (simp; done)) | refine Gr.grown ?_ _ _ | refine Gr.drewN ?_ _ | refine Gr.drew ?_ | refine Gr.alloc ?_ _ | refine Gr.grow ?_ _ | (refine Gr.trans ?_ (by assumption))))) (Nat.le_refl _); have hsX := GX.size; clear OE lk e0 e1 e2 i0 i1 i2; obtain ⟨lk, e0, e1, e2, i0, i1, i2⟩ := KC.gr GX) | ((go_at_call 46; (with_reducible refine (CD.out _).mono ?_); rintro e wH ⟨rfl, hgwH⟩); have OH := own_gr OX hgwH; have GH : Gr wC wH := Gr.trans GX hgwH; have hsH := GH.size; clear OX hgwH lk e0 e1 e2 i0 i1 i2))
          go_roundg (mct l - (p + 1))
          case measure => omega
          case rel => exact ⟨p + 1, _, by omega, Nat.le_refl _, rfl, by go_num, by rw [E1.out.1, E1.out.2]; exact OH, GH⟩
    · obtain rfl : p = mct l := by omega
      have hp : 0 < (chL kd l F (mct l)).length := by omega
      obtain ⟨g, cap, rfl⟩ : ∃ g cap, v = .slice (some ⟨g, 0, none⟩) (chL kd l F (mct l)).length cap := by
        rcases ho.2 with ⟨-, z⟩ | ⟨g, cap, -, rfl, -⟩
        · omega
        · exact ⟨g, cap, rfl⟩
      have HO := Lib.hid (row_of ho hp (evx_at _))
      obtain ⟨lk, e0, e1, e2, i0, i1, i2⟩ := KC.gr hg
      go_wp2_with (first | ((go_at_call 47; (with_reducible refine (C3.out _).mono ?_); rintro e wD ⟨rfl, hgwD⟩); have RD := (HO.out).gr hgwD; clear ho HO))
      go_ret2
      exact ⟨g, cap, rfl, RD, (by repeat (first | exact Gr.refl _ | refine Gr.setCell ?_ _ _ (by first | exact Nat.le_refl _ | (simp; omega) | (simp; done)) | refine Gr.grown ?_ _ _ | refine Gr.drewN ?_ _ | refine Gr.drew ?_ | refine Gr.alloc ?_ _ | refine Gr.grow ?_ _ | (refine Gr.trans ?_ (by assumption))))⟩
set_option maxHeartbeats 2000000 in
theorem rchof_out (y : Int) (w : World) (h : y < 1 ∨ 9999 < y) : Calls Tryd.prog 25 #[.int .i64 y] w fun e w' => e = .returned (.tuple #[.slice none 0 0, .int .i64 2]) ∧ Gr w w' := by
  have C1 := Lib.hid fun w => rkof_out y w h
  clear h
  go_enter Tryd.func25, Tryd.ntmps25
  go_wp2_with (first | (go_at_call 44; (with_reducible refine (C1.out _).mono ?_); rintro e wA ⟨rfl, hgwA⟩))
  go_ret2
  exact ⟨rfl, (by repeat (first | exact Gr.refl _ | refine Gr.setCell ?_ _ _ (by first | exact Nat.le_refl _ | (simp; omega) | (simp; done)) | refine Gr.grown ?_ _ _ | refine Gr.drewN ?_ _ | refine Gr.drew ?_ | refine Gr.alloc ?_ _ | refine Gr.grow ?_ _ | (refine Gr.trans ?_ (by assumption))))⟩

set_option maxRecDepth 20000 in
set_option maxHeartbeats 8000000 in
theorem rsame_nil (w : World) : Calls Tryd.prog 26 #[.slice none 0 0, .slice none 0 0] w fun e w' => e = .returned (.bool true) ∧ Gr w w' := by
  go_enter Tryd.func26, Tryd.ntmps26
  go_wp2
  go_loopg [5] 0 (fun kx s5 wr => s5 = .int .i64 0 ∧ Gr w wr)
  case atStart => exact ⟨rfl, Gr.refl _⟩
  case round =>
    obtain ⟨rfl, hg⟩ := hrel
    go_wp2
    go_ret
    exact ⟨rfl, hg⟩
set_option maxRecDepth 20000 in
set_option maxHeartbeats 8000000 in
theorem rsame_row (L : List Int) (g1 c1 g2 c2 : Nat) (w : World) (hL : L.length ≤ 100) (R1 : Row w 2 L.length g1 (evf L)) (R2 : Row w 2 L.length g2 (evf L)) : Calls Tryd.prog 26 #[.slice (some ⟨g1, 0, none⟩) L.length c1, .slice (some ⟨g2, 0, none⟩) L.length c2] w fun e w' => e = .returned (.bool true) ∧ Gr w w' := by
  obtain ⟨N, hN⟩ : ∃ N, L.length = N := ⟨_, rfl⟩
  rw [hN] at hL R1 R2 ⊢
  clear hN
  go_enter Tryd.func26, Tryd.ntmps26
  go_wp2
  go_loopg [5] N (fun kx s5 wr => ∃ k : Nat, k ≤ N ∧ N - k ≤ kx ∧ s5 = .int .i64 (k : Int) ∧ Gr w wr)
  case atStart => exact ⟨0, by omega, by omega, rfl, Gr.refl _⟩
  case round =>
    obtain ⟨k, hk, hm, rfl, hg⟩ := hrel
    by_cases e : k < N
    · have Q1 := R1.gr hg
      have Q2 := R2.gr hg
      have ck := Q1.c (k * 2) (by omega)
      have dk := Q1.c (k * 2 + 1) (by omega)
      have ek := Q2.c (k * 2) (by omega)
      have fk := Q2.c (k * 2 + 1) (by omega)
      rw [evf_k] at ck ek
      rw [evf_d] at dk fk
      have k2 : (k : Int) < (N : Int) := by omega
      clear Q1 Q2 R1 R2
      go_wp2
      go_quiet (fail)
      go_wp2
      go_roundg (N - (k + 1))
      case measure => omega
      case rel => exact ⟨k + 1, by omega, Nat.le_refl _, by go_num, hg.trans (by clear hg; exact (by repeat (first | exact Gr.refl _ | refine Gr.setCell ?_ _ _ (by first | exact Nat.le_refl _ | (simp; omega) | (simp; done)) | refine Gr.grown ?_ _ _ | refine Gr.drewN ?_ _ | refine Gr.drew ?_ | refine Gr.alloc ?_ _ | refine Gr.grow ?_ _ | (refine Gr.trans ?_ (by assumption)))))⟩
    · obtain rfl : k = N := by omega
      clear R1 R2
      go_wp2
      go_ret
      exact ⟨rfl, hg⟩

end Go.Proofs.YtbalbkkimlbecaaDoor.Walks
