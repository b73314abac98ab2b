/- Walk of day.Events: all events of a year. -/
import Derived.Test.YtegkbjpcgelomaaGreatDoorVWholeFeasts2
import Derived.Test.YtegkbjpcgelomaaGreatDoorZ18
import Derived.Test.YtegkbjpcgelomaaGreatDoorVWholeFeasts1
import Derived.Test.YtegkbjpcgelomaaGreatDoorZ15
import Derived.Test.YtegkbjpcgelomaaGreatDoorZ17
set_option linter.unusedVariables false
set_option linter.unusedSimpArgs false
section
namespace Go.Proofs.YtegkbjpcgelomaaGreatDoor.Walks
open Go Go.RowKit Go.Sort Go.Proofs.YtegkbjpcgelomaaGreatDoor.Base Go.Proofs.YtegkbjpcgelomaaGreatDoor.Plain Go.Proofs.YtegkbjpcgelomaaGreatDoor.Math

/-- Append of events, as many as there are. -/
theorem append_evk (w : World) {ops : Array Oper} {rest : List Oper} {o : Oper} {a : Act} {Q : Exit → Act → World → Prop} (hg : o.guard = none) (s x : Operand)
    (hop : o.op = .call { callee := .builtin .append, args := #[s, x], argTypes := #[62, 62] })
    (base : Nat) (v : Value) (n : Nat) (xs : List Value) (hs : a.eval s = v) (hown : w.ownsRow base 67 2 v n xs)
    (ad : Addr) (m c : Nat) (news : List Value) (hx : a.eval x = .slice (some ad) m c) (hl : news.length = m * 2) (hnews : ∀ j u, news[j]? = some u → w.cell? (ad.add j) = some u) (h1 : ∀ u ∈ news, u.oneCell' = true)
    (hm : 0 < m) (hsm : n + m ≤ 100000) (hbase : base ≤ w.heap.size)
    (hK : ∀ g cap w', w'.ownsRow base 67 2 (.slice (some ⟨g, 0, none⟩) (n + m) cap) (n + m) (xs ++ news) → w.grownBy w' v.ownBlock → base ≤ g → (∀ W, Gr W w → W.heap.size ≤ base → Gr W w') →
      wpList Tryq.prog ops Q rest (a.put o.dst (.slice (some ⟨g, 0, none⟩) (n + m) cap)) w') : wpList Tryq.prog ops Q (o :: rest) a w := by
  obtain ⟨i, h2, h3, h4, h5⟩ := info_parts ninfo_ev
  exact wpList_append_gr w hg s x 62 hop base 67 i (.agg #[.int .i64 0, .int .i64 0]) 2 16 nund_evs h2 h3 h4 h5 rfl (by decide) v n xs hs hown ad m c news hx hl hnews h1 hm (by simp only [maxLen]; omega) (by omega) hbase hK
theorem own_news {w : World} {base e size g n cap : Nat} {xs : List Value} (h : w.ownsRow base e size (.slice (some ⟨g, 0, none⟩) n cap) n xs) : ∀ j u, xs[j]? = some u → w.cell? ((⟨g, 0, none⟩ : Addr).add j) = some u :=
  fun j u hu => h.cells (g := g) rfl j u hu
theorem evx_cel (L : List Int) : evx L = cel (L.map fun D => (29, D)) := by
  induction L with
  | nil => rfl
  | cons d r ih => rw [List.map_cons]; simp only [evx, ih, cel, List.flatMap_cons]; rfl
theorem row_news {w : World} {g : Nat} {L : List Int} (R : Row w 2 L.length g (evf L)) : ∀ j u, (cel (L.map fun D => ((29 : Int), D)))[j]? = some u → w.cell? ((⟨g, 0, none⟩ : Addr).add j) = some u := by
  intro j u hu
  rw [← evx_cel] at hu
  have hj : j < L.length * 2 := by have := (List.getElem?_eq_some_iff.1 hu).1; rwa [evx_len] at this
  rw [evx_at L j hj] at hu
  cases hu
  have := R.c j hj
  by_cases z : j = 0
  · subst z; simpa [Addr.add] using this
  · simpa [Addr.add, z] using this

/-- The new moons' days of a year, as events. -/
def chE (y : Int) : List (Int × Int) := (chL (kk y) (lp y) (fy y) (mct (lp y))).map fun D => (29, D)
/-- The events that have come behind the first i lists. -/
def prE (y p : Int) : Nat → List (Int × Int)
  | 0 => evs y p
  | 1 => evs y p ++ xep y 9
  | 2 => evs y p ++ xep y 9 ++ chE y
  | _ => evs y p ++ xep y 9 ++ chE y ++ sep y 8
def allE (y p : Int) : List (Int × Int) := evs y p ++ xep y 9 ++ chE y ++ sep y 8
theorem chE_len {y : Int} (h0 : 1 ≤ y) (h1 : y ≤ 9999) : 11 ≤ (chE y).length ∧ (chE y).length ≤ 26 := by
  obtain ⟨-, b, c⟩ := kk_leap h0 h1
  unfold chE
  rw [List.length_map]
  exact chL_count (lp y) (fy y) b c
theorem prE_len {y p : Int} (h0 : 1 ≤ y) (h1 : y ≤ 9999) (i : Nat) : (prE y p i).length ≤ 300 := by
  have a := evp_len y p 19 (by omega)
  have a' : (evs y p).length ≤ 8 * 19 := a
  have b := xep_len y 9
  have c := chE_len h0 h1
  have d := sep_len y 8
  unfold prE
  split <;> (try simp only [List.length_append]) <;> omega

/-- The row of the three functions. -/
structure F3 (w : World) (b : Nat) : Prop where
  lt : b < w.heap.size
  c0 : w.cell? ⟨b, 0, none⟩ = some (.func (.func 32) #[] #[])
  c1 : w.cell? ⟨b, 1, none⟩ = some (.func (.func 66) #[] #[])
  c2 : w.cell? ⟨b, 2, none⟩ = some (.func (.func 33) #[] #[])
theorem F3.gr {w w' : World} {b : Nat} (h : F3 w b) (g : Gr w w') : F3 w' b := ⟨g.lt h.lt, g.keep h.lt h.c0, g.keep h.lt h.c1, g.keep h.lt h.c2⟩
theorem F3.kept {w w' : World} {b : Nat} {row : Option Nat} (h : F3 w b) (k : w.grownBy w' row) (hne : some b ≠ row) : F3 w' b := by
  have hb := k.block b h.lt hne
  have c : ∀ o, w'.cell? ⟨b, o, none⟩ = w.cell? ⟨b, o, none⟩ := fun o => World.cell?_of_block hb
  exact ⟨Nat.lt_of_lt_of_le h.lt k.size, by rw [c]; exact h.c0, by rw [c]; exact h.c1, by rw [c]; exact h.c2⟩
theorem F3.ne {w : World} {b base e g n cap : Nat} {L : List (Int × Int)} (h : F3 w b) (o : w.ownsRow base e 2 (.slice (some ⟨g, 0, none⟩) n cap) n (cel L)) (hL : 0 < L.length) : some b ≠ (Value.slice (some ⟨g, 0, none⟩) n cap).ownBlock := by
  intro q
  have q : b = g := by simpa [Value.ownBlock] using q
  subst q
  cases L with
  | nil => cases hL
  | cons x r =>
    have := own_news o 0 (.int .i64 x.1) rfl
    have c := h.c0
    simp only [Addr.add] at this
    simp at this
    rw [c] at this
    cases this
set_option maxRecDepth 20000 in
set_option maxHeartbeats 8000000 in
theorem dayev_c (y p : Int) (w : World) (G : GT w) (h0 : 1 ≤ y) (h1 : y ≤ 9999) (hp : p = 0 ∨ p = 1) : Calls Tryq.prog 30 #[.int .i64 y, .int .i64 p] w (OfO w (allE y p)) := by
  have C1 := Lib.hid (feofO_c y p w G h0 h1 hp)
  have C2 := Lib.hid fun W (hW : Gr w W) => fastof_c y W (G.gr hW) h0 h1
  have C3 := Lib.hid fun W (hW : Gr w W) => chof_in y W (G.gr hW) h0 h1
  have C4 := Lib.hid fun W (hW : Gr w W) => specof_c y W (G.gr hW) h0 h1
  have C5 : RowKit.Hid (∀ (v : Value) (L : List (Int × Int)) (W : World), L.length ≤ 1000 → 0 < L.length → (∃ g cap, v = .slice (some ⟨g, 0, none⟩) L.length cap ∧ Evs W g L) → Calls Tryq.prog 67 #[v] W (SortO W L)) := Lib.hid fun v L W h2 h3 ⟨g, cap, q, E⟩ => by
    subst q; exact sortO_c g cap L W h3 h2 E
  have ep : 0 < (evs y p).length := evs_pos y p hp
  have xp := xep_pos y
  have cp := chE_len h0 h1
  have sp : 1 ≤ (sep y 8).length ∧ (sep y 8).length ≤ 8 := by rw [sep_len]; omega
  have hcl : RowKit.Hid ((chE y).length = (chL (kk y) (lp y) (fy y) (mct (lp y))).length) := Lib.hid (by unfold chE; rw [List.length_map])
  clear G
  go_enter Tryq.func30, Tryq.ntmps30
  go_wp2_with (first | (go_at_call 31; (with_reducible refine C1.out.mono ?_); rintro e wA ⟨gA, capA, MA, rfl, hPA, hOA, hgA⟩; clear C1))
  go_loopg [6, 23] 3 (fun kx s6 s23 wr => ∃ (i : Nat) (M : List (Int × Int)) (g cap : Nat), i ≤ 3 ∧ 3 - i ≤ kx ∧ s23 = .int .i64 (i : Int) ∧ s6 = .slice (some ⟨g, 0, none⟩) M.length cap ∧ M.Perm (prE y p i) ∧ wr.ownsRow w.heap.size 67 2 (.slice (some ⟨g, 0, none⟩) M.length cap) M.length (cel M) ∧ F3 wr wA.heap.size ∧ Gr w wr)
  case atStart =>
    refine ⟨0, MA, gA, capA, by omega, by omega, rfl, rfl, hPA, own_gr hOA ((Gr.refl _).alloc _), ⟨by simp, by simp [go_sem], by simp [go_sem], by simp [go_sem]⟩, (by repeat (first | exact Gr.refl _ | refine Gr.setCell ?_ _ _ (by first | exact Nat.le_refl _ | (simp; omega) | (simp; done)) | refine Gr.grown ?_ _ _ | refine Gr.drewN ?_ _ | refine Gr.drew ?_ | refine Gr.alloc ?_ _ | refine Gr.grow ?_ _ | (refine Gr.trans ?_ (by assumption))))⟩
  case round =>
    obtain ⟨i, M, g, cap, hi, hm, rfl, rfl, hPM, ho, F, hg⟩ := hrel
    rename World => wo
    have hMp : 0 < M.length := by
      rw [hPM.length_eq]
      unfold prE
      split <;> (try simp only [List.length_append]) <;> omega
    by_cases e : i < 3
    · have ci : i = 0 ∨ i = 1 ∨ i = 2 := by omega
      rcases ci with rfl | rfl | rfl
      · have hF := F.c0
        have hlM : M.length ≤ 300 := by rw [hPM.length_eq]; exact prE_len h0 h1 0
        go_wp2_with (first | (go_at_call 32; (refine (C2.out _ ((by repeat (first | exact Gr.refl _ | refine Gr.setCell ?_ _ _ (by first | exact Nat.le_refl _ | (simp; omega) | (simp; done)) | refine Gr.grown ?_ _ _ | refine Gr.drewN ?_ _ | refine Gr.drew ?_ | refine Gr.alloc ?_ _ | refine Gr.grow ?_ _ | (refine Gr.trans ?_ (by assumption)))))).mono ?_); rintro e1 wD ⟨g2, cap2, M2, rfl, hP2, hO2, hgD⟩; have oD := own_gr ho hgD; have FD := F.gr hgD; have GD : Gr w wD := hg.trans hgD; have hsD := GD.size; have hne := FD.ne oD hMp; clear hgD ho hg F hF) | (at_builtin; refine append_evk _ rfl _ _ rfl w.heap.size _ _ _ rfl oD _ M2.length cap2 (cel M2) rfl (cel_len M2) (own_news hO2) (cel_one _) (by rw [hP2.length_eq]; exact xp) (by have := hP2.length_eq; have := xep_len y 9; omega) hsD ?_; intro g3 c3 wX OX kX bX GX_; have GX : Gr w wX := GX_ w GD (Nat.le_refl _); have FX := FD.kept kX hne; clear oD FD GD GX_ hne kX))
        go_roundg (3 - (0 + 1))
        case measure => omega
        case rel =>
          refine ⟨0 + 1, M ++ M2, g3, c3, by omega, Nat.le_refl _, by go_num, by rw [List.length_append], hPM.append hP2, ?_, FX, GX⟩
          rw [cel_append, List.length_append]; exact OX
      · have hF := F.c1
        have hlM : M.length ≤ 300 := by rw [hPM.length_eq]; exact prE_len h0 h1 1
        go_wp2_with (first | (go_at_call 66; (refine (C3.out _ ((by repeat (first | exact Gr.refl _ | refine Gr.setCell ?_ _ _ (by first | exact Nat.le_refl _ | (simp; omega) | (simp; done)) | refine Gr.grown ?_ _ _ | refine Gr.drewN ?_ _ | refine Gr.drew ?_ | refine Gr.alloc ?_ _ | refine Gr.grow ?_ _ | (refine Gr.trans ?_ (by assumption)))))).mono ?_); rintro e1 wD ⟨g2, cap2, rfl, hR, hgD⟩; have oD := own_gr ho hgD; have FD := F.gr hgD; have GD : Gr w wD := hg.trans hgD; have hsD := GD.size; have hne := FD.ne oD hMp; clear hgD ho hg F hF) | (at_builtin; refine append_evk _ rfl _ _ rfl w.heap.size _ _ _ rfl oD _ (chL (kk y) (lp y) (fy y) (mct (lp y))).length cap2 (cel (chE y)) rfl (by rw [cel_len, hcl.out]) (row_news hR) (cel_one _) (by have := hcl.out; omega) (by have := hcl.out; omega) hsD ?_; intro g3 c3 wX OX kX bX GX_; have GX : Gr w wX := GX_ w GD (Nat.le_refl _); have FX := FD.kept kX hne; clear oD FD GD GX_ hne kX))
        go_roundg (3 - (1 + 1))
        case measure => omega
        case rel =>
          refine ⟨1 + 1, M ++ chE y, g3, c3, by omega, Nat.le_refl _, by go_num, by rw [List.length_append, hcl.out], hPM.append (List.Perm.refl _), ?_, FX, GX⟩
          rw [cel_append, List.length_append, hcl.out]; exact OX
      · have hF := F.c2
        have hlM : M.length ≤ 300 := by rw [hPM.length_eq]; exact prE_len h0 h1 2
        go_wp2_with (first | (go_at_call 33; (refine (C4.out _ ((by repeat (first | exact Gr.refl _ | refine Gr.setCell ?_ _ _ (by first | exact Nat.le_refl _ | (simp; omega) | (simp; done)) | refine Gr.grown ?_ _ _ | refine Gr.drewN ?_ _ | refine Gr.drew ?_ | refine Gr.alloc ?_ _ | refine Gr.grow ?_ _ | (refine Gr.trans ?_ (by assumption)))))).mono ?_); rintro e1 wD ⟨g2, cap2, M2, rfl, hP2, hO2, hgD⟩; have oD := own_gr ho hgD; have FD := F.gr hgD; have GD : Gr w wD := hg.trans hgD; have hsD := GD.size; have hne := FD.ne oD hMp; clear hgD ho hg F hF) | (at_builtin; refine append_evk _ rfl _ _ rfl w.heap.size _ _ _ rfl oD _ M2.length cap2 (cel M2) rfl (cel_len M2) (own_news hO2) (cel_one _) (by rw [hP2.length_eq]; omega) (by have := hP2.length_eq; omega) hsD ?_; intro g3 c3 wX OX kX bX GX_; have GX : Gr w wX := GX_ w GD (Nat.le_refl _); have FX := FD.kept kX hne; clear oD FD GD GX_ hne kX))
        go_roundg (3 - (2 + 1))
        case measure => omega
        case rel =>
          refine ⟨2 + 1, M ++ M2, g3, c3, by omega, Nat.le_refl _, by go_num, by rw [List.length_append], hPM.append hP2, ?_, FX, GX⟩
          rw [cel_append, List.length_append]; exact OX
    · obtain rfl : i = 3 := by omega
      have hlM : M.length ≤ 300 := by rw [hPM.length_eq]; exact prE_len h0 h1 3
      have HO := Lib.hid (evs_of ho hMp rfl)
      clear ho
      go_wp2_with (first | (go_at_call 67; refine (C5.out _ M _ (by omega) hMp ⟨g, cap, rfl, HO.out⟩).mono ?_; rintro e2 wE ⟨g2, cap2, M2, rfl, hPerm, hOwn, hgE⟩))
      go_ret2
      have GE : Gr w wE := hg.trans hgE
      exact ⟨g2, cap2, M2, rfl, hPerm.trans hPM, own_mono hOwn hg.size, GE⟩
end Go.Proofs.YtegkbjpcgelomaaGreatDoor.Walks
end
/- The days of a year's feasts, fasts and named Sabbaths are dates of the year, on the days that the tables tell. No program in sight. -/
section
namespace Go.Proofs.YtegkbjpcgelomaaGreatDoor.Math
open Go Go.RowKit Go.Proofs.YtegkbjpcgelomaaGreatDoor.Plain Go.Proofs.YtegkbjpcgelomaaGreatDoor.Walks

/-- What the tables tell: of a kind, a month's number, whether it is the leap one, a day, a weekday. -/
def tbl (K n d : Int) (c : Bool) (w : Int) : Prop :=
  (K = 2 → (n = 1 ∧ d = 3 ∧ w ≠ 6) ∨ (n = 1 ∧ d = 4 ∧ w = 0)) ∧
  (K = 3 → n = 1 ∧ d = 10) ∧
  (K = 10 → n = 4 ∧ d = 10 ∧ w ≠ 6) ∧
  (K = 13 → (n = 6 ∧ d = 13 ∧ w ≠ 6) ∨ (n = 6 ∧ d = 11 ∧ w = 4)) ∧
  (K = 14 → n = 6 ∧ d = 14 ∧ c = false) ∧
  (K = 16 → (n = 7 ∧ d = 14 ∧ w ≠ 6) ∨ (n = 7 ∧ d = 12 ∧ w = 4)) ∧
  (K = 26 → (n = 10 ∧ d = 17 ∧ w ≠ 6) ∨ (n = 10 ∧ d = 18 ∧ w = 0)) ∧
  (K = 27 → (n = 11 ∧ d = 9 ∧ w ≠ 6) ∨ (n = 11 ∧ d = 10 ∧ w = 0)) ∧
  (K = 21 → (n = 8 ∧ d = 5 ∧ w = 3) ∨ (n = 8 ∧ d = 4 ∧ w = 4) ∨ (n = 8 ∧ d = 3 ∧ w = 4) ∨ (n = 8 ∧ d = 6 ∧ w = 2)) ∧
  (30 ≤ K → w = 6)
/-- An event of a year on a day of that year that the tables let be. -/
def evOK (y : Int) (e : Int × Int) : Prop := 1 ≤ e.1 ∧ e.1 ≤ 37 ∧ ∃ (j : Nat) (d : Int), HV y j d ∧ hd y j d = e.2 ∧ tbl e.1 (cN (lp y) j) d (cL (lp y) j) (e.2 % 7)

theorem hd_year {y D : Int} (h0 : 1 ≤ y) (h1 : y ≤ 9999) (a : fy y ≤ D) (b : D < fy (y + 1)) : ∃ (j : Nat) (d : Int), HV y j d ∧ hd y j d = D := by
  have k := kln_mah h0 h1
  unfold kln at k
  obtain ⟨j, u, v, w⟩ := month_at (kk y) (lp y) (mct (lp y)) (D - fy y + 1) (by omega) (by omega)
  exact ⟨j, D - fy y + 1 - mah (kk y) (lp y) j, ⟨h0, h1, u, by omega, by simp only [mah] at w; omega⟩, by unfold hd; omega⟩
/-- A kind of which the tables tell nothing. -/
def bare (K : Int) : Prop := 1 ≤ K ∧ K ≤ 29 ∧ K ≠ 2 ∧ K ≠ 3 ∧ K ≠ 10 ∧ K ≠ 13 ∧ K ≠ 14 ∧ K ≠ 16 ∧ K ≠ 26 ∧ K ≠ 27 ∧ K ≠ 21
theorem tbl_bare {K n d : Int} {c : Bool} {w : Int} (h : bare K) : tbl K n d c w := by unfold bare at h; unfold tbl; omega
theorem ev_bare {y K D : Int} (h0 : 1 ≤ y) (h1 : y ≤ 9999) (h : bare K) (a : fy y ≤ D) (b : D < fy (y + 1)) : evOK y (K, D) := by
  obtain ⟨j, d, H, e⟩ := hd_year h0 h1 a b
  exact ⟨h.1, by have := h.2.1; show K ≤ 37; omega, j, d, H, e, tbl_bare h⟩
theorem ev_rest {y K D : Int} (h0 : 1 ≤ y) (h1 : y ≤ 9999) (k0 : 30 ≤ K) (k1 : K ≤ 37) (a : fy y ≤ D) (b : D < fy (y + 1)) (w : D % 7 = 6) : evOK y (K, D) := by
  obtain ⟨j, d, H, e⟩ := hd_year h0 h1 a b
  refine ⟨by show 1 ≤ K; omega, k1, j, d, H, e, ?_⟩
  show tbl K _ _ _ (D % 7)
  unfold tbl
  omega
/-- The days behind a date, far from the year's end. -/
theorem far_in {y : Int} (h0 : 1 ≤ y) (h1 : y ≤ 9999) {j : Nat} (hj : j + 2 ≤ mct (lp y)) {m : Int} (a : -29 * (j : Int) < m) (b : m ≤ 58) : fy y ≤ hd y j 1 + m - 1 ∧ hd y j 1 + m - 1 < fy (y + 1) := by
  have k := kln_mah h0 h1
  unfold kln at k
  have r := mah_range (kk y) (lp y) j
  have s := mah_le (kk y) (lp y) (i := j) (j := mct (lp y)) (by omega)
  have t : (2 : Int) ≤ (mct (lp y) : Int) - j := by omega
  unfold hd
  constructor
  · omega
  · omega
theorem fJ_far : ∀ l : Bool, ∀ i, i < 19 → fH l i = true → fJ l i + 2 ≤ mct l := by decide
theorem fK_all : ∀ i, i < 19 → i = 1 ∨ i = 10 ∨ (1 ≤ fK i ∧ fK i ≤ 29 ∧ fK i ≠ 2 ∧ fK i ≠ 3 ∧ fK i ≠ 10 ∧ fK i ≠ 13 ∧ fK i ≠ 14 ∧ fK i ≠ 16 ∧ fK i ≠ 26 ∧ fK i ≠ 27 ∧ fK i ≠ 21) := by decide
theorem evs_ok {y p : Int} (h0 : 1 ≤ y) (h1 : y ≤ 9999) (e : Int × Int) (he : e ∈ evs y p) : evOK y e := by
  unfold evs at he
  obtain ⟨i, hi, he⟩ := List.mem_flatMap.1 he
  have hi : i < 19 := List.mem_range.1 hi
  unfold evr at he
  split at he
  case isFalse => cases he
  case isTrue hH =>
  obtain ⟨m, hm, rfl⟩ := List.mem_map.1 he
  have hm := List.mem_range.1 hm
  have T := fFT p hi
  have hF : fdy y i = hd y (fJ (lp y) i) 1 := by unfold fdy; rw [if_pos hH]
  have far := far_in h0 h1 (fJ_far (lp y) i hi hH) (m := fF p i + (m : Int)) (by omega) (by omega)
  obtain ⟨j1, cn, cl⟩ := fJ_ok (lp y) i hi hH
  rcases fK_all i hi with rfl | rfl | hb
  · have f : fF p 1 = 10 := by unfold fF fA fC; split <;> rfl
    have t : fT p 1 = 10 := by unfold fT fB fD; split <;> rfl
    have hm0 : m = 0 := by omega
    subst hm0
    have ml := mlen_range (kk y) (lp y) (fJ (lp y) 1)
    refine ⟨by show (1 : Int) ≤ 3; omega, by show (3 : Int) ≤ 37; omega, fJ (lp y) 1, 10, ⟨h0, h1, j1, by omega, by omega⟩, ?_, ?_⟩
    · show _ = fdy y 1 + (fF p 1 + ((0 : Nat) : Int)) - 1
      rw [hF, f]; unfold hd; omega
    · show tbl 3 _ _ _ _
      rw [cn, cl]
      unfold tbl
      refine ⟨by omega, fun _ => ⟨rfl, rfl⟩, by omega, by omega, by omega, by omega, by omega, by omega, by omega, by omega⟩
  · have f : fF p 10 = 14 := by unfold fF fA fC; split <;> rfl
    have t : fT p 10 = 14 := by unfold fT fB fD; split <;> rfl
    have hm0 : m = 0 := by omega
    subst hm0
    have ml := mlen_range (kk y) (lp y) (fJ (lp y) 10)
    refine ⟨by show (1 : Int) ≤ 14; omega, by show (14 : Int) ≤ 37; omega, fJ (lp y) 10, 14, ⟨h0, h1, j1, by omega, by omega⟩, ?_, ?_⟩
    · show _ = fdy y 10 + (fF p 10 + ((0 : Nat) : Int)) - 1
      rw [hF, f]; unfold hd; omega
    · show tbl 14 _ _ _ _
      rw [cn, cl]
      unfold tbl
      refine ⟨by omega, by omega, by omega, by omega, fun _ => ⟨rfl, rfl, rfl⟩, by omega, by omega, by omega, by omega, by omega⟩
  · exact ev_bare h0 h1 hb (by rw [hF]; omega) (by rw [hF]; omega)

/-! ### the fasts and the days that are moved -/
theorem wd_year {y : Int} (h0 : 0 ≤ y) (h1 : y ≤ 10000) : fy y % 7 ≠ 0 ∧ fy y % 7 ≠ 3 ∧ fy y % 7 ≠ 5 := by
  have h := year_facts y.toNat (by omega)
  rw [show ((y.toNat : Nat) : Int) = y from by omega] at h
  obtain ⟨-, -, a, b, c⟩ := h
  exact ⟨by simpa using a, by simpa using b, by simpa using c⟩
theorem kk_in {y : Int} (h0 : 1 ≤ y) (h1 : y ≤ 9999) : kk y = 0 ∨ kk y = 1 ∨ kk y = 2 := by
  obtain ⟨-, b, c⟩ := kk_leap h0 h1
  omega
theorem dJ_all : ∀ i, i < 9 → ∀ l : Bool, dJ l (xN i) < mct l ∧ cN l (dJ l (xN i)) = xN i ∧ cL l (dJ l (xN i)) = false := by decide
/-- 10 Tevet is never a Sabbath. -/
theorem tevet {y : Int} (h0 : 1 ≤ y) (h1 : y ≤ 9999) : dyn y 4 10 % 7 ≠ 6 := by
  have k := kln_mah h0 h1
  have a := wd_year (y := y) (by omega) (by omega)
  have b := wd_year (y := y + 1) (by omega) (by omega)
  rw [mah_all _ _ (by rcases kk_in h0 h1 with q | q | q <;> omega) (by rcases kk_in h0 h1 with q | q | q <;> omega)] at k
  unfold kln at k
  have e : dyn y 4 10 = fy y + mah (kk y) (lp y) 3 + 9 := by
    unfold dyn hd
    rw [show dJ (lp y) 4 = 3 by cases lp y <;> rfl]; omega
  rcases kk_in h0 h1 with q | q | q <;> cases l : lp y <;> rw [q, l] at e k <;> simp [mah, mlen] at e k <;> omega
/-- 5 Iyar: which weekdays it may have. -/
theorem iyar {y : Int} (h0 : 1 ≤ y) (h1 : y ≤ 9999) : dyn y 8 5 % 7 = 1 ∨ dyn y 8 5 % 7 = 3 ∨ dyn y 8 5 % 7 = 5 ∨ dyn y 8 5 % 7 = 6 := by
  have k := kln_mah h0 h1
  have b := wd_year (y := y + 1) (by omega) (by omega)
  unfold kln at k
  have e : dyn y 8 5 = fy y + mah (kk y) (lp y) (dJ (lp y) 8) + 4 := by unfold dyn hd; omega
  rcases kk_in h0 h1 with q | q | q <;> cases l : lp y <;> rw [q, l] at e k <;> simp [mah, mlen, mct, dJ] at e k <;> omega
theorem w7 (F : Int) : F % 7 = 0 ∨ F % 7 = 1 ∨ F % 7 = 2 ∨ F % 7 = 3 ∨ F % 7 = 4 ∨ F % 7 = 5 ∨ F % 7 = 6 := by omega
theorem mv_2 (F : Int) : tbl 2 1 (3 + mvf 2 (F % 7)) false ((F + mvf 2 (F % 7)) % 7) := by
  rcases w7 F with q | q | q | q | q | q | q
  all_goals first | (exfalso; omega) | (rw [q]; simp [mvf]; unfold tbl; omega)
theorem mv_10 (F : Int) (h : F % 7 ≠ 6) : tbl 10 4 (10 + mvf 10 (F % 7)) false ((F + mvf 10 (F % 7)) % 7) := by
  rcases w7 F with q | q | q | q | q | q | q
  all_goals first | (exfalso; omega) | (rw [q]; simp [mvf]; unfold tbl; omega)
theorem mv_13 (F : Int) : tbl 13 6 (13 + mvf 13 (F % 7)) false ((F + mvf 13 (F % 7)) % 7) := by
  rcases w7 F with q | q | q | q | q | q | q
  all_goals first | (exfalso; omega) | (rw [q]; simp [mvf]; unfold tbl; omega)
theorem mv_16 (F : Int) : tbl 16 7 (14 + mvf 16 (F % 7)) false ((F + mvf 16 (F % 7)) % 7) := by
  rcases w7 F with q | q | q | q | q | q | q
  all_goals first | (exfalso; omega) | (rw [q]; simp [mvf]; unfold tbl; omega)
theorem mv_19 (F : Int) : tbl 19 7 (27 + mvf 19 (F % 7)) false ((F + mvf 19 (F % 7)) % 7) := by
  rcases w7 F with q | q | q | q | q | q | q
  all_goals first | (exfalso; omega) | (rw [q]; simp [mvf]; unfold tbl; omega)
theorem mv_21 (F : Int) (h : F % 7 = 1 ∨ F % 7 = 3 ∨ F % 7 = 5 ∨ F % 7 = 6) : tbl 21 8 (5 + mvf 21 (F % 7)) false ((F + mvf 21 (F % 7)) % 7) := by
  rcases w7 F with q | q | q | q | q | q | q
  all_goals first | (exfalso; omega) | (rw [q]; simp [mvf]; unfold tbl; omega)
theorem mv_24 (F : Int) : tbl 24 8 (28 + mvf 24 (F % 7)) false ((F + mvf 24 (F % 7)) % 7) := by
  rcases w7 F with q | q | q | q | q | q | q
  all_goals first | (exfalso; omega) | (rw [q]; simp [mvf]; unfold tbl; omega)
theorem mv_26 (F : Int) : tbl 26 10 (17 + mvf 26 (F % 7)) false ((F + mvf 26 (F % 7)) % 7) := by
  rcases w7 F with q | q | q | q | q | q | q
  all_goals first | (exfalso; omega) | (rw [q]; simp [mvf]; unfold tbl; omega)
theorem mv_27 (F : Int) : tbl 27 11 (9 + mvf 27 (F % 7)) false ((F + mvf 27 (F % 7)) % 7) := by
  rcases w7 F with q | q | q | q | q | q | q
  all_goals first | (exfalso; omega) | (rw [q]; simp [mvf]; unfold tbl; omega)
theorem xep_ok {y : Int} (h0 : 1 ≤ y) (h1 : y ≤ 9999) (e : Int × Int) (he : e ∈ xep y 9) : evOK y e := by
  unfold xep at he
  obtain ⟨i, hi, he⟩ := List.mem_flatMap.1 he
  have hi : i < 9 := List.mem_range.1 hi
  obtain ⟨j1, cn, cl⟩ := dJ_all i hi (lp y)
  have ml := mlen_range (kk y) (lp y) (dJ (lp y) (xN i))
  -- a date of that month
  have at_ : ∀ (K : Int) (v : Int), 1 ≤ K → K ≤ 37 → 1 ≤ xD i + v → xD i + v ≤ 29 → tbl K (xN i) (xD i + v) false ((dyn y (xN i) (xD i) + v) % 7) → evOK y (K, dyn y (xN i) (xD i) + v) := fun K v k0 k1 d0 d1 t =>
    ⟨k0, k1, dJ (lp y) (xN i), xD i + v, ⟨h0, h1, j1, d0, by omega⟩, by show _ = dyn y (xN i) (xD i) + v; unfold dyn hd; omega, by rw [cn, cl]; exact t⟩
  have tv := tevet h0 h1
  have iy := iyar h0 h1
  have c : i = 0 ∨ i = 1 ∨ i = 2 ∨ i = 3 ∨ i = 4 ∨ i = 5 ∨ i = 6 ∨ i = 7 ∨ i = 8 := by omega
  rcases c with rfl | rfl | rfl | rfl | rfl | rfl | rfl | rfl | rfl
  · replace he : e = (2, dyn y 1 3 + mvf 2 (dyn y 1 3 % 7)) := by simpa [xev, xdy, xK, xN, xD] using he
    subst he
    have hD : xD 0 = 3 := rfl
    have mv := mvf_range 2 (dyn y 1 3 % 7)
    exact at_ 2 _ (by decide) (by decide) (by omega) (by omega) (mv_2 (dyn y 1 3))
  · replace he : e = (10, dyn y 4 10 + mvf 10 (dyn y 4 10 % 7)) := by simpa [xev, xdy, xK, xN, xD] using he
    subst he
    have hD : xD 1 = 10 := rfl
    have mv := mvf_range 10 (dyn y 4 10 % 7)
    exact at_ 10 _ (by decide) (by decide) (by omega) (by omega) (mv_10 (dyn y 4 10) tv)
  · replace he : e = (13, dyn y 6 13 + mvf 13 (dyn y 6 13 % 7)) := by simpa [xev, xdy, xK, xN, xD] using he
    subst he
    have hD : xD 2 = 13 := rfl
    have mv := mvf_range 13 (dyn y 6 13 % 7)
    exact at_ 13 _ (by decide) (by decide) (by omega) (by omega) (mv_13 (dyn y 6 13))
  · replace he : e = (16, dyn y 7 14 + mvf 16 (dyn y 7 14 % 7)) := by simpa [xev, xdy, xK, xN, xD] using he
    subst he
    have hD : xD 3 = 14 := rfl
    have mv := mvf_range 16 (dyn y 7 14 % 7)
    exact at_ 16 _ (by decide) (by decide) (by omega) (by omega) (mv_16 (dyn y 7 14))
  · replace he : e = (19, dyn y 7 27 + mvf 19 (dyn y 7 27 % 7)) := by simpa [xev, xdy, xK, xN, xD] using he
    subst he
    have hD : xD 4 = 27 := rfl
    have mv := mvf_range 19 (dyn y 7 27 % 7)
    exact at_ 19 _ (by decide) (by decide) (by omega) (by omega) (mv_19 (dyn y 7 27))
  · replace he : e = (21, dyn y 8 5 + mvf 21 (dyn y 8 5 % 7)) ∨ e = (20, dyn y 8 5 + mvf 21 (dyn y 8 5 % 7) - 1) := by simpa [xev, xdy, xK, xN, xD] using he
    have hD : xD 5 = 5 := rfl
    have mv := mvf_range 21 (dyn y 8 5 % 7)
    rcases he with rfl | rfl
    · exact at_ 21 _ (by decide) (by decide) (by omega) (by omega) (mv_21 (dyn y 8 5) iy)
    · rw [show dyn y 8 5 + mvf 21 (dyn y 8 5 % 7) - 1 = dyn y 8 5 + (mvf 21 (dyn y 8 5 % 7) - 1) by omega]
      exact at_ 20 _ (by decide) (by decide) (by omega) (by omega) (tbl_bare (by unfold bare; omega))
  · replace he : e = (24, dyn y 8 28 + mvf 24 (dyn y 8 28 % 7)) := by simpa [xev, xdy, xK, xN, xD] using he
    subst he
    have hD : xD 6 = 28 := rfl
    have mv := mvf_range 24 (dyn y 8 28 % 7)
    exact at_ 24 _ (by decide) (by decide) (by omega) (by omega) (mv_24 (dyn y 8 28))
  · replace he : e = (26, dyn y 10 17 + mvf 26 (dyn y 10 17 % 7)) := by simpa [xev, xdy, xK, xN, xD] using he
    subst he
    have hD : xD 7 = 17 := rfl
    have mv := mvf_range 26 (dyn y 10 17 % 7)
    exact at_ 26 _ (by decide) (by decide) (by omega) (by omega) (mv_26 (dyn y 10 17))
  · replace he : e = (27, dyn y 11 9 + mvf 27 (dyn y 11 9 % 7)) := by simpa [xev, xdy, xK, xN, xD] using he
    subst he
    have hD : xD 8 = 9 := rfl
    have mv := mvf_range 27 (dyn y 11 9 % 7)
    exact at_ 27 _ (by decide) (by decide) (by omega) (by omega) (mv_27 (dyn y 11 9))

/-! ### the Sabbaths with names -/
theorem sJ_far : ∀ l : Bool, ∀ i, i < 8 → dJ l (sN i) + 2 ≤ mct l ∧ (i = 0 ∨ 1 ≤ dJ l (sN i)) := by decide
theorem sep_ok {y : Int} (h0 : 1 ≤ y) (h1 : y ≤ 9999) (e : Int × Int) (he : e ∈ sep y 8) : evOK y e := by
  unfold sep at he
  obtain ⟨i, hi, rfl⟩ := List.mem_map.1 he
  have hi : i < 8 := List.mem_range.1 hi
  obtain ⟨j2, j0⟩ := sJ_far (lp y) i hi
  have hs := s_ok i hi
  have e1 : dyn y (sN i) (sD i) = hd y (dJ (lp y) (sN i)) 1 + sD i - 1 := by unfold dyn hd; omega
  have key : ∃ v, sdy y i = dyn y (sN i) (sD i) + v ∧ v ≤ 14 ∧ (-14 ≤ v) ∧ (i = 0 → 0 ≤ v) ∧ sdy y i % 7 = 6 := by
    refine ⟨sdy y i - dyn y (sN i) (sD i), by omega, ?_⟩
    have r := sNear_range i (dyn y (sN i) (sD i))
    have x7 : sX i % 7 = 0 := by
      have : ∀ i, i < 8 → sX i % 7 = 0 := by decide
      exact this i hi
    have w : sNear i (dyn y (sN i) (sD i)) % 7 = 6 := by unfold sNear saF saU; split <;> omega
    unfold sdy
    refine ⟨by omega, by omega, ?_, by omega⟩
    rintro rfl
    have : sNear 0 (dyn y (sN 0) (sD 0)) = saF (dyn y (sN 0) (sD 0)) := rfl
    rw [this]
    have : sX 0 = 0 := rfl
    unfold saF
    omega
  obtain ⟨v, ev, v1, v0, vz, w⟩ := key
  have far := far_in h0 h1 j2 (m := sD i + v) (by
    rcases j0 with rfl | j0
    · have := vz rfl; omega
    · omega) (by omega)
  have k37 : 30 ≤ sK i ∧ sK i ≤ 37 := by
    have : ∀ i, i < 8 → 30 ≤ sK i ∧ sK i ≤ 37 := by decide
    exact this i hi
  exact ev_rest h0 h1 k37.1 k37.2 (by omega) (by omega) w

/-! ### new moons' days -/
theorem ch_ok {y : Int} (h0 : 1 ≤ y) (h1 : y ≤ 9999) (D : Int) (hD : D ∈ chL (kk y) (lp y) (fy y) (mct (lp y))) : evOK y (29, D) := by
  obtain ⟨i, hi, rfl⟩ := List.getElem_of_mem hD
  obtain ⟨j, d, H, e, -⟩ := chL_at h0 h1 hi
  have e : (chL (kk y) (lp y) (fy y) (mct (lp y)))[i] = hd y j d := by rw [← e]; simp [List.getD, hi]
  rw [e]
  exact ⟨(by decide : (1 : Int) ≤ 29), (by decide : (29 : Int) ≤ 37), j, d, H, rfl, tbl_bare (by unfold bare; omega)⟩
end Go.Proofs.YtegkbjpcgelomaaGreatDoor.Math
end
/- The switch in WholeFeasts' loop, kind by kind. (Printed by gen_wfsw.py.) -/
section
namespace Go.Proofs.YtegkbjpcgelomaaGreatDoor.Walks
open Go Go.RowKit Go.Sort Go.Proofs.YtegkbjpcgelomaaGreatDoor.Base Go.Proofs.YtegkbjpcgelomaaGreatDoor.Plain Go.Proofs.YtegkbjpcgelomaaGreatDoor.Math

def qL : Code → Code | .seq a _ => a | c => c
def qR : Code → Code | .seq _ b => b | c => c
def qB : Code → Code | .block _ c => c | c => c
def qP : Code → Code | .loop c => c | c => c
/-- The switch. -/
def swOf (f : Func) : Code := qR (qL (qR (qR (qR (qR (qR (qB (qL (qR (qP (qB (qR (qL (qR (qR (qR (qR (qR (qR (qR (f.body.getD .skip)))))))))))))))))))))
/-- The answer to each test that is not met. -/
theorem no_of {K a : Int} (h : K ≠ a) : (K == a) = false ∧ ¬ K = a := ⟨beq_eq_false_iff_ne.2 h, h⟩
theorem no3 {K a : Int} (h : K ≠ a) : (K == a) = false ∧ (K != a) = true ∧ ¬ K = a := ⟨beq_eq_false_iff_ne.2 h, by simp [h], h⟩
/-- The switch leaves 'true' in slot 20. -/
def SW (K V A : Int) (b : Nat) (w : World) : Prop := ∀ (x0 x1 x2 x3 x4 x5 x6 x7 x8 x9 x10 x11 x12 x13 x14 x15 x17 x21 x22 x23 x24 x25 x26 x27 x28 x29 x30 x31 x32 x33
    x34 x35 x36 x37 x38 x39 x40 x41 x42 x43 x44 x45 x46 x47 x48 x49 x50 x51 x52 x53 x54 x55 x56 x57 x58 x59 x60 x61 x62 x63
    x64 x65 x66 x67 x68 x69 x70 x71 x72 x73 x74 x75 x76 x77 x78 x79 x80 x81 x82 x83 x84 x85 x86 x87 x88 x89 x90 x91 x92 x93
    x94 x95 x96 x97 x98 x99 x100 x101 x102 x103 x104 x105 x106 x107 x108 x109 x110 x111 x112 x113 x114 x116 x117 x118 x119 x120 x121 x122 x123 x124
    x125 x126 x127 x128 x129 x130 x131 x132 x133 x134 x135 x136 x137 x138 x139 x140 x141 x142 x143 x144 x145 x146 x147 x148 x149 x150 x151 x152 x153 x154
    x155 x156 x157 x158 x159 x160 x161 x162 x163 x164 x165 x166 x167 x168 x169 x170 x171 x172 x173 x174 x175 x176 x177 x178 x179 x180 x181 x182 x183 x184
    x185 x186 x187 x188 x189 x190 x191 x192 x193 x194 x195 x196 x197 x198 x199 x200 x201 x202 x203 x204 x205 x206 x207 x208 x209 x210 x211 x212 x213 x214
    x215 x216 x217 x218 x219 x220 x221 x222 x223 x224 x225 x226 x227 x228 x229 x230 x231 x232 x233 x234 x235 x236 x237 x238 x239 x240 x241 x242 x243 x244
    x245 x246 x247 x248 x249 x250 x251 x252 x253 x254 x255 x256 x257 x258 x259 x260 x261 x262 x263 x264 x265 x266 x267 x268 x269 x270 x271 : Value) (ds : List Deferred) (Q : Exit → Act → World → Prop),
    (∀ (y116 y117 y118 y119 y120 y121 y122 y123 y124 y125 y126 y127 y128 y129 y130 y131 y132 y133 y134 y135 y136 y137 y138 y139 y140 y141 y142 y143 y144 y145
    y146 y147 y148 y149 y150 y151 y152 y153 y154 y155 y156 y157 y158 y159 y160 y161 y162 y163 y164 y165 y166 y167 y168 y169 y170 y171 y172 y173 y174 y175
    y176 y177 y178 y179 y180 y181 y182 y183 y184 y185 y186 y187 y188 y189 y190 y191 y192 y193 y194 y195 y196 y197 y198 y199 y200 y201 y202 y203 y204 y205
    y206 y207 y208 y209 y210 y211 y212 y213 y214 y215 y216 y217 y218 y219 y220 y221 y222 y223 y224 y225 y226 y227 y228 y229 y230 y231 y232 y233 y234 y235
    y236 y237 y238 y239 y240 y241 y242 y243 y244 y245 y246 y247 y248 y249 y250 y251 y252 y253 y254 y255 y256 y257 y258 y259 y260 y261 y262 y263 y264 y265
    y266 y267 y268 : Value), Q .normal { tmps := #[x0, x1, x2, x3, x4, x5, x6, x7, x8, x9, x10, x11, x12, x13, x14, x15, .pointer (some ⟨b, 0, none⟩), x17, .int .i64 V, .int .i64 A, .bool true, x21, x22, x23, x24, x25, x26, x27, x28, x29, x30, x31, x32, x33, x34, x35, x36, x37, x38, x39, x40, x41, x42, x43, x44, x45, x46, x47, x48, x49, x50, x51, x52, x53, x54, x55, x56, x57, x58, x59, x60, x61, x62, x63, x64, x65, x66, x67, x68, x69, x70, x71, x72, x73, x74, x75, x76, x77, x78, x79, x80, x81, x82, x83, x84, x85, x86, x87, x88, x89, x90, x91, x92, x93, x94, x95, x96, x97, x98, x99, x100, x101, x102, x103, x104, x105, x106, x107, x108, x109, x110, x111, x112, x113, x114, .int .i64 K, y116, y117, y118, y119, y120, y121, y122, y123, y124, y125, y126, y127, y128, y129, y130, y131, y132, y133, y134, y135, y136, y137, y138, y139, y140, y141, y142, y143, y144, y145, y146, y147, y148, y149, y150, y151, y152, y153, y154, y155, y156, y157, y158, y159, y160, y161, y162, y163, y164, y165, y166, y167, y168, y169, y170, y171, y172, y173, y174, y175, y176, y177, y178, y179, y180, y181, y182, y183, y184, y185, y186, y187, y188, y189, y190, y191, y192, y193, y194, y195, y196, y197, y198, y199, y200, y201, y202, y203, y204, y205, y206, y207, y208, y209, y210, y211, y212, y213, y214, y215, y216, y217, y218, y219, y220, y221, y222, y223, y224, y225, y226, y227, y228, y229, y230, y231, y232, y233, y234, y235, y236, y237, y238, y239, y240, y241, y242, y243, y244, y245, y246, y247, y248, y249, y250, y251, y252, y253, y254, y255, y256, y257, y258, y259, y260, y261, y262, y263, y264, y265, y266, y267, y268, x269, x270, x271], defers := ds } w) →
    (swOf Tryz.f8).wp Tryq.prog Q { tmps := #[x0, x1, x2, x3, x4, x5, x6, x7, x8, x9, x10, x11, x12, x13, x14, x15, .pointer (some ⟨b, 0, none⟩), x17, .int .i64 V, .int .i64 A, .bool true, x21, x22, x23, x24, x25, x26, x27, x28, x29, x30, x31, x32, x33, x34, x35, x36, x37, x38, x39, x40, x41, x42, x43, x44, x45, x46, x47, x48, x49, x50, x51, x52, x53, x54, x55, x56, x57, x58, x59, x60, x61, x62, x63, x64, x65, x66, x67, x68, x69, x70, x71, x72, x73, x74, x75, x76, x77, x78, x79, x80, x81, x82, x83, x84, x85, x86, x87, x88, x89, x90, x91, x92, x93, x94, x95, x96, x97, x98, x99, x100, x101, x102, x103, x104, x105, x106, x107, x108, x109, x110, x111, x112, x113, x114, .int .i64 K, x116, x117, x118, x119, x120, x121, x122, x123, x124, x125, x126, x127, x128, x129, x130, x131, x132, x133, x134, x135, x136, x137, x138, x139, x140, x141, x142, x143, x144, x145, x146, x147, x148, x149, x150, x151, x152, x153, x154, x155, x156, x157, x158, x159, x160, x161, x162, x163, x164, x165, x166, x167, x168, x169, x170, x171, x172, x173, x174, x175, x176, x177, x178, x179, x180, x181, x182, x183, x184, x185, x186, x187, x188, x189, x190, x191, x192, x193, x194, x195, x196, x197, x198, x199, x200, x201, x202, x203, x204, x205, x206, x207, x208, x209, x210, x211, x212, x213, x214, x215, x216, x217, x218, x219, x220, x221, x222, x223, x224, x225, x226, x227, x228, x229, x230, x231, x232, x233, x234, x235, x236, x237, x238, x239, x240, x241, x242, x243, x244, x245, x246, x247, x248, x249, x250, x251, x252, x253, x254, x255, x256, x257, x258, x259, x260, x261, x262, x263, x264, x265, x266, x267, x268, x269, x270, x271], defers := ds } w
set_option maxRecDepth 20000 in
set_option maxHeartbeats 4000000 in
theorem sw_2a (V A : Int) (b : Nat) (w : World) (h : V ≠ 6) : SW 2 V 103 b w := by
  obtain ⟨z1, z2, z3⟩ := no3 h
  unfold SW
  intros
  rename_i hK
  dsimp only [swOf, qL, qR, qB, qP, Tryz.f8, Option.getD]
  go_wp2
  apply hK
set_option maxRecDepth 20000 in
set_option maxHeartbeats 4000000 in
theorem sw_2b (V A : Int) (b : Nat) (w : World) : SW 2 0 104 b w := by
  unfold SW
  intros
  rename_i hK
  dsimp only [swOf, qL, qR, qB, qP, Tryz.f8, Option.getD]
  go_wp2
  apply hK
set_option maxRecDepth 20000 in
set_option maxHeartbeats 4000000 in
theorem sw_3 (V A : Int) (b : Nat) (w : World) : SW 3 V 110 b w := by
  unfold SW
  intros
  rename_i hK
  dsimp only [swOf, qL, qR, qB, qP, Tryz.f8, Option.getD]
  go_wp2
  apply hK
set_option maxRecDepth 20000 in
set_option maxHeartbeats 4000000 in
theorem sw_10 (V A : Int) (b : Nat) (w : World) (h : V ≠ 6) : SW 10 V 410 b w := by
  obtain ⟨z1, z2, z3⟩ := no3 h
  unfold SW
  intros
  rename_i hK
  dsimp only [swOf, qL, qR, qB, qP, Tryz.f8, Option.getD]
  go_wp2
  apply hK
set_option maxRecDepth 20000 in
set_option maxHeartbeats 4000000 in
theorem sw_13a (V A : Int) (b : Nat) (w : World) (h : V ≠ 6) (b1 : w.cell? ⟨b, 1, none⟩ = some (.int .i64 6)) (b3 : w.cell? ⟨b, 3, none⟩ = some (.int .i64 13)) : SW 13 V A b w := by
  obtain ⟨z1, z2, z3⟩ := no3 h
  unfold SW
  intros
  rename_i hK
  dsimp only [swOf, qL, qR, qB, qP, Tryz.f8, Option.getD]
  go_wp2
  apply hK
set_option maxRecDepth 20000 in
set_option maxHeartbeats 4000000 in
theorem sw_13b (V A : Int) (b : Nat) (w : World) (b1 : w.cell? ⟨b, 1, none⟩ = some (.int .i64 6)) (b3 : w.cell? ⟨b, 3, none⟩ = some (.int .i64 11)) : SW 13 4 A b w := by
  unfold SW
  intros
  rename_i hK
  dsimp only [swOf, qL, qR, qB, qP, Tryz.f8, Option.getD]
  go_wp2
  apply hK
set_option maxRecDepth 20000 in
set_option maxHeartbeats 4000000 in
theorem sw_14 (V A : Int) (b : Nat) (w : World) (b2 : w.cell? ⟨b, 2, none⟩ = some (.bool false)) : SW 14 V 614 b w := by
  unfold SW
  intros
  rename_i hK
  dsimp only [swOf, qL, qR, qB, qP, Tryz.f8, Option.getD]
  go_wp2
  apply hK
set_option maxRecDepth 20000 in
set_option maxHeartbeats 4000000 in
theorem sw_16a (V A : Int) (b : Nat) (w : World) (h : V ≠ 6) : SW 16 V 714 b w := by
  obtain ⟨z1, z2, z3⟩ := no3 h
  unfold SW
  intros
  rename_i hK
  dsimp only [swOf, qL, qR, qB, qP, Tryz.f8, Option.getD]
  go_wp2
  apply hK
set_option maxRecDepth 20000 in
set_option maxHeartbeats 4000000 in
theorem sw_16b (V A : Int) (b : Nat) (w : World) : SW 16 4 712 b w := by
  unfold SW
  intros
  rename_i hK
  dsimp only [swOf, qL, qR, qB, qP, Tryz.f8, Option.getD]
  go_wp2
  apply hK
set_option maxRecDepth 20000 in
set_option maxHeartbeats 4000000 in
theorem sw_26a (V A : Int) (b : Nat) (w : World) (h : V ≠ 6) : SW 26 V 1017 b w := by
  obtain ⟨z1, z2, z3⟩ := no3 h
  unfold SW
  intros
  rename_i hK
  dsimp only [swOf, qL, qR, qB, qP, Tryz.f8, Option.getD]
  go_wp2
  apply hK
set_option maxRecDepth 20000 in
set_option maxHeartbeats 4000000 in
theorem sw_26b (V A : Int) (b : Nat) (w : World) : SW 26 0 1018 b w := by
  unfold SW
  intros
  rename_i hK
  dsimp only [swOf, qL, qR, qB, qP, Tryz.f8, Option.getD]
  go_wp2
  apply hK
set_option maxRecDepth 20000 in
set_option maxHeartbeats 4000000 in
theorem sw_27a (V A : Int) (b : Nat) (w : World) (h : V ≠ 6) : SW 27 V 1109 b w := by
  obtain ⟨z1, z2, z3⟩ := no3 h
  unfold SW
  intros
  rename_i hK
  dsimp only [swOf, qL, qR, qB, qP, Tryz.f8, Option.getD]
  go_wp2
  apply hK
set_option maxRecDepth 20000 in
set_option maxHeartbeats 4000000 in
theorem sw_27b (V A : Int) (b : Nat) (w : World) : SW 27 0 1110 b w := by
  unfold SW
  intros
  rename_i hK
  dsimp only [swOf, qL, qR, qB, qP, Tryz.f8, Option.getD]
  go_wp2
  apply hK
set_option maxRecDepth 20000 in
set_option maxHeartbeats 4000000 in
theorem sw_21a (V A : Int) (b : Nat) (w : World) : SW 21 3 805 b w := by
  unfold SW
  intros
  rename_i hK
  dsimp only [swOf, qL, qR, qB, qP, Tryz.f8, Option.getD]
  go_wp2
  apply hK
set_option maxRecDepth 20000 in
set_option maxHeartbeats 4000000 in
theorem sw_21b (V A : Int) (b : Nat) (w : World) : SW 21 4 804 b w := by
  unfold SW
  intros
  rename_i hK
  dsimp only [swOf, qL, qR, qB, qP, Tryz.f8, Option.getD]
  go_wp2
  apply hK
set_option maxRecDepth 20000 in
set_option maxHeartbeats 4000000 in
theorem sw_21c (V A : Int) (b : Nat) (w : World) : SW 21 4 803 b w := by
  unfold SW
  intros
  rename_i hK
  dsimp only [swOf, qL, qR, qB, qP, Tryz.f8, Option.getD]
  go_wp2
  apply hK
set_option maxRecDepth 20000 in
set_option maxHeartbeats 4000000 in
theorem sw_21d (V A : Int) (b : Nat) (w : World) : SW 21 2 806 b w := by
  unfold SW
  intros
  rename_i hK
  dsimp only [swOf, qL, qR, qB, qP, Tryz.f8, Option.getD]
  go_wp2
  apply hK
set_option maxRecDepth 20000 in
set_option maxHeartbeats 4000000 in
theorem sw_30 (V A : Int) (b : Nat) (w : World) : SW 30 6 A b w := by
  unfold SW
  intros
  rename_i hK
  dsimp only [swOf, qL, qR, qB, qP, Tryz.f8, Option.getD]
  go_wp2
  apply hK
set_option maxRecDepth 20000 in
set_option maxHeartbeats 4000000 in
theorem sw_31 (V A : Int) (b : Nat) (w : World) : SW 31 6 A b w := by
  unfold SW
  intros
  rename_i hK
  dsimp only [swOf, qL, qR, qB, qP, Tryz.f8, Option.getD]
  go_wp2
  apply hK
set_option maxRecDepth 20000 in
set_option maxHeartbeats 4000000 in
theorem sw_32 (V A : Int) (b : Nat) (w : World) : SW 32 6 A b w := by
  unfold SW
  intros
  rename_i hK
  dsimp only [swOf, qL, qR, qB, qP, Tryz.f8, Option.getD]
  go_wp2
  apply hK
set_option maxRecDepth 20000 in
set_option maxHeartbeats 4000000 in
theorem sw_33 (V A : Int) (b : Nat) (w : World) : SW 33 6 A b w := by
  unfold SW
  intros
  rename_i hK
  dsimp only [swOf, qL, qR, qB, qP, Tryz.f8, Option.getD]
  go_wp2
  apply hK
set_option maxRecDepth 20000 in
set_option maxHeartbeats 4000000 in
theorem sw_34 (V A : Int) (b : Nat) (w : World) : SW 34 6 A b w := by
  unfold SW
  intros
  rename_i hK
  dsimp only [swOf, qL, qR, qB, qP, Tryz.f8, Option.getD]
  go_wp2
  apply hK
set_option maxRecDepth 20000 in
set_option maxHeartbeats 4000000 in
theorem sw_35 (V A : Int) (b : Nat) (w : World) : SW 35 6 A b w := by
  unfold SW
  intros
  rename_i hK
  dsimp only [swOf, qL, qR, qB, qP, Tryz.f8, Option.getD]
  go_wp2
  apply hK
set_option maxRecDepth 20000 in
set_option maxHeartbeats 4000000 in
theorem sw_36 (V A : Int) (b : Nat) (w : World) : SW 36 6 A b w := by
  unfold SW
  intros
  rename_i hK
  dsimp only [swOf, qL, qR, qB, qP, Tryz.f8, Option.getD]
  go_wp2
  apply hK
set_option maxRecDepth 20000 in
set_option maxHeartbeats 4000000 in
theorem sw_37 (V A : Int) (b : Nat) (w : World) : SW 37 6 A b w := by
  unfold SW
  intros
  rename_i hK
  dsimp only [swOf, qL, qR, qB, qP, Tryz.f8, Option.getD]
  go_wp2
  apply hK
set_option maxRecDepth 20000 in
set_option maxHeartbeats 4000000 in
theorem sw_bare (K V A : Int) (b : Nat) (w : World) (h2 : K ≠ 2) (h3 : K ≠ 3) (h10 : K ≠ 10) (h13 : K ≠ 13) (h14 : K ≠ 14) (h16 : K ≠ 16) (h26 : K ≠ 26) (h27 : K ≠ 27) (h21 : K ≠ 21) (h30 : K ≠ 30) (h31 : K ≠ 31) (h32 : K ≠ 32) (h33 : K ≠ 33) (h34 : K ≠ 34) (h35 : K ≠ 35) (h36 : K ≠ 36) (h37 : K ≠ 37) : SW K V A b w := by
  obtain ⟨q2, r2⟩ := no_of h2
  obtain ⟨q3, r3⟩ := no_of h3
  obtain ⟨q10, r10⟩ := no_of h10
  obtain ⟨q13, r13⟩ := no_of h13
  obtain ⟨q14, r14⟩ := no_of h14
  obtain ⟨q16, r16⟩ := no_of h16
  obtain ⟨q26, r26⟩ := no_of h26
  obtain ⟨q27, r27⟩ := no_of h27
  obtain ⟨q21, r21⟩ := no_of h21
  obtain ⟨q30, r30⟩ := no_of h30
  obtain ⟨q31, r31⟩ := no_of h31
  obtain ⟨q32, r32⟩ := no_of h32
  obtain ⟨q33, r33⟩ := no_of h33
  obtain ⟨q34, r34⟩ := no_of h34
  obtain ⟨q35, r35⟩ := no_of h35
  obtain ⟨q36, r36⟩ := no_of h36
  obtain ⟨q37, r37⟩ := no_of h37
  unfold SW
  intros
  rename_i hK
  dsimp only [swOf, qL, qR, qB, qP, Tryz.f8, Option.getD]
  go_wp2
  apply hK
end Go.Proofs.YtegkbjpcgelomaaGreatDoor.Walks
end
/- WholeFeasts, walked. -/
section
namespace Go.Proofs.YtegkbjpcgelomaaGreatDoor.Walks
open Go Go.RowKit Go.Sort Go.Proofs.YtegkbjpcgelomaaGreatDoor.Base Go.Proofs.YtegkbjpcgelomaaGreatDoor.Plain Go.Proofs.YtegkbjpcgelomaaGreatDoor.Math

theorem all_ok {y p : Int} (h0 : 1 ≤ y) (h1 : y ≤ 9999) (e : Int × Int) (he : e ∈ allE y p) : evOK y e := by
  unfold allE at he
  simp only [List.mem_append] at he
  rcases he with ((he | he) | he) | he
  · exact evs_ok h0 h1 e he
  · exact xep_ok h0 h1 e he
  · unfold chE at he
    obtain ⟨D, hD, rfl⟩ := List.mem_map.1 he
    exact ch_ok h0 h1 D hD
  · exact sep_ok h0 h1 e he
theorem sw_all {K V N d : Int} {c : Bool} {b : Nat} {w : World} (tb : tbl K N d c V) (b1 : w.cell? ⟨b, 1, none⟩ = some (.int .i64 N)) (b2 : w.cell? ⟨b, 2, none⟩ = some (.bool c)) (b3 : w.cell? ⟨b, 3, none⟩ = some (.int .i64 d)) (K37 : K ≤ 37) : SW K V (100 * N + d) b w := by
  obtain ⟨t2, t3, t10, t13, t14, t16, t26, t27, t21, t30⟩ := tb
  by_cases e2 : K = 2
  · subst e2
    rcases t2 rfl with ⟨rfl, rfl, h⟩ | ⟨rfl, rfl, rfl⟩
    · rw [show (100 * 1 + 3 : Int) = 103 from by decide]; exact sw_2a V 0 b w h
    · rw [show (100 * 1 + 4 : Int) = 104 from by decide]; exact sw_2b 0 0 b w
  by_cases e3 : K = 3
  · subst e3
    obtain ⟨rfl, rfl⟩ := t3 rfl
    rw [show (100 * 1 + 10 : Int) = 110 from by decide]; exact sw_3 V 0 b w
  by_cases e10 : K = 10
  · subst e10
    obtain ⟨rfl, rfl, h⟩ := t10 rfl
    rw [show (100 * 4 + 10 : Int) = 410 from by decide]; exact sw_10 V 0 b w h
  by_cases e13 : K = 13
  · subst e13
    rcases t13 rfl with ⟨rfl, rfl, h⟩ | ⟨rfl, rfl, rfl⟩
    · exact sw_13a V _ b w h b1 b3
    · exact sw_13b 0 _ b w b1 b3
  by_cases e14 : K = 14
  · subst e14
    obtain ⟨rfl, rfl, rfl⟩ := t14 rfl
    rw [show (100 * 6 + 14 : Int) = 614 from by decide]; exact sw_14 V 0 b w b2
  by_cases e16 : K = 16
  · subst e16
    rcases t16 rfl with ⟨rfl, rfl, h⟩ | ⟨rfl, rfl, rfl⟩
    · rw [show (100 * 7 + 14 : Int) = 714 from by decide]; exact sw_16a V 0 b w h
    · rw [show (100 * 7 + 12 : Int) = 712 from by decide]; exact sw_16b 0 0 b w
  by_cases e26 : K = 26
  · subst e26
    rcases t26 rfl with ⟨rfl, rfl, h⟩ | ⟨rfl, rfl, rfl⟩
    · rw [show (100 * 10 + 17 : Int) = 1017 from by decide]; exact sw_26a V 0 b w h
    · rw [show (100 * 10 + 18 : Int) = 1018 from by decide]; exact sw_26b 0 0 b w
  by_cases e27 : K = 27
  · subst e27
    rcases t27 rfl with ⟨rfl, rfl, h⟩ | ⟨rfl, rfl, rfl⟩
    · rw [show (100 * 11 + 9 : Int) = 1109 from by decide]; exact sw_27a V 0 b w h
    · rw [show (100 * 11 + 10 : Int) = 1110 from by decide]; exact sw_27b 0 0 b w
  by_cases e21 : K = 21
  · subst e21
    rcases t21 rfl with ⟨rfl, rfl, rfl⟩ | ⟨rfl, rfl, rfl⟩ | ⟨rfl, rfl, rfl⟩ | ⟨rfl, rfl, rfl⟩
    · rw [show (100 * 8 + 5 : Int) = 805 from by decide]; exact sw_21a 0 0 b w
    · rw [show (100 * 8 + 4 : Int) = 804 from by decide]; exact sw_21b 0 0 b w
    · rw [show (100 * 8 + 3 : Int) = 803 from by decide]; exact sw_21c 0 0 b w
    · rw [show (100 * 8 + 6 : Int) = 806 from by decide]; exact sw_21d 0 0 b w
  by_cases e30 : 30 ≤ K
  · obtain rfl := t30 e30
    have ks : K = 30 ∨ K = 31 ∨ K = 32 ∨ K = 33 ∨ K = 34 ∨ K = 35 ∨ K = 36 ∨ K = 37 := by omega
    rcases ks with rfl | rfl | rfl | rfl | rfl | rfl | rfl | rfl
    · exact sw_30 0 _ b w
    · exact sw_31 0 _ b w
    · exact sw_32 0 _ b w
    · exact sw_33 0 _ b w
    · exact sw_34 0 _ b w
    · exact sw_35 0 _ b w
    · exact sw_36 0 _ b w
    · exact sw_37 0 _ b w
  · exact sw_bare K V _ b w e2 e3 e10 e13 e14 e16 e26 e27 e21 (by omega) (by omega) (by omega) (by omega) (by omega) (by omega) (by omega) (by omega)

set_option maxRecDepth 20000 in
set_option maxHeartbeats 16000000 in
theorem feasts_core (y y0 p0 : Int) (L La Lb Lc : List (Int × Int)) (w : World) (y00 : 0 ≤ y0) (y01 : y0 ≤ 65535) (p00 : 0 ≤ p0) (p01 : p0 ≤ 255) (h0 : 1 ≤ y) (h1 : y ≤ 9999)
    (hl : La.length + Lb.length + Lc.length ≤ L.length) (hp : 0 < L.length) (hm : L.length ≤ 300) (hok : ∀ e, e ∈ L → evOK y e)
    (c1 : ∀ W, Calls Tryq.prog 13 #[.int .u16 y0] W fun e w' => e = .returned (.int .i64 y) ∧ Gr W w')
    (c2 : ∀ W, Gr w W → Calls Tryq.prog 30 #[.int .i64 y, .int .i64 (p0 % 2)] W (OfO W L))
    (c3 : ∀ W, Gr w W → Calls Tryq.prog 31 #[.int .i64 y, .int .i64 (p0 % 2)] W (OfO W La))
    (c4 : ∀ W, Gr w W → Calls Tryq.prog 32 #[.int .i64 y] W (OfO W Lb))
    (c5 : ∀ W, Gr w W → Calls Tryq.prog 33 #[.int .i64 y] W (OfO W Lc))
    (c6 : ∀ W j d n, Gr w W → HV y j d → hd y j d = n → Calls Tryq.prog 22 #[.int .i64 n] W fun e w' => e = .returned (.tuple #[.agg #[.int .i64 y, .int .i64 (cN (lp y) j), .bool (cL (lp y) j), .int .i64 d], .int .i64 0]) ∧ Gr W w')
    (c7 : ∀ W n, -2000000 ≤ n → n ≤ 3000000 → Calls Tryq.prog 34 #[.int .i64 n] W fun e w' => e = .returned (.int .i64 (n % 7)) ∧ Gr W w')
    (c8 : ∀ W, Gr w W → Calls Tryq.prog 11 #[] W fun e w' => e = .returned (.bool true) ∧ Gr W w') :
    Calls Tryq.prog 8 #[.int .u16 y0, .int .u8 p0] w fun e w' => e = .returned (.bool true) ∧ Gr w w' := by
  have C1 := Lib.hid c1
  have C2 := Lib.hid c2
  have C3 := Lib.hid c3
  have C4 := Lib.hid c4
  have C5 := Lib.hid c5
  have C6 := Lib.hid c6
  have C7 := Lib.hid c7
  have C8 := Lib.hid c8
  have HOK := Lib.hid hok
  clear c1 c2 c3 c4 c5 c6 c7 c8 hok
  have q1 : (La.length : Int) + (Lb.length : Int) + (Lc.length : Int) ≤ (L.length : Int) := by omega
  have q2 : (L.length : Int) ≤ 300 := by omega
  have q3 : IntKind.i64.wrap ((La.length : Int) + (Lb.length : Int)) = (La.length : Int) + (Lb.length : Int) := by rw [IntKind.wrap_i64]; omega
  have q4 : IntKind.i64.wrap ((La.length : Int) + (Lb.length : Int) + (Lc.length : Int)) = (La.length : Int) + (Lb.length : Int) + (Lc.length : Int) := by rw [IntKind.wrap_i64]; omega
  have q5 : decide ((L.length : Int) < (La.length : Int) + (Lb.length : Int) + (Lc.length : Int)) = false := decide_eq_false (by omega)
  have q6 : ¬ (L.length : Int) < (La.length : Int) + (Lb.length : Int) + (Lc.length : Int) := by omega
  go_enter Tryq.func8, Tryq.ntmps8
  go_wp2_with (first
    | ((go_at_call 13; (with_reducible refine (C1.out _).mono ?_); rintro e wY ⟨rfl, hgwY⟩); have GY : Gr w wY := hgwY; clear hgwY)
    | (go_at_call 30; refine (C2.out _ ((by repeat (first | exact Gr.refl _ | refine Gr.setCell ?_ _ _ (by first | exact Nat.le_refl _ | (simp; omega) | (simp; done)) | refine Gr.grown ?_ _ _ | refine Gr.drewN ?_ _ | refine Gr.drew ?_ | refine Gr.alloc ?_ _ | refine Gr.grow ?_ _ | (refine Gr.trans ?_ (by assumption)))))).mono ?_; rintro e1 wA ⟨gE, capE, M, rfl, hP, hO, hgA⟩; have hML := hP.length_eq; have hE := evs_of hO (by omega) rfl; have GA : Gr w wA := GY.trans hgA; clear hO hgA GY)
    | (go_at_call 31; refine (C3.out _ ((by repeat (first | exact Gr.refl _ | refine Gr.setCell ?_ _ _ (by first | exact Nat.le_refl _ | (simp; omega) | (simp; done)) | refine Gr.grown ?_ _ _ | refine Gr.drewN ?_ _ | refine Gr.drew ?_ | refine Gr.alloc ?_ _ | refine Gr.grow ?_ _ | (refine Gr.trans ?_ (by assumption)))))).mono ?_; rintro e2 wB ⟨g1, cap1, M1, rfl, hP1, hO1, hgB⟩; have l1 := hP1.length_eq; have EB := hE.gr hgB; have GB : Gr w wB := GA.trans hgB; clear hP1 hO1 hE hgB GA)
    | (go_at_call 32; refine (C4.out _ ((by repeat (first | exact Gr.refl _ | refine Gr.setCell ?_ _ _ (by first | exact Nat.le_refl _ | (simp; omega) | (simp; done)) | refine Gr.grown ?_ _ _ | refine Gr.drewN ?_ _ | refine Gr.drew ?_ | refine Gr.alloc ?_ _ | refine Gr.grow ?_ _ | (refine Gr.trans ?_ (by assumption)))))).mono ?_; rintro e3 wC ⟨g2, cap2, M2, rfl, hP2, hO2, hgC⟩; have l2 := hP2.length_eq; have EC := EB.gr hgC; have GC : Gr w wC := GB.trans hgC; clear hP2 hO2 EB hgC GB)
    | (go_at_call 33; fail))
  go_at_call 33
  refine (C5.out _ ((by repeat (first | exact Gr.refl _ | refine Gr.setCell ?_ _ _ (by first | exact Nat.le_refl _ | (simp; omega) | (simp; done)) | refine Gr.grown ?_ _ _ | refine Gr.drewN ?_ _ | refine Gr.drew ?_ | refine Gr.alloc ?_ _ | refine Gr.grow ?_ _ | (refine Gr.trans ?_ (by assumption)))))).mono ?_
  rintro e4 wD ⟨g3, cap3, M3, rfl, hP3, hO3, hgD⟩
  have l3 := hP3.length_eq
  have ED := EC.gr hgD
  have GD : Gr w wD := GC.trans hgD
  clear hP3 hO3 EC hgD GC
  trace_state
  go_wp2
  have hPm : ∀ e, e ∈ M → e ∈ L := fun e he => hP.mem_iff.1 he
  have HML := Lib.hid hML
  clear hP hML l1 l2 l3 q1 q3 q4 q5 q6 C1 C2 C3 C4 C5
  go_loopg [15] L.length (fun kx s15 wr => ∃ i : Nat, i ≤ L.length ∧ L.length - i ≤ kx ∧ s15 = .int .i64 (i : Int) ∧ Evs wr gE M ∧ Gr w wr)
  case atStart => exact ⟨0, by omega, by omega, rfl, ED, GD⟩
  case round =>
    obtain ⟨i, hi, hm', rfl, hE, hg⟩ := hrel
    clear ED GD
    by_cases ei : i < L.length
    · have ei' : (i : Int) < (L.length : Int) := by omega
      obtain ⟨x, hx⟩ : ∃ x, M[i]? = some x := ⟨_, List.getElem?_eq_getElem (by rw [HML.out]; exact ei)⟩
      obtain ⟨k0, k1⟩ := hE.c i x hx
      rw [Nat.mul_comm] at k0 k1
      obtain ⟨K0, K37, j, d, hv, hD, tb⟩ := HOK.out x (hPm x (List.mem_of_getElem? hx))
      obtain ⟨K, D⟩ := x
      simp only at k0 k1 K0 K37 hD tb
      have C6i := Lib.hid fun W (hW : Gr w W) => C6.out W j d D hW hv hD
      have rD := hd_range hv
      rw [hD] at rD
      have C7i := Lib.hid fun W => C7.out W D (by omega) (by omega)
      obtain ⟨N0, N1⟩ := cN_range (lp y) hv.j1
      have d0 := hv.d0
      have d1 : d ≤ 30 := by have := hv.d1; have := mlen_range (kk y) (lp y) j; omega
      obtain ⟨V, hV⟩ : ∃ V, D % 7 = V := ⟨_, rfl⟩
      rw [hV] at tb C7i
      clear hV hD hv rD HOK hPm C6 C7
      generalize cN (lp y) j = N at *
      generalize cL (lp y) j = c at *
      have w0 : IntKind.i64.wrap (100 * N) = 100 * N := by rw [IntKind.wrap_i64]; omega
      have w1 : IntKind.i64.wrap (100 * N + d) = 100 * N + d := by rw [IntKind.wrap_i64]; omega
      go_upto_block 2 with (first | ((go_at_call 22; (with_reducible refine (C6i.out _ ((by repeat (first | exact Gr.refl _ | refine Gr.setCell ?_ _ _ (by first | exact Nat.le_refl _ | (simp; omega) | (simp; done)) | refine Gr.grown ?_ _ _ | refine Gr.drewN ?_ _ | refine Gr.drew ?_ | refine Gr.alloc ?_ _ | refine Gr.grow ?_ _ | (refine Gr.trans ?_ (by assumption)))))).mono ?_); rintro e wF ⟨rfl, hgwF⟩); have D4F := D4.at (w := wF) rfl y N d c; have GF : Gr w wF := hg.trans hgwF; have EF := hE.gr hgwF; have lE := EF.lt; obtain ⟨k0, k1⟩ := EF.c i _ hx; rw [Nat.mul_comm] at k0 k1; clear hgwF hE hg) | ((go_at_call 34; (with_reducible refine (C7i.out _).mono ?_); rintro e wW ⟨rfl, hgwW⟩); have D4W := D4F.gr hgwW; have GW : Gr w wW := (by repeat (first | exact Gr.refl _ | refine Gr.setCell ?_ _ _ (by first | exact Nat.le_refl _ | (simp; omega) | (simp; done)) | refine Gr.grown ?_ _ _ | refine Gr.drewN ?_ _ | refine Gr.drew ?_ | refine Gr.alloc ?_ _ | refine Gr.grow ?_ _ | (refine Gr.trans ?_ (by assumption)))); have EW := (EF.gr ((Gr.refl _).alloc _)).gr hgwW; obtain ⟨lt, b0, b1, b2, b3, f0, f1, f2, f3⟩ := D4W; obtain ⟨k0, k1⟩ := EW.c i _ hx; rw [Nat.mul_comm] at k0 k1; clear D4F EF GF hgwW))
      go_cut [18, 19, 20, 115] (fun s18 s19 s20 s115 wx => s20 = .bool true ∧ wx = wW)
      case rest =>
        obtain ⟨rfl, rfl⟩ := hcut
        clear tb
        go_wp2
        go_roundg (L.length - (i + 1))
        case measure => omega
        case rel => exact ⟨i + 1, by omega, Nat.le_refl _, by go_num, EW, GW⟩
      case first =>
        clear EW GW k0 k1 C6i C7i C8 HML hx
        refine sw_all tb b1 b2 b3 K37 _ _ _ _ _ _ _ _ _ _ _ _ _ _ _ _ _ _ _ _ _ _ _ _ _ _ _ _ _ _ _ _ _ _ _ _ _ _ _ _ _ _ _ _ _ _ _ _ _ _ _ _ _ _ _ _ _ _ _ _ _ _ _ _ _ _ _ _ _ _ _ _ _ _ _ _ _ _ _ _ _ _ _ _ _ _ _ _ _ _ _ _ _ _ _ _ _ _ _ _ _ _ _ _ _ _ _ _ _ _ _ _ _ _ _ _ _ _ _ _ _ _ _ _ _ _ _ _ _ _ _ _ _ _ _ _ _ _ _ _ _ _ _ _ _ _ _ _ _ _ _ _ _ _ _ _ _ _ _ _ _ _ _ _ _ _ _ _ _ _ _ _ _ _ _ _ _ _ _ _ _ _ _ _ _ _ _ _ _ _ _ _ _ _ _ _ _ _ _ _ _ _ _ _ _ _ _ _ _ _ _ _ _ _ _ _ _ _ _ _ _ _ _ _ _ _ _ _ _ _ _ _ _ _ _ _ _ _ _ _ _ _ _ _ _ _ _ _ _ _ _ _ _ _ _ _ _ _ _ _ _ _ _ _ _ _ _ _ _ ?_
        intros
        dsimp only
        go_wp2
        go_meet
        case rel => exact ⟨rfl, rfl⟩
    · obtain rfl : i = L.length := by omega
      go_wp2_with (first | (go_at_call 11; (with_reducible refine (C8.out _ ((by repeat (first | exact Gr.refl _ | refine Gr.setCell ?_ _ _ (by first | exact Nat.le_refl _ | (simp; omega) | (simp; done)) | refine Gr.grown ?_ _ _ | refine Gr.drewN ?_ _ | refine Gr.drew ?_ | refine Gr.alloc ?_ _ | refine Gr.grow ?_ _ | (refine Gr.trans ?_ (by assumption)))))).mono ?_); rintro e wZ ⟨rfl, hgwZ⟩))
      go_ret
      exact ⟨rfl, (by repeat (first | exact Gr.refl _ | refine Gr.setCell ?_ _ _ (by first | exact Nat.le_refl _ | (simp; omega) | (simp; done)) | refine Gr.grown ?_ _ _ | refine Gr.drewN ?_ _ | refine Gr.drew ?_ | refine Gr.alloc ?_ _ | refine Gr.grow ?_ _ | (refine Gr.trans ?_ (by assumption))))⟩
theorem wholeFeasts_t (y p0 : Int) (w : World) (G : GT w) (p : PT w) (w0 : (Lit.int .u16 y).wf = true) (w1 : (Lit.int .u8 p0).wf = true) : Calls Tryq.prog 8 #[.int .u16 y, .int .u8 p0] w fun e w' => e = .returned (.bool true) ∧ Gr w w' := by
  have b1 : 0 ≤ p0 ∧ p0 ≤ 255 := by
    have e0 : IntKind.u8.min = 0 := rfl
    have e1 : IntKind.u8.max = 255 := rfl
    simpa only [Lit.wf, e0, e1, Bool.and_eq_true, decide_eq_true_eq] using w1
  have b0 := u16_of w0
  have h0 : 1 ≤ 1 + y % 9999 := by omega
  have h1 : 1 + y % 9999 ≤ 9999 := by omega
  have hp : p0 % 2 = 0 ∨ p0 % 2 = 1 := by omega
  have lc := chE_len h0 h1
  have lx := xep_pos (1 + y % 9999)
  have la : (allE (1 + y % 9999) (p0 % 2)).length = (evs (1 + y % 9999) (p0 % 2)).length + (xep (1 + y % 9999) 9).length + (chE (1 + y % 9999)).length + (sep (1 + y % 9999) 8).length := by
    unfold allE; simp only [List.length_append]
  have lm : (allE (1 + y % 9999) (p0 % 2)).length ≤ 300 := prE_len h0 h1 3
  exact feasts_core (1 + y % 9999) y p0 (allE (1 + y % 9999) (p0 % 2)) (evs (1 + y % 9999) (p0 % 2)) (xep (1 + y % 9999) 9) (sep (1 + y % 9999) 8) w b0.1 b0.2 b1.1 b1.2 h0 h1 (by omega) (by omega) lm (fun e he => all_ok h0 h1 e he)
    (fun W => topyear_c y W b0.1 b0.2) (fun W hW => dayev_c _ _ W (G.gr hW) h0 h1 hp) (fun W hW => feofO_c _ _ W (G.gr hW) h0 h1 hp) (fun W hW => fastof_c _ W (G.gr hW) h0 h1) (fun W hW => specof_c _ W (G.gr hW) h0 h1)
    (fun W j d n hW hv hn => hfrom_in _ j d n W (G.gr hW) hv hn) (fun W n n0 n1 => rwd_c n W (by omega) (by omega)) (fun W hW => awake_c W (G.gr hW) (p.gr hW))
end Go.Proofs.YtegkbjpcgelomaaGreatDoor.Walks
end
