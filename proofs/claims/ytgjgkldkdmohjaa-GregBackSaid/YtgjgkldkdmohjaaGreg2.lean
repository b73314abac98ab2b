/- Walks of package greg: dates of days and days of dates. -/
import Derived.Test.YtgjgkldkdmohjaaGreg
import Derived.Test.YtgjgkldkdmohjaaBox
import Derived.WalkLawsBesides
set_option linter.unusedVariables false
set_option linter.unusedSimpArgs false
namespace Go.Proofs.Ytgjgkldkdmohjaa.Walks
open Go Go.RowKit Go.Sort Go.Proofs.Ytgjgkldkdmohjaa.Base Go.Proofs.Ytgjgkldkdmohjaa.Plain Go.Proofs.Ytgjgkldkdmohjaa.Math

set_option maxHeartbeats 4000000 in
theorem gyear_c (n : Int) (w : World) (h0 : -10000000 ≤ n) (h1 : n ≤ 10000000) : Calls Try.prog 20 #[.int .i64 n] w fun e w' => e = .returned (.int .i64 (gyr n)) ∧ Gr w w' := by
  obtain ⟨G, hG⟩ : ∃ G, gyr n = G := ⟨_, rfl⟩
  rw [hG]
  unfold gyr at hG
  simp only at hG
  have r0 : 0 ≤ (n - 1) % 146097 := by omega
  have r1 : (n - 1) % 146097 ≤ 146096 := by omega
  have a0 : -100 ≤ (n - 1) / 146097 := by omega
  have a1 : (n - 1) / 146097 ≤ 100 := by omega
  obtain ⟨a, ha⟩ : ∃ a, (n - 1) / 146097 = a := ⟨_, rfl⟩
  obtain ⟨g, hg⟩ : ∃ a, (n - 1) % 146097 = a := ⟨_, rfl⟩
  rw [ha] at hG a0 a1
  rw [hg] at hG r0 r1
  have C1 : RowKit.Hid (∀ w, Calls Try.prog 27 #[.int .i64 (n - 1), .int .i64 146097] w fun e w' => e = .returned (.tuple #[.int .i64 g, .int .i64 0]) ∧ Gr w w') := Lib.hid fun w => by
    have := mod_c (n - 1) 146097 w (by omega) (by omega) (by omega) (by omega); rwa [hg] at this
  have C2 : RowKit.Hid (∀ w, Calls Try.prog 28 #[.int .i64 (n - 1), .int .i64 146097] w fun e w' => e = .returned (.int .i64 a) ∧ Gr w w') := Lib.hid fun w => by
    have := gdown_c (n - 1) 146097 w (by omega) (by omega) (by omega) (by omega); rwa [ha] at this
  clear ha hg
  have hm : ∀ x : Int, (if x < 3 then x else 3) = min x 3 := fun x => by omega
  simp only [hm] at hG
  have HG := Lib.hid hG
  clear hG hm
  go_enter Try.func20, Try.ntmps20
  go_wp2_with (first | (go_at_call 27; (with_reducible refine (C1.out _).mono ?_); rintro e w1 ⟨rfl, hg⟩) | (go_at_call 28; (with_reducible refine (C2.out _).mono ?_); rintro e w1 ⟨rfl, hg⟩))
  go_ret
  exact ⟨ret1 HG.out, (by repeat (first | exact Gr.refl _ | refine Gr.setCell ?_ _ _ (by first | exact Nat.le_refl _ | (simp; omega) | (simp; done)) | refine Gr.grown ?_ _ _ | refine Gr.drewN ?_ _ | refine Gr.drew ?_ | refine Gr.alloc ?_ _ | refine Gr.grow ?_ _ | (refine Gr.trans ?_ (by assumption))))⟩

set_option maxHeartbeats 4000000 in
/-- The date of a day of the Hebrew years. -/
theorem gfrom_in (n Y : Int) (M : Nat) (D : Int) (w : World) (n0 : -1373427 ≤ n) (n1 : n ≤ 2278650) (hY : gyr n = Y) (hok : gok Y M D) (hd : gd Y M D = n) :
    Calls Try.prog 7 #[.int .i64 n] w fun e w' => e = .returned (.tuple #[.agg #[.int .i64 Y, .int .i64 (M : Int), .int .i64 D], .int .i64 0]) ∧ Gr w w' := by
  have hin : RowKit.Hid (inD n = true) := Lib.hid (decide_eq_true ⟨n0, n1⟩)
  have CY : RowKit.Hid (∀ w, Calls Try.prog 20 #[.int .i64 n] w fun e w' => e = .returned (.int .i64 Y) ∧ Gr w w') := Lib.hid fun w => by
    have := gyear_c n w (by omega) (by omega); rwa [hY] at this
  have hb := gd_in hok
  rw [hd] at hb
  have Y0 : -10000 ≤ Y ∧ Y ≤ 10000 := by obtain ⟨x, y⟩ := hb; unfold gb at x y; omega
  obtain ⟨Y0, Y1⟩ := Y0
  obtain ⟨B, hB⟩ : ∃ B, gb Y = B := ⟨_, rfl⟩
  have CB : RowKit.Hid (∀ w, Calls Try.prog 21 #[.int .i64 Y] w fun e w' => e = .returned (.int .i64 B) ∧ Gr w w') := Lib.hid fun w => by
    have := gbegins_c Y w (by omega) (by omega); rwa [hB] at this
  have hB2 : -5000000 ≤ B ∧ B ≤ 5000000 := by unfold gb at hB; omega
  obtain ⟨B0, B1⟩ := hB2
  unfold gd at hd
  rw [hB] at hd hb
  obtain ⟨m0, m1, d0, d1⟩ := hok
  have HD : RowKit.Hid (n - B = gc (gl Y) M + D) := Lib.hid (by omega)
  have H1 : RowKit.Hid (∀ k : Nat, k + 1 ≤ M → 0 ≤ gc (gl Y) k ∧ gc (gl Y) (k + 1) ≤ gc (gl Y) M) := Lib.hid fun k hk => by
    have a := gc_mono (gl Y) (k + 1) (M - (k + 1))
    rw [show k + 1 + (M - (k + 1)) = M from by omega] at a
    exact ⟨(gc_le (gl Y) k (by omega)).1, a⟩
  have HM : RowKit.Hid (gc (gl Y) M ≤ 366) := Lib.hid (gc_le _ M (by omega)).2
  clear hd hb hB hY
  go_enter Try.func7, Try.ntmps7
  go_wp2_with (first | (go_at_call 19; (with_reducible refine (gin_c n _).mono ?_); rintro e wA ⟨rfl, hgwA⟩; rw [hin.out]; obtain ⟨hclwA, hfzwA, hszwA⟩ := gcell hgwA; (try simp [Nat.add_one_le_iff] at hszwA)) | (go_at_call 20; (with_reducible refine (CY.out _).mono ?_); rintro e wB ⟨rfl, hgwB⟩; obtain ⟨hclwB, hfzwB, hszwB⟩ := gcell hgwB; (try simp [Nat.add_one_le_iff] at hszwB); have hlwB_w : w.heap.size < wB.heap.size := (by omega)) | (go_at_call 21; (with_reducible refine (CB.out _).mono ?_); rintro e wC ⟨rfl, hgwC⟩; obtain ⟨hclwC, hfzwC, hszwC⟩ := gcell hgwC; (try simp [Nat.add_one_le_iff] at hszwC); have hlwC_w : w.heap.size < wC.heap.size := (by omega); have hlwC_wB : wB.heap.size < wC.heap.size := (by omega)))
  obtain ⟨X, hX⟩ : ∃ X, wB.heap.size = X := ⟨_, rfl⟩
  have hr0 : wC.cell? ⟨X, 0, none⟩ = some (.int .i64 Y) ∧ wC.cell? ⟨X, 1, none⟩ = some (.int .i64 1) ∧ wC.cell? ⟨X, 2, none⟩ = some (.int .i64 0) ∧ wC.frozen? ⟨X, 1, none⟩ = false ∧ wC.frozen? ⟨X, 2, none⟩ = false := by
    subst hX
    exact ⟨hgwC.keep (by simp) (by simp [go_sem]), hgwC.keep (by simp) (by simp [go_sem]), hgwC.keep (by simp) (by simp [go_sem]), hgwC.thaw (by simp) (by simp [go_sem]), hgwC.thaw (by simp) (by simp [go_sem])⟩
  have hs0 : wC.cell? ⟨w.heap.size, 0, none⟩ = some (.int .i64 0) ∧ wC.cell? ⟨w.heap.size, 1, none⟩ = some (.int .i64 0) ∧ wC.cell? ⟨w.heap.size, 2, none⟩ = some (.int .i64 0) ∧ wC.frozen? ⟨w.heap.size, 0, none⟩ = false ∧ wC.frozen? ⟨w.heap.size, 1, none⟩ = false ∧ wC.frozen? ⟨w.heap.size, 2, none⟩ = false := by
    have l1 : w.heap.size < (wB.alloc (.cells #[.int .i64 Y, .int .i64 1, .int .i64 0] 23)).heap.size := by simp; omega
    have l2 : w.heap.size < wA.heap.size := hszwA
    have a1 : ∀ o v, o < 3 → wB.cell? ⟨w.heap.size, o, none⟩ = some v → (wB.alloc (.cells #[.int .i64 Y, .int .i64 1, .int .i64 0] 23)).cell? ⟨w.heap.size, o, none⟩ = some v := fun o v _ h => ((Gr.refl wB).alloc _).keep hlwB_w h
    have a2 : ∀ o v, o < 3 → wB.frozen? ⟨w.heap.size, o, none⟩ = v → (wB.alloc (.cells #[.int .i64 Y, .int .i64 1, .int .i64 0] 23)).frozen? ⟨w.heap.size, o, none⟩ = v := fun o v _ h => ((Gr.refl wB).alloc _).thaw hlwB_w h
    exact ⟨hgwC.keep l1 (a1 0 _ (by omega) (hgwB.keep l2 (hgwA.keep (by simp) (by simp [go_sem])))), hgwC.keep l1 (a1 1 _ (by omega) (hgwB.keep l2 (hgwA.keep (by simp) (by simp [go_sem])))), hgwC.keep l1 (a1 2 _ (by omega) (hgwB.keep l2 (hgwA.keep (by simp) (by simp [go_sem])))),
      hgwC.thaw l1 (a2 0 _ (by omega) (hgwB.thaw l2 (hgwA.thaw (by simp) (by simp [go_sem])))), hgwC.thaw l1 (a2 1 _ (by omega) (hgwB.thaw l2 (hgwA.thaw (by simp) (by simp [go_sem])))), hgwC.thaw l1 (a2 2 _ (by omega) (hgwB.thaw l2 (hgwA.thaw (by simp) (by simp [go_sem]))))⟩
  have hG : Gr w wC := (by repeat (first | exact Gr.refl _ | refine Gr.setCell ?_ _ _ (by first | exact Nat.le_refl _ | (simp; omega) | (simp; done)) | refine Gr.grown ?_ _ _ | refine Gr.drewN ?_ _ | refine Gr.drew ?_ | refine Gr.alloc ?_ _ | refine Gr.grow ?_ _ | (refine Gr.trans ?_ (by assumption))))
  have hlt : w.heap.size < X := by omega
  rw [hX]
  clear hclwA hfzwA hclwB hfzwB hclwC hfzwC hgwA hgwB hgwC hszwA hszwB hszwC hlwB_w hlwC_w hlwC_wB hX
  rw [HD.out]
  go_loopg [] M (fun kx wr => ∃ k : Nat, 1 ≤ k ∧ k ≤ M ∧ M - k ≤ kx ∧ wr.cell? ⟨X, 0, none⟩ = some (.int .i64 Y) ∧ wr.cell? ⟨X, 1, none⟩ = some (.int .i64 (k : Int)) ∧ wr.cell? ⟨X, 2, none⟩ = some (.int .i64 (gc (gl Y) M + D - gc (gl Y) k)) ∧ wr.frozen? ⟨X, 1, none⟩ = false ∧ wr.frozen? ⟨X, 2, none⟩ = false ∧
    wr.cell? ⟨w.heap.size, 0, none⟩ = some (.int .i64 0) ∧ wr.cell? ⟨w.heap.size, 1, none⟩ = some (.int .i64 0) ∧ wr.cell? ⟨w.heap.size, 2, none⟩ = some (.int .i64 0) ∧ wr.frozen? ⟨w.heap.size, 0, none⟩ = false ∧ wr.frozen? ⟨w.heap.size, 1, none⟩ = false ∧ wr.frozen? ⟨w.heap.size, 2, none⟩ = false ∧ Gr w wr)
  case atStart =>
    obtain ⟨c0, c1, c2, f1, f2⟩ := hr0
    obtain ⟨r0, r1, r2, g0, g1, g2⟩ := hs0
    have ne : ¬ X = w.heap.size := by omega
    refine ⟨1, by omega, m0, by omega, ?_, ?_, ?_, set_frozen f1, set_frozen f2, ?_, ?_, ?_, set_frozen g0, set_frozen g1, set_frozen g2, hG.setCell _ _ (Nat.le_of_lt hlt)⟩
    · rw [set_cell c0]; simp
    · rw [set_cell c1]; simp
    · rw [set_cell c2]; simp [gc, gmd]
    · rw [set_cell r0]; simp [ne]
    · rw [set_cell r1]; simp [ne]
    · rw [set_cell r2]; simp [ne]
  case round =>
    obtain ⟨k, k1, k2, k3, c0, c1, c2, f1, f2, r0, r1, r2, g0, g1, g2, hg0⟩ := hrel
    have hk := H1.out k
    by_cases e : k < M
    · have hk2 := hk (by omega)
      have hk3 : gc (gl Y) (k + 1) = gc (gl Y) k + gmd (gl Y) (k : Int) := rfl
      have ht : gmd (gl Y) (k : Int) < gc (gl Y) M + D - gc (gl Y) k := by omega
      have tr := gmd_range (gl Y) (k : Int)
      have hgm := HM.out
      have d2 : D ≤ 31 := by have := gmd_range (gl Y) (M : Int); omega
      clear hk
      go_wp2
      go_quiet ((go_at_call 10; exact Calls.quiet_of_same (gdays_s _ _ _)))
      go_wp2
      have hgN : Gr w (wr.drewN nq) := hg0.drewN nq
      replace c0 : (wr.drewN nq).cell? ⟨X, 0, none⟩ = _ := c0
      replace c1 : (wr.drewN nq).cell? ⟨X, 1, none⟩ = _ := c1
      replace c2 : (wr.drewN nq).cell? ⟨X, 2, none⟩ = _ := c2
      replace f1 : (wr.drewN nq).frozen? ⟨X, 1, none⟩ = _ := f1
      replace f2 : (wr.drewN nq).frozen? ⟨X, 2, none⟩ = _ := f2
      replace r0 : (wr.drewN nq).cell? ⟨w.heap.size, 0, none⟩ = _ := r0
      replace r1 : (wr.drewN nq).cell? ⟨w.heap.size, 1, none⟩ = _ := r1
      replace r2 : (wr.drewN nq).cell? ⟨w.heap.size, 2, none⟩ = _ := r2
      replace g0 : (wr.drewN nq).frozen? ⟨w.heap.size, 0, none⟩ = _ := g0
      replace g1 : (wr.drewN nq).frozen? ⟨w.heap.size, 1, none⟩ = _ := g1
      replace g2 : (wr.drewN nq).frozen? ⟨w.heap.size, 2, none⟩ = _ := g2
      clear hg0
      generalize wr.drewN nq = W1 at *
      have c0d : ({ W1 with drawn := W1.drawn + 1 } : World).cell? ⟨X, 0, none⟩ = _ := c0
      have c1d : ({ W1 with drawn := W1.drawn + 1 } : World).cell? ⟨X, 1, none⟩ = _ := c1
      have c2d : ({ W1 with drawn := W1.drawn + 1 } : World).cell? ⟨X, 2, none⟩ = _ := c2
      refine wp_region_still_tail 9 mixed (by kernel_rfl) ?_
      simp only [List.take_succ_cons, List.take_zero, List.drop_succ_cons, List.drop_zero]
      repeat (first | still_step | still_call (gdays_s _ _ _))
      refine wpStill_nil ?_
      clear c0d c1d c2d
      change wpList _ _ _ _ _ W1.drew
      go_wp2
      have ne : ¬ X = w.heap.size := by omega
      go_roundg (M - (k + 1))
      case measure => omega
      case rel =>
        refine ⟨k + 1, by omega, by omega, Nat.le_refl _, ?_, ?_, ?_, set_frozen (set_frozen f1), set_frozen (set_frozen f2), ?_, ?_, ?_, set_frozen (set_frozen g0), set_frozen (set_frozen g1), set_frozen (set_frozen g2), ((hgN.setCell _ _ (Nat.le_of_lt hlt)).setCell _ _ (Nat.le_of_lt hlt)).drew⟩
        · refine (set_cell (set_cell c0)).trans ?_; simp
        · refine (set_cell (set_cell c1)).trans ?_; simp
        · refine (set_cell (set_cell c2)).trans ?_; simp; omega
        · refine (set_cell (set_cell r0)).trans ?_; simp [ne]
        · refine (set_cell (set_cell r1)).trans ?_; simp [ne]
        · refine (set_cell (set_cell r2)).trans ?_; simp [ne]
    · obtain rfl : k = M := by omega
      have ht : ¬ gmd (gl Y) (k : Int) < gc (gl Y) k + D - gc (gl Y) k := by omega
      have c2' : wr.cell? ⟨X, 2, none⟩ = some (.int .i64 D) := by rw [c2]; congr 2; omega
      clear c2 ht hk
      have ht : ¬ gmd (gl Y) (k : Int) < D := by omega
      go_wp2
      go_quiet ((go_at_call 10; exact Calls.quiet_of_same (gdays_s _ _ _)))
      go_wp2
      exact bodyPost_ret (v := .tuple #[.agg #[.int .i64 Y, .int .i64 (k : Int), .int .i64 D], .int .i64 0]) (by simp [results, Try.results7, go_sem, *]) rfl ⟨rfl, (by repeat (first | exact Gr.refl _ | refine Gr.setCell ?_ _ _ (by first | exact Nat.le_refl _ | (simp; omega) | (simp; done)) | refine Gr.grown ?_ _ _ | refine Gr.drewN ?_ _ | refine Gr.drew ?_ | refine Gr.alloc ?_ _ | refine Gr.grow ?_ _ | (refine Gr.trans ?_ (by assumption))))⟩

theorem gfrom_out (n : Int) (w : World) (h : n < -1373427 ∨ 2278650 < n) :
    Calls Try.prog 7 #[.int .i64 n] w fun e w' => e = .returned (.tuple #[.agg #[.int .i64 0, .int .i64 0, .int .i64 0], .int .i64 2]) ∧ Gr w w' := by
  have hin : RowKit.Hid (inD n = false) := Lib.hid (decide_eq_false (by omega))
  clear h
  go_enter Try.func7, Try.ntmps7
  go_wp2_with (first | (go_at_call 19; (with_reducible refine (gin_c n _).mono ?_); rintro e wA ⟨rfl, hgwA⟩; rw [hin.out]; obtain ⟨hclwA, hfzwA, hszwA⟩ := gcell hgwA; (try simp [Nat.add_one_le_iff] at hszwA)))
  exact bodyPost_ret (v := .tuple #[.agg #[.int .i64 0, .int .i64 0, .int .i64 0], .int .i64 2]) (by simp [results, Try.results7, go_sem, *]) rfl ⟨rfl, (by repeat (first | exact Gr.refl _ | refine Gr.setCell ?_ _ _ (by first | exact Nat.le_refl _ | (simp; omega) | (simp; done)) | refine Gr.grown ?_ _ _ | refine Gr.drewN ?_ _ | refine Gr.drew ?_ | refine Gr.alloc ?_ _ | refine Gr.grow ?_ _ | (refine Gr.trans ?_ (by assumption))))⟩

/-- Does one date stand ahead of another one? -/
def gls (a b c d e f : Int) : Bool := if a = d then (if b = e then decide (c < f) else decide (b < e)) else decide (a < d)
theorem gless_c (a b c d e f : Int) (w : World) : Calls Try.prog 17 #[.agg #[.int .i64 a, .int .i64 b, .int .i64 c], .agg #[.int .i64 d, .int .i64 e, .int .i64 f]] w fun x w' => x = .returned (.bool (gls a b c d e f)) ∧ Gr w w' := by
  unfold gls
  by_cases h : a = d
  · subst h
    rw [if_pos rfl]
    by_cases g : b = e
    · subst g
      rw [if_pos rfl]
      go_enter Try.func17, Try.ntmps17
      go_wp2
      go_ret
      exact ⟨rfl, (by repeat (first | exact Gr.refl _ | refine Gr.setCell ?_ _ _ (by first | exact Nat.le_refl _ | (simp; omega) | (simp; done)) | refine Gr.grown ?_ _ _ | refine Gr.drewN ?_ _ | refine Gr.drew ?_ | refine Gr.alloc ?_ _ | refine Gr.grow ?_ _ | (refine Gr.trans ?_ (by assumption))))⟩
    · rw [if_neg g]
      have n2 : (b != e) = true := bne_iff_ne.2 g
      clear g
      go_enter Try.func17, Try.ntmps17
      go_wp2
      go_ret
      exact ⟨rfl, (by repeat (first | exact Gr.refl _ | refine Gr.setCell ?_ _ _ (by first | exact Nat.le_refl _ | (simp; omega) | (simp; done)) | refine Gr.grown ?_ _ _ | refine Gr.drewN ?_ _ | refine Gr.drew ?_ | refine Gr.alloc ?_ _ | refine Gr.grow ?_ _ | (refine Gr.trans ?_ (by assumption))))⟩
  · rw [if_neg h]
    have n1 : (a != d) = true := bne_iff_ne.2 h
    clear h
    go_enter Try.func17, Try.ntmps17
    go_wp2
    go_ret
    exact ⟨rfl, (by repeat (first | exact Gr.refl _ | refine Gr.setCell ?_ _ _ (by first | exact Nat.le_refl _ | (simp; omega) | (simp; done)) | refine Gr.grown ?_ _ _ | refine Gr.drewN ?_ _ | refine Gr.drew ?_ | refine Gr.alloc ?_ _ | refine Gr.grow ?_ _ | (refine Gr.trans ?_ (by assumption))))⟩

end Go.Proofs.Ytgjgkldkdmohjaa.Walks
