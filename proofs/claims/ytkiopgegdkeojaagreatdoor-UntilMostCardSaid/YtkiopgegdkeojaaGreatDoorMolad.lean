/- Walks of package molad, of what it uses of package halak, and of their references. -/
import Derived.Test.YtkiopgegdkeojaaGreatDoorCycle
set_option linter.unusedVariables false
set_option linter.unusedSimpArgs false
namespace Go.Proofs.YtkiopgegdkeojaaGreatDoor.Walks
open Go Go.RowKit Go.Sort Go.Proofs.YtkiopgegdkeojaaGreatDoor.Base Go.Proofs.YtkiopgegdkeojaaGreatDoor.Plain Go.Proofs.YtkiopgegdkeojaaGreatDoor.Math

theorem wd_c (d : Int) (w : World) (h0 : -9223372036854775808 ≤ d) (h1 : d ≤ 9223372036854775807) : Calls Tryz.prog 99 #[.int .i64 d] w fun e w' => e = .returned (.int .i64 (d % 7)) ∧ Gr w w' := by
  go_enter Tryz.func99, Tryz.ntmps99
  go_wp2_with (go_at_call 110; (with_reducible refine (mod_c d 7 _ (by omega) h0 h1 (by omega)).mono ?_); rintro e w1 ⟨rfl, hg⟩)
  go_ret
  exact ⟨rfl, (by repeat (first | exact Gr.refl _ | refine Gr.setCell ?_ _ _ (by first | exact Nat.le_refl _ | (simp; omega) | (simp; done)) | refine Gr.grown ?_ _ _ | refine Gr.drewN ?_ _ | refine Gr.drew ?_ | refine Gr.alloc ?_ _ | refine Gr.grow ?_ _ | (refine Gr.trans ?_ (by assumption))))⟩
theorem split_c (n : Int) (w : World) (h0 : -9223372036854775808 ≤ n) (h1 : n ≤ 9223372036854775807) : Calls Tryz.prog 112 #[.int .i64 n] w fun e w' => e = .returned (.agg #[.int .i64 (n / 25920), .int .i64 (n % 25920)]) ∧ Gr w w' := by
  go_enter Tryz.func112, Tryz.ntmps112
  go_wp2_with (first | (go_at_call 109; (with_reducible refine (div_c n 25920 _ (by omega) h0 h1 (by omega)).mono ?_); rintro e w1 ⟨rfl, hg⟩; obtain ⟨hcl, hfz, hsz⟩ := gcell hg; clear hsz; have hz0 : w.heap.size < w1.heap.size := (by have hq := hg.size; (try simp at hq); omega)) | (go_at_call 110; (with_reducible refine (mod_c n 25920 _ (by omega) h0 h1 (by omega)).mono ?_); rintro e w1 ⟨rfl, hg⟩; obtain ⟨hcl, hfz, hsz⟩ := gcell hg; clear hsz; have hz0 : w.heap.size < w1.heap.size := (by have hq := hg.size; (try simp at hq); omega)))
  exact bodyPost_ret (v := .agg #[.int .i64 (n / 25920), .int .i64 (n % 25920)]) (by simp [results, Tryz.results112, go_sem, *]) rfl ⟨rfl, (by repeat (first | exact Gr.refl _ | refine Gr.setCell ?_ _ _ (by first | exact Nat.le_refl _ | (simp; omega) | (simp; done)) | refine Gr.grown ?_ _ _ | refine Gr.drewN ?_ _ | refine Gr.drew ?_ | refine Gr.alloc ?_ _ | refine Gr.grow ?_ _ | (refine Gr.trans ?_ (by assumption))))⟩

theorem moons_c (n : Int) (w : World) (h0 : -200000 ≤ n) (h1 : n ≤ 200000) : Calls Tryz.prog 111 #[.int .i64 n] w fun e w' => e = .returned (.tuple #[.int .i64 (n * 765433), .int .i64 0]) ∧ Gr w w' := by
  go_enter Tryz.func111, Tryz.ntmps111
  go_wp2_with (go_at_call 115; (with_reducible refine (mul_c n 765433 _ (by omega) (by omega) (by omega) (by omega) (by omega) (by omega)).mono ?_); rintro e w1 ⟨rfl, hg⟩)
  go_ret2
  exact ⟨rfl, (by repeat (first | exact Gr.refl _ | refine Gr.setCell ?_ _ _ (by first | exact Nat.le_refl _ | (simp; omega) | (simp; done)) | refine Gr.grown ?_ _ _ | refine Gr.drewN ?_ _ | refine Gr.drew ?_ | refine Gr.alloc ?_ _ | refine Gr.grow ?_ _ | (refine Gr.trans ?_ (by assumption))))⟩

theorem moon_in (n : Int) (w : World) (h0 : -200000 ≤ n) (h1 : n ≤ 200000) : Calls Tryz.prog 101 #[.int .i64 n] w fun e w' => e = .returned (.tuple #[.agg #[.int .i64 (moD n), .int .i64 (moP n)], .int .i64 0]) ∧ Gr w w' := by
  have e1 : (n * 765433 + 5604) / 25920 + -1373427 = moD n := by unfold moD; omega
  have e2 : (n * 765433 + 5604) % 25920 = moP n := by unfold moP; omega
  have r := moD_range h0 h1
  go_enter Tryz.func101, Tryz.ntmps101
  go_wp2_with (first | (go_at_call 111; (with_reducible refine (moons_c n _ h0 h1).mono ?_); rintro e w1 ⟨rfl, hg⟩; obtain ⟨hcl, hfz, hsz⟩ := gcell hg; clear hsz; have hz0 : w.heap.size < w1.heap.size := (by have hq := hg.size; (try simp at hq); omega)) | (go_at_call 112; (with_reducible refine (split_c _ _ (by omega) (by omega)).mono ?_); rintro e w1 ⟨rfl, hg⟩; obtain ⟨hcl, hfz, hsz⟩ := gcell hg; clear hsz; have hz0 : w.heap.size < w1.heap.size := (by have hq := hg.size; (try simp at hq); omega)))
  exact bodyPost_ret (v := .tuple #[.agg #[.int .i64 (moD n), .int .i64 (moP n)], .int .i64 0]) (by simp [results, Tryz.results101, go_sem, *]) rfl ⟨rfl, (by repeat (first | exact Gr.refl _ | refine Gr.setCell ?_ _ _ (by first | exact Nat.le_refl _ | (simp; omega) | (simp; done)) | refine Gr.grown ?_ _ _ | refine Gr.drewN ?_ _ | refine Gr.drew ?_ | refine Gr.alloc ?_ _ | refine Gr.grow ?_ _ | (refine Gr.trans ?_ (by assumption))))⟩
theorem moon_out (n : Int) (w : World) (h : n < -200000 ∨ 200000 < n) : Calls Tryz.prog 101 #[.int .i64 n] w fun e w' => e = .returned (.tuple #[.agg #[.int .i64 0, .int .i64 0], .int .i64 2]) ∧ Gr w w' := by
  by_cases g : n < -200000
  · go_enter Tryz.func101, Tryz.ntmps101
    go_wp2
    exact bodyPost_ret (v := .tuple #[.agg #[.int .i64 0, .int .i64 0], .int .i64 2]) (by simp [results, Tryz.results101, go_sem, *]) rfl ⟨rfl, (by repeat (first | exact Gr.refl _ | refine Gr.setCell ?_ _ _ (by first | exact Nat.le_refl _ | (simp; omega) | (simp; done)) | refine Gr.grown ?_ _ _ | refine Gr.drewN ?_ _ | refine Gr.drew ?_ | refine Gr.alloc ?_ _ | refine Gr.grow ?_ _ | (refine Gr.trans ?_ (by assumption))))⟩
  · have g2 : 200000 < n := by omega
    clear h
    go_enter Tryz.func101, Tryz.ntmps101
    go_wp2
    exact bodyPost_ret (v := .tuple #[.agg #[.int .i64 0, .int .i64 0], .int .i64 2]) (by simp [results, Tryz.results101, go_sem, *]) rfl ⟨rfl, (by repeat (first | exact Gr.refl _ | refine Gr.setCell ?_ _ _ (by first | exact Nat.le_refl _ | (simp; omega) | (simp; done)) | refine Gr.grown ?_ _ _ | refine Gr.drewN ?_ _ | refine Gr.drew ?_ | refine Gr.alloc ?_ _ | refine Gr.grow ?_ _ | (refine Gr.trans ?_ (by assumption))))⟩

theorem moon_c (n : Int) (w : World) : Calls Tryz.prog 101 #[.int .i64 n] w fun e w' => e = .returned (.tuple #[.agg #[.int .i64 (moDN n), .int .i64 (moPN n)], .int .i64 (moE n)]) ∧ Gr w w' := by
  unfold moDN moPN moE
  by_cases h : -200000 ≤ n ∧ n ≤ 200000
  · rw [moR_in h.1 h.2]; exact moon_in n w h.1 h.2
  · rw [moR_out (by omega)]; exact moon_out n w (by omega)
theorem of_in (y m : Int) (w : World) (h0 : 0 ≤ y) (h1 : y ≤ 10001) (m0 : 1 ≤ m) (m1 : m ≤ ml y) : Calls Tryz.prog 86 #[.int .i64 y, .int .i64 m] w fun e w' => e = .returned (.tuple #[.agg #[.int .i64 (moD (bf y + m - 1)), .int .i64 (moP (bf y + m - 1))], .int .i64 0]) ∧ Gr w w' := by
  have r := bf_range h0 h1
  have r2 := ml_range y
  have e0 := yE_in h0 h1
  have e1 := inN_in h0 h1
  have e2 := bfN_in h0 h1
  go_enter Tryz.func86, Tryz.ntmps86
  go_wp2_with (first | (go_at_call 100; (with_reducible refine (in_c y _).mono ?_); rintro e w1 ⟨rfl, hg⟩; obtain ⟨hcl, hfz, hsz⟩ := gcell hg; clear hsz; have hz0 : w.heap.size < w1.heap.size := (by have hq := hg.size; (try simp at hq); omega)) | (go_at_call 94; (with_reducible refine (before_c y _).mono ?_); rintro e w1 ⟨rfl, hg⟩; obtain ⟨hcl, hfz, hsz⟩ := gcell hg; clear hsz; have hz0 : w.heap.size < w1.heap.size := (by have hq := hg.size; (try simp at hq); omega)) | (go_at_call 101; (with_reducible refine (moon_in _ _ (by omega) (by omega)).mono ?_); rintro e w1 ⟨rfl, hg⟩; obtain ⟨hcl, hfz, hsz⟩ := gcell hg; clear hsz; have hz0 : w.heap.size < w1.heap.size := (by have hq := hg.size; (try simp at hq); omega)))
  exact bodyPost_ret (v := .tuple #[.agg #[.int .i64 (moD (bf y + m - 1)), .int .i64 (moP (bf y + m - 1))], .int .i64 0]) (by simp [results, Tryz.results86, go_sem, *]) rfl ⟨rfl, (by repeat (first | exact Gr.refl _ | refine Gr.setCell ?_ _ _ (by first | exact Nat.le_refl _ | (simp; omega) | (simp; done)) | refine Gr.grown ?_ _ _ | refine Gr.drewN ?_ _ | refine Gr.drew ?_ | refine Gr.alloc ?_ _ | refine Gr.grow ?_ _ | (refine Gr.trans ?_ (by assumption))))⟩
theorem of_y (y m : Int) (w : World) (h : y < 0 ∨ 10001 < y) : Calls Tryz.prog 86 #[.int .i64 y, .int .i64 m] w fun e w' => e = .returned (.tuple #[.agg #[.int .i64 0, .int .i64 0], .int .i64 2]) ∧ Gr w w' := by
  have e0 := yE_out h
  clear h
  go_enter Tryz.func86, Tryz.ntmps86
  go_wp2_with (first | (go_at_call 100; (with_reducible refine (in_c y _).mono ?_); rintro e w1 ⟨rfl, hg⟩; obtain ⟨hcl, hfz, hsz⟩ := gcell hg; clear hsz; have hz0 : w.heap.size < w1.heap.size := (by have hq := hg.size; (try simp at hq); omega)))
  exact bodyPost_ret (v := .tuple #[.agg #[.int .i64 0, .int .i64 0], .int .i64 2]) (by simp [results, Tryz.results86, go_sem, *]) rfl ⟨rfl, (by repeat (first | exact Gr.refl _ | refine Gr.setCell ?_ _ _ (by first | exact Nat.le_refl _ | (simp; omega) | (simp; done)) | refine Gr.grown ?_ _ _ | refine Gr.drewN ?_ _ | refine Gr.drew ?_ | refine Gr.alloc ?_ _ | refine Gr.grow ?_ _ | (refine Gr.trans ?_ (by assumption))))⟩
theorem of_m (y m : Int) (w : World) (h0 : 0 ≤ y) (h1 : y ≤ 10001) (h : m < 1 ∨ ml y < m) : Calls Tryz.prog 86 #[.int .i64 y, .int .i64 m] w fun e w' => e = .returned (.tuple #[.agg #[.int .i64 0, .int .i64 0], .int .i64 3]) ∧ Gr w w' := by
  have e0 := yE_in h0 h1
  have e1 := inN_in h0 h1
  by_cases g : m < 1
  · clear h
    go_enter Tryz.func86, Tryz.ntmps86
    go_wp2_with (first | (go_at_call 100; (with_reducible refine (in_c y _).mono ?_); rintro e w1 ⟨rfl, hg⟩; obtain ⟨hcl, hfz, hsz⟩ := gcell hg; clear hsz; have hz0 : w.heap.size < w1.heap.size := (by have hq := hg.size; (try simp at hq); omega)))
    exact bodyPost_ret (v := .tuple #[.agg #[.int .i64 0, .int .i64 0], .int .i64 3]) (by simp [results, Tryz.results86, go_sem, *]) rfl ⟨rfl, (by repeat (first | exact Gr.refl _ | refine Gr.setCell ?_ _ _ (by first | exact Nat.le_refl _ | (simp; omega) | (simp; done)) | refine Gr.grown ?_ _ _ | refine Gr.drewN ?_ _ | refine Gr.drew ?_ | refine Gr.alloc ?_ _ | refine Gr.grow ?_ _ | (refine Gr.trans ?_ (by assumption))))⟩
  · have g2 : ml y < m := by omega
    clear h
    go_enter Tryz.func86, Tryz.ntmps86
    go_wp2_with (first | (go_at_call 100; (with_reducible refine (in_c y _).mono ?_); rintro e w1 ⟨rfl, hg⟩; obtain ⟨hcl, hfz, hsz⟩ := gcell hg; clear hsz; have hz0 : w.heap.size < w1.heap.size := (by have hq := hg.size; (try simp at hq); omega)))
    exact bodyPost_ret (v := .tuple #[.agg #[.int .i64 0, .int .i64 0], .int .i64 3]) (by simp [results, Tryz.results86, go_sem, *]) rfl ⟨rfl, (by repeat (first | exact Gr.refl _ | refine Gr.setCell ?_ _ _ (by first | exact Nat.le_refl _ | (simp; omega) | (simp; done)) | refine Gr.grown ?_ _ _ | refine Gr.drewN ?_ _ | refine Gr.drew ?_ | refine Gr.alloc ?_ _ | refine Gr.grow ?_ _ | (refine Gr.trans ?_ (by assumption))))⟩
theorem of_c (y m : Int) (w : World) : Calls Tryz.prog 86 #[.int .i64 y, .int .i64 m] w fun e w' => e = .returned (.tuple #[.agg #[.int .i64 (ofD y m), .int .i64 (ofP y m)], .int .i64 (ofE y m)]) ∧ Gr w w' := by
  by_cases h : 0 ≤ y ∧ y ≤ 10001
  · by_cases g : 1 ≤ m ∧ m ≤ ml y
    · rw [ofE_ok h.1 h.2 g.1 g.2, ofD_ok h.1 h.2 g.1 g.2, ofP_ok h.1 h.2 g.1 g.2]; exact of_in y m w h.1 h.2 g.1 g.2
    · have e := ofE_m h.1 h.2 (m := m) (by omega)
      unfold ofD ofP
      rw [e]
      exact of_m y m w h.1 h.2 (by omega)
  · have e := ofE_y (y := y) (m := m) (by omega)
    unfold ofD ofP
    rw [e]
    exact of_y y m w (by omega)

/-! ### the references -/
theorem rsplit_c (n : Int) (w : World) (h0 : -9223372036854775808 ≤ n) (h1 : n ≤ 9223372036854775807) : Calls Tryz.prog 107 #[.int .i64 n] w fun e w' => e = .returned (.agg #[.int .i64 (n / 25920), .int .i64 (n % 25920)]) ∧ Gr w w' := by
  go_enter Tryz.func107, Tryz.ntmps107
  go_wp2_with (first | (go_at_call 106; (with_reducible refine (rdown_c n 25920 _ (by omega) h0 h1 (by omega)).mono ?_); rintro e w1 ⟨rfl, hg⟩; obtain ⟨hcl, hfz, hsz⟩ := gcell hg; clear hsz; have hz0 : w.heap.size < w1.heap.size := (by have hq := hg.size; (try simp at hq); omega)) | (go_at_call 82; (with_reducible refine (rleft_c n 25920 _ (by omega) h0 h1 (by omega)).mono ?_); rintro e w1 ⟨rfl, hg⟩; obtain ⟨hcl, hfz, hsz⟩ := gcell hg; clear hsz; have hz0 : w.heap.size < w1.heap.size := (by have hq := hg.size; (try simp at hq); omega)))
  exact bodyPost_ret (v := .agg #[.int .i64 (n / 25920), .int .i64 (n % 25920)]) (by simp [results, Tryz.results107, go_sem, *]) rfl ⟨rfl, (by repeat (first | exact Gr.refl _ | refine Gr.setCell ?_ _ _ (by first | exact Nat.le_refl _ | (simp; omega) | (simp; done)) | refine Gr.grown ?_ _ _ | refine Gr.drewN ?_ _ | refine Gr.drew ?_ | refine Gr.alloc ?_ _ | refine Gr.grow ?_ _ | (refine Gr.trans ?_ (by assumption))))⟩
theorem rwd_c (d : Int) (w : World) (h0 : -9223372036854775808 ≤ d) (h1 : d ≤ 9223372036854775807) : Calls Tryz.prog 63 #[.int .i64 d] w fun e w' => e = .returned (.int .i64 (d % 7)) ∧ Gr w w' := by
  go_enter Tryz.func63, Tryz.ntmps63
  go_wp2_with (go_at_call 82; (with_reducible refine (rleft_c d 7 _ (by omega) h0 h1 (by omega)).mono ?_); rintro e w1 ⟨rfl, hg⟩)
  go_ret
  exact ⟨rfl, (by repeat (first | exact Gr.refl _ | refine Gr.setCell ?_ _ _ (by first | exact Nat.le_refl _ | (simp; omega) | (simp; done)) | refine Gr.grown ?_ _ _ | refine Gr.drewN ?_ _ | refine Gr.drew ?_ | refine Gr.alloc ?_ _ | refine Gr.grow ?_ _ | (refine Gr.trans ?_ (by assumption))))⟩
theorem rmoon_in (n : Int) (w : World) (h0 : -200000 ≤ n) (h1 : n ≤ 200000) : Calls Tryz.prog 92 #[.int .i64 n] w fun e w' => e = .returned (.tuple #[.agg #[.int .i64 (moD n), .int .i64 (moP n)], .int .i64 0]) ∧ Gr w w' := by
  have e1 : (5604 + 765433 * n) / 25920 - 1373427 = moD n := rfl
  have e2 : (5604 + 765433 * n) % 25920 = moP n := rfl
  have r := moD_range h0 h1
  go_enter Tryz.func92, Tryz.ntmps92
  go_wp2_with (first | (go_at_call 107; (with_reducible refine (rsplit_c _ _ (by omega) (by omega)).mono ?_); rintro e w1 ⟨rfl, hg⟩; obtain ⟨hcl, hfz, hsz⟩ := gcell hg; clear hsz; have hz0 : w.heap.size < w1.heap.size := (by have hq := hg.size; (try simp at hq); omega)))
  exact bodyPost_ret (v := .tuple #[.agg #[.int .i64 (moD n), .int .i64 (moP n)], .int .i64 0]) (by simp [results, Tryz.results92, go_sem, *]) rfl ⟨rfl, (by repeat (first | exact Gr.refl _ | refine Gr.setCell ?_ _ _ (by first | exact Nat.le_refl _ | (simp; omega) | (simp; done)) | refine Gr.grown ?_ _ _ | refine Gr.drewN ?_ _ | refine Gr.drew ?_ | refine Gr.alloc ?_ _ | refine Gr.grow ?_ _ | (refine Gr.trans ?_ (by assumption))))⟩
theorem rmoon_out (n : Int) (w : World) (h : n < -200000 ∨ 200000 < n) : Calls Tryz.prog 92 #[.int .i64 n] w fun e w' => e = .returned (.tuple #[.agg #[.int .i64 0, .int .i64 0], .int .i64 2]) ∧ Gr w w' := by
  by_cases g : n < -200000
  · go_enter Tryz.func92, Tryz.ntmps92
    go_wp2
    exact bodyPost_ret (v := .tuple #[.agg #[.int .i64 0, .int .i64 0], .int .i64 2]) (by simp [results, Tryz.results92, go_sem, *]) rfl ⟨rfl, (by repeat (first | exact Gr.refl _ | refine Gr.setCell ?_ _ _ (by first | exact Nat.le_refl _ | (simp; omega) | (simp; done)) | refine Gr.grown ?_ _ _ | refine Gr.drewN ?_ _ | refine Gr.drew ?_ | refine Gr.alloc ?_ _ | refine Gr.grow ?_ _ | (refine Gr.trans ?_ (by assumption))))⟩
  · have g2 : 200000 < n := by omega
    clear h
    go_enter Tryz.func92, Tryz.ntmps92
    go_wp2
    exact bodyPost_ret (v := .tuple #[.agg #[.int .i64 0, .int .i64 0], .int .i64 2]) (by simp [results, Tryz.results92, go_sem, *]) rfl ⟨rfl, (by repeat (first | exact Gr.refl _ | refine Gr.setCell ?_ _ _ (by first | exact Nat.le_refl _ | (simp; omega) | (simp; done)) | refine Gr.grown ?_ _ _ | refine Gr.drewN ?_ _ | refine Gr.drew ?_ | refine Gr.alloc ?_ _ | refine Gr.grow ?_ _ | (refine Gr.trans ?_ (by assumption))))⟩
theorem rmoon_c (n : Int) (w : World) : Calls Tryz.prog 92 #[.int .i64 n] w fun e w' => e = .returned (.tuple #[.agg #[.int .i64 (moDN n), .int .i64 (moPN n)], .int .i64 (moE n)]) ∧ Gr w w' := by
  unfold moDN moPN moE
  by_cases h : -200000 ≤ n ∧ n ≤ 200000
  · rw [moR_in h.1 h.2]; exact rmoon_in n w h.1 h.2
  · rw [moR_out (by omega)]; exact rmoon_out n w (by omega)
theorem rof_in (y m : Int) (w : World) (h0 : 0 ≤ y) (h1 : y ≤ 10001) (m0 : 1 ≤ m) (m1 : m ≤ ml y) : Calls Tryz.prog 65 #[.int .i64 y, .int .i64 m] w fun e w' => e = .returned (.tuple #[.agg #[.int .i64 (moD (bf y + m - 1)), .int .i64 (moP (bf y + m - 1))], .int .i64 0]) ∧ Gr w w' := by
  have r := bf_range h0 h1
  have r2 := ml_range y
  have e0 := yE_in h0 h1
  have e1 := inN_in h0 h1
  have e2 := bfN_in h0 h1
  go_enter Tryz.func65, Tryz.ntmps65
  go_wp2_with (first | (go_at_call 50; (with_reducible refine (rin_c y _).mono ?_); rintro e w1 ⟨rfl, hg⟩; obtain ⟨hcl, hfz, hsz⟩ := gcell hg; clear hsz; have hz0 : w.heap.size < w1.heap.size := (by have hq := hg.size; (try simp at hq); omega)) | (go_at_call 91; (with_reducible refine (rbefore_c y _).mono ?_); rintro e w1 ⟨rfl, hg⟩; obtain ⟨hcl, hfz, hsz⟩ := gcell hg; clear hsz; have hz0 : w.heap.size < w1.heap.size := (by have hq := hg.size; (try simp at hq); omega)) | (go_at_call 92; (with_reducible refine (rmoon_in _ _ (by omega) (by omega)).mono ?_); rintro e w1 ⟨rfl, hg⟩; obtain ⟨hcl, hfz, hsz⟩ := gcell hg; clear hsz; have hz0 : w.heap.size < w1.heap.size := (by have hq := hg.size; (try simp at hq); omega)))
  exact bodyPost_ret (v := .tuple #[.agg #[.int .i64 (moD (bf y + m - 1)), .int .i64 (moP (bf y + m - 1))], .int .i64 0]) (by simp [results, Tryz.results65, go_sem, *]) rfl ⟨rfl, (by repeat (first | exact Gr.refl _ | refine Gr.setCell ?_ _ _ (by first | exact Nat.le_refl _ | (simp; omega) | (simp; done)) | refine Gr.grown ?_ _ _ | refine Gr.drewN ?_ _ | refine Gr.drew ?_ | refine Gr.alloc ?_ _ | refine Gr.grow ?_ _ | (refine Gr.trans ?_ (by assumption))))⟩
theorem rof_y (y m : Int) (w : World) (h : y < 0 ∨ 10001 < y) : Calls Tryz.prog 65 #[.int .i64 y, .int .i64 m] w fun e w' => e = .returned (.tuple #[.agg #[.int .i64 0, .int .i64 0], .int .i64 2]) ∧ Gr w w' := by
  have e0 := yE_out h
  clear h
  go_enter Tryz.func65, Tryz.ntmps65
  go_wp2_with (first | (go_at_call 50; (with_reducible refine (rin_c y _).mono ?_); rintro e w1 ⟨rfl, hg⟩; obtain ⟨hcl, hfz, hsz⟩ := gcell hg; clear hsz; have hz0 : w.heap.size < w1.heap.size := (by have hq := hg.size; (try simp at hq); omega)))
  exact bodyPost_ret (v := .tuple #[.agg #[.int .i64 0, .int .i64 0], .int .i64 2]) (by simp [results, Tryz.results65, go_sem, *]) rfl ⟨rfl, (by repeat (first | exact Gr.refl _ | refine Gr.setCell ?_ _ _ (by first | exact Nat.le_refl _ | (simp; omega) | (simp; done)) | refine Gr.grown ?_ _ _ | refine Gr.drewN ?_ _ | refine Gr.drew ?_ | refine Gr.alloc ?_ _ | refine Gr.grow ?_ _ | (refine Gr.trans ?_ (by assumption))))⟩
theorem rof_m (y m : Int) (w : World) (h0 : 0 ≤ y) (h1 : y ≤ 10001) (h : m < 1 ∨ ml y < m) : Calls Tryz.prog 65 #[.int .i64 y, .int .i64 m] w fun e w' => e = .returned (.tuple #[.agg #[.int .i64 0, .int .i64 0], .int .i64 3]) ∧ Gr w w' := by
  have e0 := yE_in h0 h1
  have e1 := inN_in h0 h1
  by_cases g : m < 1
  · clear h
    go_enter Tryz.func65, Tryz.ntmps65
    go_wp2_with (first | (go_at_call 50; (with_reducible refine (rin_c y _).mono ?_); rintro e w1 ⟨rfl, hg⟩; obtain ⟨hcl, hfz, hsz⟩ := gcell hg; clear hsz; have hz0 : w.heap.size < w1.heap.size := (by have hq := hg.size; (try simp at hq); omega)))
    exact bodyPost_ret (v := .tuple #[.agg #[.int .i64 0, .int .i64 0], .int .i64 3]) (by simp [results, Tryz.results65, go_sem, *]) rfl ⟨rfl, (by repeat (first | exact Gr.refl _ | refine Gr.setCell ?_ _ _ (by first | exact Nat.le_refl _ | (simp; omega) | (simp; done)) | refine Gr.grown ?_ _ _ | refine Gr.drewN ?_ _ | refine Gr.drew ?_ | refine Gr.alloc ?_ _ | refine Gr.grow ?_ _ | (refine Gr.trans ?_ (by assumption))))⟩
  · have g2 : ml y < m := by omega
    clear h
    go_enter Tryz.func65, Tryz.ntmps65
    go_wp2_with (first | (go_at_call 50; (with_reducible refine (rin_c y _).mono ?_); rintro e w1 ⟨rfl, hg⟩; obtain ⟨hcl, hfz, hsz⟩ := gcell hg; clear hsz; have hz0 : w.heap.size < w1.heap.size := (by have hq := hg.size; (try simp at hq); omega)))
    exact bodyPost_ret (v := .tuple #[.agg #[.int .i64 0, .int .i64 0], .int .i64 3]) (by simp [results, Tryz.results65, go_sem, *]) rfl ⟨rfl, (by repeat (first | exact Gr.refl _ | refine Gr.setCell ?_ _ _ (by first | exact Nat.le_refl _ | (simp; omega) | (simp; done)) | refine Gr.grown ?_ _ _ | refine Gr.drewN ?_ _ | refine Gr.drew ?_ | refine Gr.alloc ?_ _ | refine Gr.grow ?_ _ | (refine Gr.trans ?_ (by assumption))))⟩
theorem rof_c (y m : Int) (w : World) : Calls Tryz.prog 65 #[.int .i64 y, .int .i64 m] w fun e w' => e = .returned (.tuple #[.agg #[.int .i64 (ofD y m), .int .i64 (ofP y m)], .int .i64 (ofE y m)]) ∧ Gr w w' := by
  by_cases h : 0 ≤ y ∧ y ≤ 10001
  · by_cases g : 1 ≤ m ∧ m ≤ ml y
    · rw [ofE_ok h.1 h.2 g.1 g.2, ofD_ok h.1 h.2 g.1 g.2, ofP_ok h.1 h.2 g.1 g.2]; exact rof_in y m w h.1 h.2 g.1 g.2
    · have e := ofE_m h.1 h.2 (m := m) (by omega)
      unfold ofD ofP
      rw [e]
      exact rof_m y m w h.1 h.2 (by omega)
  · have e := ofE_y (y := y) (m := m) (by omega)
    unfold ofD ofP
    rw [e]
    exact rof_y y m w (by omega)

end Go.Proofs.YtkiopgegdkeojaaGreatDoor.Walks
