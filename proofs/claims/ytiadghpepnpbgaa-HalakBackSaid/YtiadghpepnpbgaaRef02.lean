/- Walks of the reference of layer 2: parts of days, hours and parts; of moments; of moons. -/
import Derived.Test.YtiadghpepnpbgaaExactU
import Derived.Test.YtiadghpepnpbgaaMath
set_option linter.unusedVariables false
set_option linter.unusedSimpArgs false
namespace Go.Proofs.Ytiadghpepnpbgaa.Walks
open Go Go.RowKit Go.Sort Go.Proofs.Ytiadghpepnpbgaa.Base Go.Proofs.Ytiadghpepnpbgaa.Plain Go.Proofs.Ytiadghpepnpbgaa.Math

/-- Do all the sums and products of days, hours and parts fit? -/
def pf (d h p : Int) : Prop := fits (d * 25920) ∧ fits (h * 1080) ∧ fits (d * 25920 + h * 1080) ∧ fits (d * 25920 + h * 1080 + p)
instance (d h p : Int) : Decidable (pf d h p) := inferInstanceAs (Decidable (_ ∧ _))
def ptN (d h p : Int) : Int := if pf d h p then d * 25920 + h * 1080 + p else 0
def ptE (d h p : Int) : Int := if pf d h p then 0 else 6
theorem ptN_of {d h p : Int} (c : pf d h p) : ptN d h p = d * 25920 + h * 1080 + p := if_pos c
theorem ptE_of {d h p : Int} (c : pf d h p) : ptE d h p = 0 := if_pos c
theorem ptN_no {d h p : Int} (c : ¬ pf d h p) : ptN d h p = 0 := if_neg c
theorem ptE_no {d h p : Int} (c : ¬ pf d h p) : ptE d h p = 6 := if_neg c
theorem okE_is {n : Int} (h : okE n = 0) : fits n := by
  by_cases c : fits n
  · exact c
  · rw [okE_no c] at h; cases h

set_option maxHeartbeats 4000000 in
theorem rparts_u (d h p : Int) (w : World) (hd : fits d) (hh : fits h) (hp : fits p) :
    Calls Try.prog 18 #[.int .i64 d, .int .i64 h, .int .i64 p] w fun e w' => e = .returned (.tuple #[.int .i64 (ptN d h p), .int .i64 (ptE d h p)]) ∧ Gr w w' := by
  have k1 : fits 25920 := ⟨by omega, by omega⟩
  have k2 : fits 1080 := ⟨by omega, by omega⟩
  by_cases c1 : fits (d * 25920)
  · by_cases c2 : fits (h * 1080)
    · by_cases c3 : fits (d * 25920 + h * 1080)
      · by_cases c4 : fits (d * 25920 + h * 1080 + p)
        · have q : pf d h p := ⟨c1, c2, c3, c4⟩
          rw [ptN_of q, ptE_of q]
          have e1 := okN_of c1
          have e2 := okN_of c2
          have e3 := okN_of c3
          have e4 := okN_of c4
          have f1 := okE_of c1
          have f2 := okE_of c2
          have f3 := okE_of c3
          have f4 := okE_of c4
          clear q
          go_enter Try.func18, Try.ntmps18
          go_wp2_with (first | (go_at_call 52; (with_reducible refine (rmul_u d 25920 _ hd k1).mono ?_); rintro e w1 ⟨rfl, hg⟩) | (go_at_call 52; (with_reducible refine (rmul_u h 1080 _ hh k2).mono ?_); rintro e w1 ⟨rfl, hg⟩) | (go_at_call 53; (with_reducible refine (radd_u (d * 25920) (h * 1080) _ c1 c2).mono ?_); rintro e w1 ⟨rfl, hg⟩) | (go_at_call 53; (with_reducible refine (radd_u (d * 25920 + h * 1080) p _ c3 hp).mono ?_); rintro e w1 ⟨rfl, hg⟩))
          go_ret2
          exact ⟨rfl, (by repeat (first | exact Gr.refl _ | refine Gr.setCell ?_ _ _ (by first | exact Nat.le_refl _ | (simp; omega) | (simp; done)) | refine Gr.grown ?_ _ _ | refine Gr.drewN ?_ _ | refine Gr.drew ?_ | refine Gr.alloc ?_ _ | refine Gr.grow ?_ _ | (refine Gr.trans ?_ (by assumption))))⟩
        · have q : ¬ pf d h p := fun x => c4 x.2.2.2
          rw [ptN_no q, ptE_no q]
          have e1 := okN_of c1
          have e2 := okN_of c2
          have e3 := okN_of c3
          have e4 := okN_no c4
          have f1 := okE_of c1
          have f2 := okE_of c2
          have f3 := okE_of c3
          have f4 := okE_no c4
          clear q c4
          go_enter Try.func18, Try.ntmps18
          go_wp2_with (first | (go_at_call 52; (with_reducible refine (rmul_u d 25920 _ hd k1).mono ?_); rintro e w1 ⟨rfl, hg⟩) | (go_at_call 52; (with_reducible refine (rmul_u h 1080 _ hh k2).mono ?_); rintro e w1 ⟨rfl, hg⟩) | (go_at_call 53; (with_reducible refine (radd_u (d * 25920) (h * 1080) _ c1 c2).mono ?_); rintro e w1 ⟨rfl, hg⟩) | (go_at_call 53; (with_reducible refine (radd_u (d * 25920 + h * 1080) p _ c3 hp).mono ?_); rintro e w1 ⟨rfl, hg⟩))
          go_ret2
          exact ⟨rfl, (by repeat (first | exact Gr.refl _ | refine Gr.setCell ?_ _ _ (by first | exact Nat.le_refl _ | (simp; omega) | (simp; done)) | refine Gr.grown ?_ _ _ | refine Gr.drewN ?_ _ | refine Gr.drew ?_ | refine Gr.alloc ?_ _ | refine Gr.grow ?_ _ | (refine Gr.trans ?_ (by assumption))))⟩
      · have q : ¬ pf d h p := fun x => c3 x.2.2.1
        rw [ptN_no q, ptE_no q]
        have e1 := okN_of c1
        have e2 := okN_of c2
        have e3 := okN_no c3
        have f1 := okE_of c1
        have f2 := okE_of c2
        have f3 := okE_no c3
        clear q c3
        go_enter Try.func18, Try.ntmps18
        go_wp2_with (first | (go_at_call 52; (with_reducible refine (rmul_u d 25920 _ hd k1).mono ?_); rintro e w1 ⟨rfl, hg⟩) | (go_at_call 52; (with_reducible refine (rmul_u h 1080 _ hh k2).mono ?_); rintro e w1 ⟨rfl, hg⟩) | (go_at_call 53; (with_reducible refine (radd_u (d * 25920) (h * 1080) _ c1 c2).mono ?_); rintro e w1 ⟨rfl, hg⟩))
        go_ret2
        exact ⟨rfl, (by repeat (first | exact Gr.refl _ | refine Gr.setCell ?_ _ _ (by first | exact Nat.le_refl _ | (simp; omega) | (simp; done)) | refine Gr.grown ?_ _ _ | refine Gr.drewN ?_ _ | refine Gr.drew ?_ | refine Gr.alloc ?_ _ | refine Gr.grow ?_ _ | (refine Gr.trans ?_ (by assumption))))⟩
    · have q : ¬ pf d h p := fun x => c2 x.2.1
      rw [ptN_no q, ptE_no q]
      have e1 := okN_of c1
      have e2 := okN_no c2
      have f1 := okE_of c1
      have f2 := okE_no c2
      clear q c2
      go_enter Try.func18, Try.ntmps18
      go_wp2_with (first | (go_at_call 52; (with_reducible refine (rmul_u d 25920 _ hd k1).mono ?_); rintro e w1 ⟨rfl, hg⟩) | (go_at_call 52; (with_reducible refine (rmul_u h 1080 _ hh k2).mono ?_); rintro e w1 ⟨rfl, hg⟩))
      go_ret2
      exact ⟨rfl, (by repeat (first | exact Gr.refl _ | refine Gr.setCell ?_ _ _ (by first | exact Nat.le_refl _ | (simp; omega) | (simp; done)) | refine Gr.grown ?_ _ _ | refine Gr.drewN ?_ _ | refine Gr.drew ?_ | refine Gr.alloc ?_ _ | refine Gr.grow ?_ _ | (refine Gr.trans ?_ (by assumption))))⟩
  · have q : ¬ pf d h p := fun x => c1 x.1
    rw [ptN_no q, ptE_no q]
    have e1 := okN_no c1
    have f1 := okE_no c1
    clear q c1
    go_enter Try.func18, Try.ntmps18
    go_wp2_with (first | (go_at_call 52; (with_reducible refine (rmul_u d 25920 _ hd k1).mono ?_); rintro e w1 ⟨rfl, hg⟩))
    go_ret2
    exact ⟨rfl, (by repeat (first | exact Gr.refl _ | refine Gr.setCell ?_ _ _ (by first | exact Nat.le_refl _ | (simp; omega) | (simp; done)) | refine Gr.grown ?_ _ _ | refine Gr.drewN ?_ _ | refine Gr.drew ?_ | refine Gr.alloc ?_ _ | refine Gr.grow ?_ _ | (refine Gr.trans ?_ (by assumption))))⟩

/-- How many parts a moment is behind day 0, and whether that can be told. -/
def jf (d p : Int) : Prop := fits ((d + 1) * 25920) ∧ fits ((d + 1) * 25920 + (p - 25920))
instance (d p : Int) : Decidable (jf d p) := inferInstanceAs (Decidable (_ ∧ _))
def jnE (d p : Int) : Int := if p < 0 ∨ 25920 ≤ p then 1 else if 0 ≤ d then ptE d 0 p else if jf d p then 0 else 6
def jnN (d p : Int) : Int := if p < 0 ∨ 25920 ≤ p then 0 else if 0 ≤ d then ptN d 0 p else if jf d p then (d + 1) * 25920 + (p - 25920) else 0

set_option maxHeartbeats 4000000 in
theorem rjoin_u (d p : Int) (w : World) (hd : fits d) (hp : fits p) :
    Calls Try.prog 20 #[.agg #[.int .i64 d, .int .i64 p]] w fun e w' => e = .returned (.tuple #[.int .i64 (jnN d p), .int .i64 (jnE d p)]) ∧ Gr w w' := by
  have k1 : fits 25920 := ⟨by omega, by omega⟩
  have k0 : fits 0 := ⟨by omega, by omega⟩
  have d0 := hd.1
  have d1 := hd.2
  have p0 := hp.1
  have p1 := hp.2
  by_cases c : p < 0 ∨ 25920 ≤ p
  · have E1 : RowKit.Hid (0 = jnN d p) := Lib.hid (by unfold jnN; rw [if_pos c])
    have E2 : RowKit.Hid (1 = jnE d p) := Lib.hid (by unfold jnE; rw [if_pos c])
    by_cases g : p < 0
    · clear c
      go_enter Try.func20, Try.ntmps20
      go_wp2
      go_ret2
      exact ⟨ret2 E1.out E2.out, (by repeat (first | exact Gr.refl _ | refine Gr.setCell ?_ _ _ (by first | exact Nat.le_refl _ | (simp; omega) | (simp; done)) | refine Gr.grown ?_ _ _ | refine Gr.drewN ?_ _ | refine Gr.drew ?_ | refine Gr.alloc ?_ _ | refine Gr.grow ?_ _ | (refine Gr.trans ?_ (by assumption))))⟩
    · have g2 : 25920 ≤ p := by omega
      clear c
      go_enter Try.func20, Try.ntmps20
      go_wp2
      go_ret2
      exact ⟨ret2 E1.out E2.out, (by repeat (first | exact Gr.refl _ | refine Gr.setCell ?_ _ _ (by first | exact Nat.le_refl _ | (simp; omega) | (simp; done)) | refine Gr.grown ?_ _ _ | refine Gr.drewN ?_ _ | refine Gr.drew ?_ | refine Gr.alloc ?_ _ | refine Gr.grow ?_ _ | (refine Gr.trans ?_ (by assumption))))⟩
  · have c0 : 0 ≤ p := by omega
    have c1 : p < 25920 := by omega
    by_cases g : 0 ≤ d
    · have E1 : RowKit.Hid (ptN d 0 p = jnN d p) := Lib.hid (by unfold jnN; rw [if_neg c, if_pos g])
      have E2 : RowKit.Hid (ptE d 0 p = jnE d p) := Lib.hid (by unfold jnE; rw [if_neg c, if_pos g])
      clear c
      go_enter Try.func20, Try.ntmps20
      go_wp2_with (go_at_call 18; (with_reducible refine (rparts_u d 0 p _ hd k0 hp).mono ?_); rintro e w1 ⟨rfl, hg⟩)
      go_ret2
      exact ⟨ret2 E1.out E2.out, (by repeat (first | exact Gr.refl _ | refine Gr.setCell ?_ _ _ (by first | exact Nat.le_refl _ | (simp; omega) | (simp; done)) | refine Gr.grown ?_ _ _ | refine Gr.drewN ?_ _ | refine Gr.drew ?_ | refine Gr.alloc ?_ _ | refine Gr.grow ?_ _ | (refine Gr.trans ?_ (by assumption))))⟩
    · have s1 : fits (d + 1) := ⟨by omega, by omega⟩
      have s2 : fits (p - 25920) := ⟨by omega, by omega⟩
      by_cases f1 : fits ((d + 1) * 25920)
      · by_cases f2 : fits ((d + 1) * 25920 + (p - 25920))
        · have q : jf d p := ⟨f1, f2⟩
          have E1 : RowKit.Hid ((d + 1) * 25920 + (p - 25920) = jnN d p) := Lib.hid (by unfold jnN; rw [if_neg c, if_neg g, if_pos q])
          have E2 : RowKit.Hid (0 = jnE d p) := Lib.hid (by unfold jnE; rw [if_neg c, if_neg g, if_pos q])
          have e1 := okN_of f1
          have e2 := okE_of f1
          have e3 := okN_of f2
          have e4 := okE_of f2
          clear c q
          go_enter Try.func20, Try.ntmps20
          go_wp2_with (first | (go_at_call 52; (with_reducible refine (rmul_u (d + 1) 25920 _ s1 k1).mono ?_); rintro e w1 ⟨rfl, hg⟩; obtain ⟨hcl, hfz, hsz⟩ := gcell hg; clear hsz; have hz0 : w.heap.size < w1.heap.size := (by have hq := hg.size; (try simp at hq); omega)) | (go_at_call 53; (with_reducible refine (radd_u _ _ _ f1 s2).mono ?_); rintro e w1 ⟨rfl, hg⟩; obtain ⟨hcl, hfz, hsz⟩ := gcell hg; clear hsz; have hz0 : w.heap.size < w1.heap.size := (by have hq := hg.size; (try simp at hq); omega)))
          go_ret2
          exact ⟨ret2 E1.out E2.out, (by repeat (first | exact Gr.refl _ | refine Gr.setCell ?_ _ _ (by first | exact Nat.le_refl _ | (simp; omega) | (simp; done)) | refine Gr.grown ?_ _ _ | refine Gr.drewN ?_ _ | refine Gr.drew ?_ | refine Gr.alloc ?_ _ | refine Gr.grow ?_ _ | (refine Gr.trans ?_ (by assumption))))⟩
        · have q : ¬ jf d p := fun x => f2 x.2
          have E1 : RowKit.Hid (0 = jnN d p) := Lib.hid (by unfold jnN; rw [if_neg c, if_neg g, if_neg q])
          have E2 : RowKit.Hid (6 = jnE d p) := Lib.hid (by unfold jnE; rw [if_neg c, if_neg g, if_neg q])
          have e1 := okN_of f1
          have e2 := okE_of f1
          have e3 := okN_no f2
          have e4 := okE_no f2
          clear c q f2
          go_enter Try.func20, Try.ntmps20
          go_wp2_with (first | (go_at_call 52; (with_reducible refine (rmul_u (d + 1) 25920 _ s1 k1).mono ?_); rintro e w1 ⟨rfl, hg⟩; obtain ⟨hcl, hfz, hsz⟩ := gcell hg; clear hsz; have hz0 : w.heap.size < w1.heap.size := (by have hq := hg.size; (try simp at hq); omega)) | (go_at_call 53; (with_reducible refine (radd_u _ _ _ f1 s2).mono ?_); rintro e w1 ⟨rfl, hg⟩; obtain ⟨hcl, hfz, hsz⟩ := gcell hg; clear hsz; have hz0 : w.heap.size < w1.heap.size := (by have hq := hg.size; (try simp at hq); omega)))
          go_ret2
          exact ⟨ret2 E1.out E2.out, (by repeat (first | exact Gr.refl _ | refine Gr.setCell ?_ _ _ (by first | exact Nat.le_refl _ | (simp; omega) | (simp; done)) | refine Gr.grown ?_ _ _ | refine Gr.drewN ?_ _ | refine Gr.drew ?_ | refine Gr.alloc ?_ _ | refine Gr.grow ?_ _ | (refine Gr.trans ?_ (by assumption))))⟩
      · have q : ¬ jf d p := fun x => f1 x.1
        have E1 : RowKit.Hid (0 = jnN d p) := Lib.hid (by unfold jnN; rw [if_neg c, if_neg g, if_neg q])
        have E2 : RowKit.Hid (6 = jnE d p) := Lib.hid (by unfold jnE; rw [if_neg c, if_neg g, if_neg q])
        have e1 := okN_no f1
        have e2 := okE_no f1
        clear c q f1
        go_enter Try.func20, Try.ntmps20
        go_wp2_with (first | (go_at_call 52; (with_reducible refine (rmul_u (d + 1) 25920 _ s1 k1).mono ?_); rintro e w1 ⟨rfl, hg⟩; obtain ⟨hcl, hfz, hsz⟩ := gcell hg; clear hsz; have hz0 : w.heap.size < w1.heap.size := (by have hq := hg.size; (try simp at hq); omega)))
        go_ret2
        exact ⟨ret2 E1.out E2.out, (by repeat (first | exact Gr.refl _ | refine Gr.setCell ?_ _ _ (by first | exact Nat.le_refl _ | (simp; omega) | (simp; done)) | refine Gr.grown ?_ _ _ | refine Gr.drewN ?_ _ | refine Gr.drew ?_ | refine Gr.alloc ?_ _ | refine Gr.grow ?_ _ | (refine Gr.trans ?_ (by assumption))))⟩

end Go.Proofs.Ytiadghpepnpbgaa.Walks
