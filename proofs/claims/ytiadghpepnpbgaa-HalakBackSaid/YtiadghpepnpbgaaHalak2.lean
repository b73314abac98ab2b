/- Walks of halak.Parts, Join, Hours, Moons and of the reference's. -/
import Derived.Test.YtiadghpepnpbgaaHalak
set_option linter.unusedVariables false
set_option linter.unusedSimpArgs false
namespace Go.Proofs.Ytiadghpepnpbgaa.Walks
open Go Go.RowKit Go.Sort Go.Proofs.Ytiadghpepnpbgaa.Base Go.Proofs.Ytiadghpepnpbgaa.Plain Go.Proofs.Ytiadghpepnpbgaa.Math

def f2 (a b : Int) : Nat → Int
  | 0 => a
  | _ => b
def f3 (a b c : Int) : Nat → Int
  | 0 => a
  | 1 => b
  | _ => c
theorem ps3 (d h p : Int) : psOk (f3 (d * 25920) (h * 1080) p) 2 ↔ pf d h p := by
  have s1 : ps (f3 (d * 25920) (h * 1080) p) 1 = d * 25920 := by simp [ps, f3]
  have s2 : ps (f3 (d * 25920) (h * 1080) p) 2 = d * 25920 + h * 1080 := by simp [ps, f3]
  have s3 : ps (f3 (d * 25920) (h * 1080) p) 3 = d * 25920 + h * 1080 + p := by simp [ps, f3]
  constructor
  · rintro ⟨h, k⟩
    have k1 := k 1 (by omega)
    have k2 := k 2 (by omega)
    rw [s2] at k1
    rw [s3] at k2
    exact ⟨h 0 (by omega), h 1 (by omega), k1, k2⟩
  · rintro ⟨h1, h2, h4, h5⟩
    refine ⟨fun j hj => ?_, fun j hj => ?_⟩
    · match j, hj with
      | 0, _ => exact h1
      | 1, _ => exact h2
    · match j, hj with
      | 0, _ => rw [s1]; exact h1
      | 1, _ => rw [s2]; exact h4
      | 2, _ => rw [s3]; exact h5
theorem ps2 (d p : Int) : psOk (f2 (d * 25920) p) 1 ↔ fits (d * 25920) ∧ fits (d * 25920 + p) := by
  have s1 : ps (f2 (d * 25920) p) 1 = d * 25920 := by simp [ps, f2]
  have s2 : ps (f2 (d * 25920) p) 2 = d * 25920 + p := by simp [ps, f2]
  constructor
  · rintro ⟨h, k⟩
    have k1 := k 1 (by omega)
    rw [s2] at k1
    exact ⟨h 0 (by omega), k1⟩
  · rintro ⟨h1, h4⟩
    refine ⟨fun j hj => ?_, fun j hj => ?_⟩
    · match j, hj with
      | 0, _ => exact h1
    · match j, hj with
      | 0, _ => rw [s1]; exact h1
      | 1, _ => rw [s2]; exact h4
theorem psN3 (d h p : Int) : ps (f3 (d * 25920) (h * 1080) p) (2 + 1) = d * 25920 + h * 1080 + p := by simp [ps, f3]
theorem psN2 (d p : Int) : ps (f2 (d * 25920) p) (1 + 1) = d * 25920 + p := by simp [ps, f2]

theorem total2_c (d h p : Int) (b : Nat) (w : World) (hd : fits d) (hh : fits h) (hp : fits p) (hb : b < w.heap.size)
    (c0 : w.cell? ⟨b, 0, none⟩ = some (.int .i64 d)) (c1 : w.cell? ⟨b, 1, none⟩ = some (.int .i64 25920)) (c2 : w.cell? ⟨b, 2, none⟩ = some (.int .i64 h)) (c3 : w.cell? ⟨b, 3, none⟩ = some (.int .i64 1080)) :
    Calls Try.prog 49 #[.int .i64 p, .slice (some ⟨b, 0, none⟩) 2 2] w fun e w' => e = .returned (.tuple #[.int .i64 (ptN d h p), .int .i64 (ptE d h p)]) ∧ Gr w w' :=
  total_c (f2 d h) (f2 25920 1080) (f3 (d * 25920) (h * 1080) p) p _ _ 2 b w (by omega) (fun j hj => by
      match j, hj with
      | 0, _ => rfl
      | 1, _ => rfl) rfl hp (fun j hj => by
      match j, hj with
      | 0, _ => exact hd
      | 1, _ => exact hh) (fun j hj => by
      match j, hj with
      | 0, _ => exact ⟨by simp [f2], by simp [f2]⟩
      | 1, _ => exact ⟨by simp [f2], by simp [f2]⟩) hb (fun j hj => by
      match j, hj with
      | 0, _ => exact c0
      | 1, _ => exact c2) (fun j hj => by
      match j, hj with
      | 0, _ => exact c1
      | 1, _ => exact c3) (fun q => by
        have q := (ps3 d h p).1 q
        rw [psN3]; exact ⟨ptN_of q, ptE_of q⟩) (fun q => by
        have q : ¬ pf d h p := fun z => q ((ps3 d h p).2 z)
        exact ⟨ptN_no q, ptE_no q⟩)
theorem total1_c (d p N E : Int) (b : Nat) (w : World) (hd : fits d) (hp : fits p) (hb : b < w.heap.size)
    (c0 : w.cell? ⟨b, 0, none⟩ = some (.int .i64 d)) (c1 : w.cell? ⟨b, 1, none⟩ = some (.int .i64 25920))
    (y1 : fits (d * 25920) ∧ fits (d * 25920 + p) → N = d * 25920 + p ∧ E = 0) (y2 : ¬ (fits (d * 25920) ∧ fits (d * 25920 + p)) → N = 0 ∧ E = 6) :
    Calls Try.prog 49 #[.int .i64 p, .slice (some ⟨b, 0, none⟩) 1 1] w fun e w' => e = .returned (.tuple #[.int .i64 N, .int .i64 E]) ∧ Gr w w' :=
  total_c (fun _ => d) (fun _ => 25920) (f2 (d * 25920) p) p _ _ 1 b w (by omega) (fun j hj => by
      match j, hj with
      | 0, _ => rfl) rfl hp (fun j hj => hd) (fun j hj => ⟨by omega, by omega⟩) hb (fun j hj => by
      match j, hj with
      | 0, _ => exact c0) (fun j hj => by
      match j, hj with
      | 0, _ => exact c1) (fun q => by
        have q := (ps2 d p).1 q
        rw [psN2]; exact y1 q) (fun q => y2 fun z => q ((ps2 d p).2 z))

set_option maxHeartbeats 1000000 in
theorem parts_u (d h p : Int) (w : World) (hd : fits d) (hh : fits h) (hp : fits p) :
    Calls Try.prog 15 #[.int .i64 d, .int .i64 h, .int .i64 p] w fun e w' => e = .returned (.tuple #[.int .i64 (ptN d h p), .int .i64 (ptE d h p)]) ∧ Gr w w' := by
  have HD := Lib.hid hd
  have HH := Lib.hid hh
  have HP := Lib.hid hp
  clear hd hh hp
  go_enter Try.func15, Try.ntmps15
  go_wp2_with (go_at_call 49; (with_reducible refine (total2_c d h p _ _ HD.out HH.out HP.out (by simp) (by simp [go_sem]) (by simp [go_sem]) (by simp [go_sem]) (by simp [go_sem])).mono ?_); rintro e wA ⟨rfl, hgwA⟩)
  go_ret2
  exact ⟨rfl, (by repeat (first | exact Gr.refl _ | refine Gr.setCell ?_ _ _ (by first | exact Nat.le_refl _ | (simp; omega) | (simp; done)) | refine Gr.grown ?_ _ _ | refine Gr.drewN ?_ _ | refine Gr.drew ?_ | refine Gr.alloc ?_ _ | refine Gr.grow ?_ _ | (refine Gr.trans ?_ (by assumption))))⟩

set_option maxHeartbeats 1000000 in
theorem join_u (d p : Int) (w : World) (hd : fits d) (hp : fits p) :
    Calls Try.prog 19 #[.agg #[.int .i64 d, .int .i64 p]] w fun e w' => e = .returned (.tuple #[.int .i64 (jnN d p), .int .i64 (jnE d p)]) ∧ Gr w w' := by
  have d0 := hd.1
  have d1 := hd.2
  have HD := Lib.hid hd
  have HP := Lib.hid hp
  by_cases c : p < 0 ∨ 25920 ≤ p
  · have E1 : RowKit.Hid (0 = jnN d p) := Lib.hid (by unfold jnN; rw [if_pos c])
    have E2 : RowKit.Hid (1 = jnE d p) := Lib.hid (by unfold jnE; rw [if_pos c])
    clear hd hp
    by_cases g : p < 0
    · clear c
      go_enter Try.func19, Try.ntmps19
      go_wp2
      go_ret2
      exact ⟨ret2 E1.out E2.out, (by repeat (first | exact Gr.refl _ | refine Gr.setCell ?_ _ _ (by first | exact Nat.le_refl _ | (simp; omega) | (simp; done)) | refine Gr.grown ?_ _ _ | refine Gr.drewN ?_ _ | refine Gr.drew ?_ | refine Gr.alloc ?_ _ | refine Gr.grow ?_ _ | (refine Gr.trans ?_ (by assumption))))⟩
    · have g2 : 25920 ≤ p := by omega
      clear c
      go_enter Try.func19, Try.ntmps19
      go_wp2
      go_ret2
      exact ⟨ret2 E1.out E2.out, (by repeat (first | exact Gr.refl _ | refine Gr.setCell ?_ _ _ (by first | exact Nat.le_refl _ | (simp; omega) | (simp; done)) | refine Gr.grown ?_ _ _ | refine Gr.drewN ?_ _ | refine Gr.drew ?_ | refine Gr.alloc ?_ _ | refine Gr.grow ?_ _ | (refine Gr.trans ?_ (by assumption))))⟩
  · have c0 : 0 ≤ p := by omega
    have c1 : p < 25920 := by omega
    by_cases g : 0 ≤ d
    · have e1 : jnN d p = ptN d 0 p := by unfold jnN; rw [if_neg c, if_pos g]
      have e2 : jnE d p = ptE d 0 p := by unfold jnE; rw [if_neg c, if_pos g]
      have z : fits 0 := ⟨by omega, by omega⟩
      have Y1 : RowKit.Hid (fits (d * 25920) ∧ fits (d * 25920 + p) → jnN d p = d * 25920 + p ∧ jnE d p = 0) := Lib.hid fun q => by
        have q' : pf d 0 p := ⟨q.1, z, by simpa using q.1, by simpa using q.2⟩
        rw [e1, e2, ptN_of q', ptE_of q']
        exact ⟨by omega, rfl⟩
      have Y2 : RowKit.Hid (¬ (fits (d * 25920) ∧ fits (d * 25920 + p)) → jnN d p = 0 ∧ jnE d p = 6) := Lib.hid fun q => by
        have q' : ¬ pf d 0 p := fun y => q ⟨y.1, by have := y.2.2.2; simpa using this⟩
        rw [e1, e2, ptN_no q', ptE_no q']
        exact ⟨rfl, rfl⟩
      clear c e1 e2 z hd hp
      go_enter Try.func19, Try.ntmps19
      go_wp2_with (go_at_call 49; (with_reducible refine (total1_c d p _ _ _ _ HD.out HP.out (by simp) (by simp [go_sem]) (by simp [go_sem]) Y1.out Y2.out).mono ?_); rintro e wA ⟨rfl, hgwA⟩)
      go_ret2
      exact ⟨rfl, (by repeat (first | exact Gr.refl _ | refine Gr.setCell ?_ _ _ (by first | exact Nat.le_refl _ | (simp; omega) | (simp; done)) | refine Gr.grown ?_ _ _ | refine Gr.drewN ?_ _ | refine Gr.drew ?_ | refine Gr.alloc ?_ _ | refine Gr.grow ?_ _ | (refine Gr.trans ?_ (by assumption))))⟩
    · have Y1 : RowKit.Hid (fits ((d + 1) * 25920) ∧ fits ((d + 1) * 25920 + (p - 25920)) → jnN d p = (d + 1) * 25920 + (p - 25920) ∧ jnE d p = 0) := Lib.hid fun q => by
        have q' : jf d p := ⟨q.1, q.2⟩
        unfold jnN jnE
        rw [if_neg c, if_neg c, if_neg g, if_neg g, if_pos q', if_pos q']
        exact ⟨rfl, rfl⟩
      have Y2 : RowKit.Hid (¬ (fits ((d + 1) * 25920) ∧ fits ((d + 1) * 25920 + (p - 25920))) → jnN d p = 0 ∧ jnE d p = 6) := Lib.hid fun q => by
        have q' : ¬ jf d p := fun y => q ⟨y.1, y.2⟩
        unfold jnN jnE
        rw [if_neg c, if_neg c, if_neg g, if_neg g, if_neg q', if_neg q']
        exact ⟨rfl, rfl⟩
      have HD1 : RowKit.Hid (fits (d + 1)) := Lib.hid ⟨by omega, by omega⟩
      have HP1 : RowKit.Hid (fits (p - 25920)) := Lib.hid ⟨by omega, by omega⟩
      have g' : d < 0 := by omega
      clear c g hd hp
      go_enter Try.func19, Try.ntmps19
      go_wp2_with (go_at_call 49; (with_reducible refine (total1_c (d + 1) (p - 25920) _ _ _ _ HD1.out HP1.out (by simp) (by simp [go_sem]) (by simp [go_sem]) Y1.out Y2.out).mono ?_); rintro e wA ⟨rfl, hgwA⟩)
      go_ret2
      exact ⟨rfl, (by repeat (first | exact Gr.refl _ | refine Gr.setCell ?_ _ _ (by first | exact Nat.le_refl _ | (simp; omega) | (simp; done)) | refine Gr.grown ?_ _ _ | refine Gr.drewN ?_ _ | refine Gr.drew ?_ | refine Gr.alloc ?_ _ | refine Gr.grow ?_ _ | (refine Gr.trans ?_ (by assumption))))⟩

/-- Hours, and what is left. -/
def hrN (p : Int) : Int := if p < 0 ∨ 25920 ≤ p then 0 else p / 1080
def hrP (p : Int) : Int := if p < 0 ∨ 25920 ≤ p then 0 else p % 1080

theorem hours_c (p : Int) (w : World) : Calls Try.prog 23 #[.int .i64 p] w fun e w' => e = .returned (.tuple #[.int .i64 (hrN p), .int .i64 (hrP p)]) ∧ Gr w w' := by
  by_cases c : p < 0 ∨ 25920 ≤ p
  · have E1 : RowKit.Hid (0 = hrN p) := Lib.hid (by unfold hrN; rw [if_pos c])
    have E2 : RowKit.Hid (0 = hrP p) := Lib.hid (by unfold hrP; rw [if_pos c])
    by_cases g : p < 0
    · clear c
      go_enter Try.func23, Try.ntmps23
      go_wp2
      go_ret2
      exact ⟨ret2 E1.out E2.out, (by repeat (first | exact Gr.refl _ | refine Gr.setCell ?_ _ _ (by first | exact Nat.le_refl _ | (simp; omega) | (simp; done)) | refine Gr.grown ?_ _ _ | refine Gr.drewN ?_ _ | refine Gr.drew ?_ | refine Gr.alloc ?_ _ | refine Gr.grow ?_ _ | (refine Gr.trans ?_ (by assumption))))⟩
    · have g2 : 25920 ≤ p := by omega
      clear c
      go_enter Try.func23, Try.ntmps23
      go_wp2
      go_ret2
      exact ⟨ret2 E1.out E2.out, (by repeat (first | exact Gr.refl _ | refine Gr.setCell ?_ _ _ (by first | exact Nat.le_refl _ | (simp; omega) | (simp; done)) | refine Gr.grown ?_ _ _ | refine Gr.drewN ?_ _ | refine Gr.drew ?_ | refine Gr.alloc ?_ _ | refine Gr.grow ?_ _ | (refine Gr.trans ?_ (by assumption))))⟩
  · have c0 : 0 ≤ p := by omega
    have c1 : p < 25920 := by omega
    have E1 : RowKit.Hid (p / 1080 = hrN p) := Lib.hid (by unfold hrN; rw [if_neg c])
    have E2 : RowKit.Hid (p % 1080 = hrP p) := Lib.hid (by unfold hrP; rw [if_neg c])
    clear c
    go_enter Try.func23, Try.ntmps23
    go_wp2
    go_ret2
    exact ⟨ret2 E1.out E2.out, (by repeat (first | exact Gr.refl _ | refine Gr.setCell ?_ _ _ (by first | exact Nat.le_refl _ | (simp; omega) | (simp; done)) | refine Gr.grown ?_ _ _ | refine Gr.drewN ?_ _ | refine Gr.drew ?_ | refine Gr.alloc ?_ _ | refine Gr.grow ?_ _ | (refine Gr.trans ?_ (by assumption))))⟩

theorem moons_u (n : Int) (w : World) (hn : fits n) : Calls Try.prog 21 #[.int .i64 n] w fun e w' => e = .returned (.tuple #[.int .i64 (okN (n * 765433)), .int .i64 (okE (n * 765433))]) ∧ Gr w w' := by
  have HN := Lib.hid hn
  have K : RowKit.Hid (fits 765433) := Lib.hid ⟨by omega, by omega⟩
  clear hn
  go_enter Try.func21, Try.ntmps21
  go_wp2_with (go_at_call 54; (with_reducible refine (mul_u n 765433 _ HN.out K.out).mono ?_); rintro e wA ⟨rfl, hgwA⟩)
  go_ret2
  exact ⟨rfl, (by repeat (first | exact Gr.refl _ | refine Gr.setCell ?_ _ _ (by first | exact Nat.le_refl _ | (simp; omega) | (simp; done)) | refine Gr.grown ?_ _ _ | refine Gr.drewN ?_ _ | refine Gr.drew ?_ | refine Gr.alloc ?_ _ | refine Gr.grow ?_ _ | (refine Gr.trans ?_ (by assumption))))⟩

end Go.Proofs.Ytiadghpepnpbgaa.Walks
