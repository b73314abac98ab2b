/- The walk of month.of: the table of a type's months. -/
import Derived.Test.YtkiopgegdkeojaaGreatDoorMonth
set_option linter.unusedVariables false
set_option linter.unusedSimpArgs false
namespace Go.Proofs.YtkiopgegdkeojaaGreatDoor.Walks
open Go Go.RowKit Go.Sort Go.Proofs.YtkiopgegdkeojaaGreatDoor.Base Go.Proofs.YtkiopgegdkeojaaGreatDoor.Plain Go.Proofs.YtkiopgegdkeojaaGreatDoor.Math

theorem und_a12 : Tryz.prog.underlying 105 = some (.array 12 3) := by kernel_rfl
set_option maxRecDepth 20000 in
theorem idx_plain (k : Nat) (hk : k < 12) (w : World) : (Instr.index 105 (.agg #[.int .i64 30, .int .i64 29, .int .i64 30, .int .i64 29, .int .i64 30, .int .i64 29, .int .i64 30, .int .i64 29, .int .i64 30, .int .i64 29, .int .i64 30, .int .i64 29]) (.int .i64 (k : Int))).run Tryz.prog w = .ok (.int .i64 (plv k)) w := by
  have hs : ∀ w, (sizeOf 3).run Tryz.prog w = .ok 1 w := fun _ => rfl
  have : k = 0 ∨ k = 1 ∨ k = 2 ∨ k = 3 ∨ k = 4 ∨ k = 5 ∨ k = 6 ∨ k = 7 ∨ k = 8 ∨ k = 9 ∨ k = 10 ∨ k = 11 := by omega
  rcases this with rfl | rfl | rfl | rfl | rfl | rfl | rfl | rfl | rfl | rfl | rfl | rfl <;> simp [Instr.index, run_underlying und_a12, asIntOf, go_sem, plv]

theorem GT.ps {w : World} (G : GT w) : 0 < w.heap.size ∧ w.cell? ⟨0, 0, none⟩ = some (.int .i64 30) ∧ w.cell? ⟨0, 1, none⟩ = some (.int .i64 29) ∧ w.cell? ⟨0, 2, none⟩ = some (.int .i64 30) ∧ w.cell? ⟨0, 3, none⟩ = some (.int .i64 29) ∧ w.cell? ⟨0, 4, none⟩ = some (.int .i64 30) ∧ w.cell? ⟨0, 5, none⟩ = some (.int .i64 29) ∧ w.cell? ⟨0, 6, none⟩ = some (.int .i64 30) ∧ w.cell? ⟨0, 7, none⟩ = some (.int .i64 29) ∧ w.cell? ⟨0, 8, none⟩ = some (.int .i64 30) ∧ w.cell? ⟨0, 9, none⟩ = some (.int .i64 29) ∧ w.cell? ⟨0, 10, none⟩ = some (.int .i64 30) ∧ w.cell? ⟨0, 11, none⟩ = some (.int .i64 29) :=
  ⟨G.lt, G.p 0 (by omega), G.p 1 (by omega), G.p 2 (by omega), G.p 3 (by omega), G.p 4 (by omega), G.p 5 (by omega), G.p 6 (by omega), G.p 7 (by omega), G.p 8 (by omega), G.p 9 (by omega), G.p 10 (by omega), G.p 11 (by omega)⟩

/-- How many months the table has when the loop comes to month m of the plain ones. -/
def cnt (l : Bool) (m : Nat) : Nat := if l = true ∧ 5 < m then m + 1 else m
theorem cnt_step {l : Bool} {m : Nat} (h : ¬ (l = true ∧ m = 5)) : cnt l (m + 1) = cnt l m + 1 := by
  unfold cnt
  cases l <;> simp at * <;> (try split) <;> (try split) <;> omega
theorem cnt_lt {l : Bool} {m : Nat} (h : m < 12) : cnt l m < 13 := by unfold cnt; split <;> omega
theorem cnt_all (l : Bool) : cnt l 12 = mct l := by cases l <;> rfl
theorem mlen_plain {kd : Int} {l : Bool} {m : Nat} (h : m < 12) (h1 : m ≠ 1) (h2 : m ≠ 2) (h5 : ¬ (l = true ∧ m = 5)) : plv m = mlen kd l (cnt l m) := by
  unfold plv mlen cnt
  cases l
  · have a1 : ¬ (m = 0 ∧ False) := by simp
    simp only [Bool.false_eq_true, false_and, if_false, h1, h2]
  · have e5 : m ≠ 5 := fun e => h5 ⟨rfl, e⟩
    by_cases g : 5 < m
    · have a1 : ¬ m + 1 = 5 := by omega
      have a2 : ¬ m + 1 = 1 := by omega
      have a3 : ¬ m + 1 = 2 := by omega
      have a4 : 5 < m + 1 := by omega
      simp only [g, and_self, if_true, a1, a2, a3, a4, and_false, if_false, Nat.add_sub_cancel]
    · simp only [g, e5, h1, h2, and_false, if_false]
theorem mlen_5 (kd : Int) : (30 : Int) = mlen kd true 5 := by simp [mlen]
theorem mlen_6 (kd : Int) : (29 : Int) = mlen kd true 6 := by simp [mlen]
theorem mlen_1y {kd : Int} (l : Bool) (h : kd = 2) : (29 : Int) + 1 = mlen kd l 1 := by subst h; cases l <;> rfl
theorem mlen_1n {kd : Int} (l : Bool) (h : kd ≠ 2) : (29 : Int) = mlen kd l 1 := by cases l <;> simp [mlen, h]
theorem mlen_2y {kd : Int} (l : Bool) (h : kd = 0) : (30 : Int) - 1 = mlen kd l 2 := by subst h; cases l <;> rfl
theorem mlen_2n {kd : Int} (l : Bool) (h : kd ≠ 0) : (30 : Int) = mlen kd l 2 := by cases l <;> simp [mlen, h]

theorem Tab.cs {w : World} {b : Nat} {f : Nat → Int} {n : Nat} (T : Tab w b f n) : w.cell? ⟨b, 0, none⟩ = some (.int .i64 (f 0)) ∧ w.cell? ⟨b, 1, none⟩ = some (.int .i64 (f 1)) ∧ w.cell? ⟨b, 2, none⟩ = some (.int .i64 (f 2)) ∧ w.cell? ⟨b, 3, none⟩ = some (.int .i64 (f 3)) ∧ w.cell? ⟨b, 4, none⟩ = some (.int .i64 (f 4)) ∧ w.cell? ⟨b, 5, none⟩ = some (.int .i64 (f 5)) ∧ w.cell? ⟨b, 6, none⟩ = some (.int .i64 (f 6)) ∧ w.cell? ⟨b, 7, none⟩ = some (.int .i64 (f 7)) ∧ w.cell? ⟨b, 8, none⟩ = some (.int .i64 (f 8)) ∧ w.cell? ⟨b, 9, none⟩ = some (.int .i64 (f 9)) ∧ w.cell? ⟨b, 10, none⟩ = some (.int .i64 (f 10)) ∧ w.cell? ⟨b, 11, none⟩ = some (.int .i64 (f 11)) ∧ w.cell? ⟨b, 12, none⟩ = some (.int .i64 (f 12)) ∧ w.cell? ⟨b, 13, none⟩ = some (.int .i64 (n : Int)) :=
  ⟨T.c 0 (by omega), T.c 1 (by omega), T.c 2 (by omega), T.c 3 (by omega), T.c 4 (by omega), T.c 5 (by omega), T.c 6 (by omega), T.c 7 (by omega), T.c 8 (by omega), T.c 9 (by omega), T.c 10 (by omega), T.c 11 (by omega), T.c 12 (by omega), T.z⟩
theorem Tab.fs {w : World} {b : Nat} {f : Nat → Int} {n : Nat} (T : Tab w b f n) : w.frozen? ⟨b, 0, none⟩ = false ∧ w.frozen? ⟨b, 1, none⟩ = false ∧ w.frozen? ⟨b, 2, none⟩ = false ∧ w.frozen? ⟨b, 3, none⟩ = false ∧ w.frozen? ⟨b, 4, none⟩ = false ∧ w.frozen? ⟨b, 5, none⟩ = false ∧ w.frozen? ⟨b, 6, none⟩ = false ∧ w.frozen? ⟨b, 7, none⟩ = false ∧ w.frozen? ⟨b, 8, none⟩ = false ∧ w.frozen? ⟨b, 9, none⟩ = false ∧ w.frozen? ⟨b, 10, none⟩ = false ∧ w.frozen? ⟨b, 11, none⟩ = false ∧ w.frozen? ⟨b, 12, none⟩ = false ∧ w.frozen? ⟨b, 13, none⟩ = false :=
  ⟨T.fr 0 (by omega), T.fr 1 (by omega), T.fr 2 (by omega), T.fr 3 (by omega), T.fr 4 (by omega), T.fr 5 (by omega), T.fr 6 (by omega), T.fr 7 (by omega), T.fr 8 (by omega), T.fr 9 (by omega), T.fr 10 (by omega), T.fr 11 (by omega), T.fr 12 (by omega), T.fr 13 (by omega)⟩
theorem tab_zero (M : Nat → Int) (l : Bool) (w : World) : Tab (w.alloc (.cells #[.int .i64 0, .int .i64 0, .int .i64 0, .int .i64 0, .int .i64 0, .int .i64 0, .int .i64 0, .int .i64 0, .int .i64 0, .int .i64 0, .int .i64 0, .int .i64 0, .int .i64 0, .int .i64 0] 100)) w.heap.size (tf M (cnt l 0)) (cnt l 0) := by
  have e : cnt l 0 = 0 := by cases l <;> rfl
  rw [e]
  refine ⟨by simp, fun j hj => ?_, by simp [go_sem], fun j hj => by simp [go_sem]⟩
  have : j = 0 ∨ j = 1 ∨ j = 2 ∨ j = 3 ∨ j = 4 ∨ j = 5 ∨ j = 6 ∨ j = 7 ∨ j = 8 ∨ j = 9 ∨ j = 10 ∨ j = 11 ∨ j = 12 := by omega
  rcases this with rfl | rfl | rfl | rfl | rfl | rfl | rfl | rfl | rfl | rfl | rfl | rfl | rfl <;> simp [go_sem, tf]

set_option maxRecDepth 20000 in
set_option maxHeartbeats 4000000 in
theorem mof_in (b kd : Int) (l : Bool) (w : World) (G : GT w) (hk : 0 < knum b kd l) :
    Calls Tryz.prog 89 #[.agg #[.int .i64 b, .int .i64 kd, .bool l]] w fun e w' => e = .returned (.agg #[.int .i64 (tf (mlen kd l) (mct l) 0), .int .i64 (tf (mlen kd l) (mct l) 1), .int .i64 (tf (mlen kd l) (mct l) 2), .int .i64 (tf (mlen kd l) (mct l) 3), .int .i64 (tf (mlen kd l) (mct l) 4), .int .i64 (tf (mlen kd l) (mct l) 5), .int .i64 (tf (mlen kd l) (mct l) 6), .int .i64 (tf (mlen kd l) (mct l) 7), .int .i64 (tf (mlen kd l) (mct l) 8), .int .i64 (tf (mlen kd l) (mct l) 9), .int .i64 (tf (mlen kd l) (mct l) 10), .int .i64 (tf (mlen kd l) (mct l) 11), .int .i64 (tf (mlen kd l) (mct l) 12), .int .i64 ((mct l) : Int)]) ∧ Gr w w' := by
  obtain ⟨M, hM⟩ : ∃ M, mlen kd l = M := ⟨_, rfl⟩
  obtain ⟨K, hK⟩ : ∃ K, knum b kd l = K := ⟨_, rfl⟩
  have kz : (K == 0) = false := beq_eq_false_iff_ne.2 (by omega)
  have C1 : RowKit.Hid (∀ W, Gr w W → Calls Tryz.prog 104 #[.agg #[.int .i64 b, .int .i64 kd, .bool l]] W fun e w' => e = .returned (.int .i64 K) ∧ Gr W w') := Lib.hid fun W hW => by
    have := knumber_c b kd l W (G.t.gr hW); rwa [hK] at this
  have HG := Lib.hid G
  rw [hM]
  clear hK G
  go_enter Tryz.func89, Tryz.ntmps89
  go_wp2_with (first | ((go_at_call 104; (with_reducible refine (C1.out _ ((by repeat (first | exact Gr.refl _ | refine Gr.setCell ?_ _ _ (by first | exact Nat.le_refl _ | (simp; omega) | (simp; done)) | refine Gr.grown ?_ _ _ | refine Gr.drewN ?_ _ | refine Gr.drew ?_ | refine Gr.alloc ?_ _ | refine Gr.grow ?_ _ | (refine Gr.trans ?_ (by assumption)))))).mono ?_); rintro e wA ⟨rfl, hgwA⟩); have k1 := hgwA.keep (b := w.heap.size) (o := 1) (v := .int .i64 kd) (by simp; omega) (by simp [go_sem]); have k2 := hgwA.keep (b := w.heap.size) (o := 2) (v := .bool l) (by simp; omega) (by simp [go_sem]); have l0 : w.heap.size + 1 < wA.heap.size := hgwA.lt (b := w.heap.size + 1) (by simp); have l00 : w.heap.size < wA.heap.size := (by omega); obtain ⟨lt1, p0, p1, p2, p3, p4, p5, p6, p7, p8, p9, p10, p11⟩ := (HG.out.gr (w' := wA) ((by repeat (first | exact Gr.refl _ | refine Gr.setCell ?_ _ _ (by first | exact Nat.le_refl _ | (simp; omega) | (simp; done)) | refine Gr.grown ?_ _ _ | refine Gr.drewN ?_ _ | refine Gr.drew ?_ | refine Gr.alloc ?_ _ | refine Gr.grow ?_ _ | (refine Gr.trans ?_ (by assumption)))))).ps))
  obtain ⟨A, hA⟩ : ∃ A : Array Value, A = #[.int .i64 30, .int .i64 29, .int .i64 30, .int .i64 29, .int .i64 30, .int .i64 29, .int .i64 30, .int .i64 29, .int .i64 30, .int .i64 29, .int .i64 30, .int .i64 29] := ⟨_, rfl⟩
  rw [← hA]
  have HI : RowKit.Hid (∀ k : Nat, k < 12 → ∀ w, (Instr.index 105 (.agg A) (.int .i64 (k : Int))).run Tryz.prog w = .ok (.int .i64 (plv k)) w) := Lib.hid (by rw [hA]; exact idx_plain)
  have T0 : Tab (wA.alloc (.cells #[.int .i64 0, .int .i64 0, .int .i64 0, .int .i64 0, .int .i64 0, .int .i64 0, .int .i64 0, .int .i64 0, .int .i64 0, .int .i64 0, .int .i64 0, .int .i64 0, .int .i64 0, .int .i64 0] 100)) wA.heap.size (tf M (cnt l 0)) (cnt l 0) := tab_zero M l wA
  have TR : Tab (wA.alloc (.cells #[.int .i64 0, .int .i64 0, .int .i64 0, .int .i64 0, .int .i64 0, .int .i64 0, .int .i64 0, .int .i64 0, .int .i64 0, .int .i64 0, .int .i64 0, .int .i64 0, .int .i64 0, .int .i64 0] 100)) (w.heap.size + 1) (tf M 0) 0 := by
    have h := tab_zero M l (w.alloc (.cells #[.int .i64 b, .int .i64 kd, .bool l] 61))
    rw [show cnt l 0 = 0 from by cases l <;> rfl, World.size_alloc] at h
    exact (h.gr hgwA).gr ((Gr.refl _).alloc _)
  have G0 : Gr w (wA.alloc (.cells #[.int .i64 0, .int .i64 0, .int .i64 0, .int .i64 0, .int .i64 0, .int .i64 0, .int .i64 0, .int .i64 0, .int .i64 0, .int .i64 0, .int .i64 0, .int .i64 0, .int .i64 0, .int .i64 0] 100)) := (by repeat (first | exact Gr.refl _ | refine Gr.setCell ?_ _ _ (by first | exact Nat.le_refl _ | (simp; omega) | (simp; done)) | refine Gr.grown ?_ _ _ | refine Gr.drewN ?_ _ | refine Gr.drew ?_ | refine Gr.alloc ?_ _ | refine Gr.grow ?_ _ | (refine Gr.trans ?_ (by assumption))))
  have HM := Lib.hid hM
  clear hA p0 p1 p2 p3 p4 p5 p6 p7 p8 p9 p10 p11 hgwA hM hk
  go_loopg [11] 12 (fun kx s11 wr => ∃ m : Nat, m ≤ 12 ∧ 12 - m ≤ kx ∧ s11 = .int .i64 (m : Int) ∧ Tab wr wA.heap.size (tf M (cnt l m)) (cnt l m) ∧ wr.cell? ⟨w.heap.size, 1, none⟩ = some (.int .i64 kd) ∧ wr.cell? ⟨w.heap.size, 2, none⟩ = some (.bool l) ∧ wA.heap.size < wr.heap.size ∧ Tab wr (w.heap.size + 1) (tf M 0) 0 ∧ Gr w wr)
  case atStart => exact ⟨0, by omega, by omega, rfl, T0, by simp [go_sem, k1, l00], by simp [go_sem, k2, l00], by simp, TR, G0⟩
  case round =>
    obtain ⟨m, hm1, hm, rfl, T, k1, k2, hl, hR, hg⟩ := hrel
    have HR := Lib.hid hR
    clear T0 G0 TR hR
    by_cases e : m < 12
    · have hlt := cnt_lt (l := l) e
      have hidx := HI.out m e
      have pr0 : 29 ≤ plv m := by unfold plv; split <;> omega
      have pr1 : plv m ≤ 30 := by unfold plv; split <;> omega
      by_cases e5 : m = 5 ∧ l = true
      · obtain ⟨e5, rfl⟩ := e5
        have q1 : ((m : Int) == 1) = false := beq_eq_false_iff_ne.2 (by omega)
        have q2 : ((m : Int) == 2) = false := beq_eq_false_iff_ne.2 (by omega)
        have q5 : ((m : Int) == 5) = true := beq_iff_eq.2 (by omega)
        have c5 : cnt true m = 5 := by subst e5; rfl
        have HS : RowKit.Hid (cnt true (m + 1) = 6 + 1) := Lib.hid (by subst e5; rfl)
        have HP : RowKit.Hid ((30 : Int) = M 5) := Lib.hid (by rw [← HM.out]; exact mlen_5 kd)
        have HP6 : RowKit.Hid (plv m = M 6) := Lib.hid (by rw [← HM.out]; subst e5; exact mlen_6 kd)
        rw [c5] at T
        clear hlt c5 e5
        go_wp2_with (first | (go_at_call 105; (with_reducible refine (tadd_c M wA.heap.size 5 30 wr T (by omega) HP.out).mono ?_); rintro e w1 ⟨rfl, T1, g1, o1, z1, f1⟩; have k3 := (o1 w.heap.size 1 (by omega)).trans k1; have k4 := (o1 w.heap.size 2 (by omega)).trans k2) | (go_at_call 105; (with_reducible refine (tadd_c M wA.heap.size 6 (plv m) w1 T1 (by omega) HP6.out).mono ?_); rintro e w2 ⟨rfl, T2, g2, o2, z2, f2⟩))
        go_roundg (12 - (m + 1))
        case measure => omega
        case rel => exact ⟨m + 1, by omega, Nat.le_refl _, by go_num, by rw [HS.out]; exact T2, (o2 _ _ (by omega)).trans k3, (o2 _ _ (by omega)).trans k4, by rw [z2, z1]; exact hl, (HR.out.other (by omega) o1 z1 f1).other (by omega) o2 z2 f2, g2 _ (g1 _ hg (by omega)) (by omega)⟩
      · have HS : RowKit.Hid (cnt l (m + 1) = cnt l m + 1) := Lib.hid (cnt_step fun z => e5 ⟨z.2, z.1⟩)
        by_cases e1 : m = 1
        · have q1 : ((m : Int) == 1) = true := beq_iff_eq.2 (by omega)
          have q2 : ((m : Int) == 2) = false := beq_eq_false_iff_ne.2 (by omega)
          have q5 : ((m : Int) == 5) = false := beq_eq_false_iff_ne.2 (by omega)
          by_cases e2 : kd = 2
          · have HP : RowKit.Hid (plv m + 1 = M (cnt l m)) := Lib.hid (by rw [← HM.out, e1, show cnt l 1 = 1 from by cases l <;> rfl]; exact mlen_1y l e2)
            have qk : (kd == 2) = true := beq_iff_eq.2 e2
            clear e1 e2 e5
            go_wp2_with (first | (go_at_call 105; (with_reducible refine (tadd_c M wA.heap.size (cnt l m) (plv m + 1) wr T hlt HP.out).mono ?_); rintro e w1 ⟨rfl, T1, g1, o1, z1, f1⟩))
            go_roundg (12 - (m + 1))
            case measure => omega
            case rel => exact ⟨m + 1, by omega, Nat.le_refl _, by go_num, by rw [HS.out]; exact T1, (o1 _ _ (by omega)).trans k1, (o1 _ _ (by omega)).trans k2, by rw [z1]; exact hl, HR.out.other (by omega) o1 z1 f1, g1 _ hg (by omega)⟩
          · have HP : RowKit.Hid (plv m = M (cnt l m)) := Lib.hid (by rw [← HM.out, e1, show cnt l 1 = 1 from by cases l <;> rfl]; exact mlen_1n l e2)
            have qk : (kd == 2) = false := beq_eq_false_iff_ne.2 e2
            clear e1 e2 e5
            go_wp2_with (first | (go_at_call 105; (with_reducible refine (tadd_c M wA.heap.size (cnt l m) (plv m) wr T hlt HP.out).mono ?_); rintro e w1 ⟨rfl, T1, g1, o1, z1, f1⟩))
            go_roundg (12 - (m + 1))
            case measure => omega
            case rel => exact ⟨m + 1, by omega, Nat.le_refl _, by go_num, by rw [HS.out]; exact T1, (o1 _ _ (by omega)).trans k1, (o1 _ _ (by omega)).trans k2, by rw [z1]; exact hl, HR.out.other (by omega) o1 z1 f1, g1 _ hg (by omega)⟩
        · by_cases e2 : m = 2
          · have q1 : ((m : Int) == 1) = false := beq_eq_false_iff_ne.2 (by omega)
            have q2 : ((m : Int) == 2) = true := beq_iff_eq.2 (by omega)
            have q5 : ((m : Int) == 5) = false := beq_eq_false_iff_ne.2 (by omega)
            by_cases e3 : kd = 0
            · have HP : RowKit.Hid (plv m - 1 = M (cnt l m)) := Lib.hid (by rw [← HM.out, e2, show cnt l 2 = 2 from by cases l <;> rfl]; exact mlen_2y l e3)
              have qk : (kd == 0) = true := beq_iff_eq.2 e3
              clear e1 e2 e3 e5
              go_wp2_with (first | (go_at_call 105; (with_reducible refine (tadd_c M wA.heap.size (cnt l m) (plv m - 1) wr T hlt HP.out).mono ?_); rintro e w1 ⟨rfl, T1, g1, o1, z1, f1⟩))
              go_roundg (12 - (m + 1))
              case measure => omega
              case rel => exact ⟨m + 1, by omega, Nat.le_refl _, by go_num, by rw [HS.out]; exact T1, (o1 _ _ (by omega)).trans k1, (o1 _ _ (by omega)).trans k2, by rw [z1]; exact hl, HR.out.other (by omega) o1 z1 f1, g1 _ hg (by omega)⟩
            · have HP : RowKit.Hid (plv m = M (cnt l m)) := Lib.hid (by rw [← HM.out, e2, show cnt l 2 = 2 from by cases l <;> rfl]; exact mlen_2n l e3)
              have qk : (kd == 0) = false := beq_eq_false_iff_ne.2 e3
              clear e1 e2 e3 e5
              go_wp2_with (first | (go_at_call 105; (with_reducible refine (tadd_c M wA.heap.size (cnt l m) (plv m) wr T hlt HP.out).mono ?_); rintro e w1 ⟨rfl, T1, g1, o1, z1, f1⟩))
              go_roundg (12 - (m + 1))
              case measure => omega
              case rel => exact ⟨m + 1, by omega, Nat.le_refl _, by go_num, by rw [HS.out]; exact T1, (o1 _ _ (by omega)).trans k1, (o1 _ _ (by omega)).trans k2, by rw [z1]; exact hl, HR.out.other (by omega) o1 z1 f1, g1 _ hg (by omega)⟩
          · have q1 : ((m : Int) == 1) = false := beq_eq_false_iff_ne.2 (by omega)
            have q2 : ((m : Int) == 2) = false := beq_eq_false_iff_ne.2 (by omega)
            have HP : RowKit.Hid (plv m = M (cnt l m)) := Lib.hid (by rw [← HM.out]; exact mlen_plain e e1 e2 fun z => e5 ⟨z.2, z.1⟩)
            by_cases e6 : m = 5
            · have q5 : ((m : Int) == 5) = true := beq_iff_eq.2 (by omega)
              have hl0 : l = false := by cases l <;> simp_all
              subst hl0
              clear e1 e2 e5 e6
              go_wp2_with (first | (go_at_call 105; (with_reducible refine (tadd_c M wA.heap.size (cnt false m) (plv m) wr T hlt HP.out).mono ?_); rintro e w1 ⟨rfl, T1, g1, o1, z1, f1⟩))
              go_roundg (12 - (m + 1))
              case measure => omega
              case rel => exact ⟨m + 1, by omega, Nat.le_refl _, by go_num, by rw [HS.out]; exact T1, (o1 _ _ (by omega)).trans k1, (o1 _ _ (by omega)).trans k2, by rw [z1]; exact hl, HR.out.other (by omega) o1 z1 f1, g1 _ hg (by omega)⟩
            · have q5 : ((m : Int) == 5) = false := beq_eq_false_iff_ne.2 (by omega)
              clear e1 e2 e5 e6
              go_wp2_with (first | (go_at_call 105; (with_reducible refine (tadd_c M wA.heap.size (cnt l m) (plv m) wr T hlt HP.out).mono ?_); rintro e w1 ⟨rfl, T1, g1, o1, z1, f1⟩))
              go_roundg (12 - (m + 1))
              case measure => omega
              case rel => exact ⟨m + 1, by omega, Nat.le_refl _, by go_num, by rw [HS.out]; exact T1, (o1 _ _ (by omega)).trans k1, (o1 _ _ (by omega)).trans k2, by rw [z1]; exact hl, HR.out.other (by omega) o1 z1 f1, g1 _ hg (by omega)⟩
    · obtain rfl : m = 12 := by omega
      rw [cnt_all] at T
      obtain ⟨r0, r1, r2, r3, r4, r5, r6, r7, r8, r9, r10, r11, r12, r13⟩ := HR.out.cs
      obtain ⟨f0, f1, f2, f3, f4, f5, f6, f7, f8, f9, f10, f11, f12, f13⟩ := HR.out.fs
      obtain ⟨t0, t1, t2, t3, t4, t5, t6, t7, t8, t9, t10, t11, t12, t13⟩ := T.cs
      clear T HI HM
      go_wp2
      change bodyPost _ _ _ _ _ (stores wr (w.heap.size + 1) [.int .i64 (tf M (mct l) 0), .int .i64 (tf M (mct l) 1), .int .i64 (tf M (mct l) 2), .int .i64 (tf M (mct l) 3), .int .i64 (tf M (mct l) 4), .int .i64 (tf M (mct l) 5), .int .i64 (tf M (mct l) 6), .int .i64 (tf M (mct l) 7), .int .i64 (tf M (mct l) 8), .int .i64 (tf M (mct l) 9), .int .i64 (tf M (mct l) 10), .int .i64 (tf M (mct l) 11), .int .i64 (tf M (mct l) 12), .int .i64 ((mct l : Nat) : Int)] 0)
      have hF : Gr w (stores wr (w.heap.size + 1) [.int .i64 (tf M (mct l) 0), .int .i64 (tf M (mct l) 1), .int .i64 (tf M (mct l) 2), .int .i64 (tf M (mct l) 3), .int .i64 (tf M (mct l) 4), .int .i64 (tf M (mct l) 5), .int .i64 (tf M (mct l) 6), .int .i64 (tf M (mct l) 7), .int .i64 (tf M (mct l) 8), .int .i64 (tf M (mct l) 9), .int .i64 (tf M (mct l) 10), .int .i64 (tf M (mct l) 11), .int .i64 (tf M (mct l) 12), .int .i64 ((mct l : Nat) : Int)] 0) := stores_gr hg (by omega)
      have cF := stores_cell (w := wr) (b := w.heap.size + 1) (vs := [.int .i64 (tf M (mct l) 0), .int .i64 (tf M (mct l) 1), .int .i64 (tf M (mct l) 2), .int .i64 (tf M (mct l) 3), .int .i64 (tf M (mct l) 4), .int .i64 (tf M (mct l) 5), .int .i64 (tf M (mct l) 6), .int .i64 (tf M (mct l) 7), .int .i64 (tf M (mct l) 8), .int .i64 (tf M (mct l) 9), .int .i64 (tf M (mct l) 10), .int .i64 (tf M (mct l) 11), .int .i64 (tf M (mct l) 12), .int .i64 ((mct l : Nat) : Int)]) (o := 0) (fun j hj => by
        by_cases z : j < 13
        · exact ⟨_, by rw [Nat.zero_add]; exact HR.out.c j z⟩
        · simp at hj
          obtain rfl : j = 13 := by omega
          exact ⟨_, HR.out.z⟩)
      obtain ⟨WF, hWF⟩ : ∃ WF, WF = stores wr (w.heap.size + 1) [.int .i64 (tf M (mct l) 0), .int .i64 (tf M (mct l) 1), .int .i64 (tf M (mct l) 2), .int .i64 (tf M (mct l) 3), .int .i64 (tf M (mct l) 4), .int .i64 (tf M (mct l) 5), .int .i64 (tf M (mct l) 6), .int .i64 (tf M (mct l) 7), .int .i64 (tf M (mct l) 8), .int .i64 (tf M (mct l) 9), .int .i64 (tf M (mct l) 10), .int .i64 (tf M (mct l) 11), .int .i64 (tf M (mct l) 12), .int .i64 ((mct l : Nat) : Int)] 0 := ⟨_, rfl⟩
      rw [← hWF] at cF hF ⊢
      have s0 := cF 0 (by simp)
      have s1 := cF 1 (by simp)
      have s2 := cF 2 (by simp)
      have s3 := cF 3 (by simp)
      have s4 := cF 4 (by simp)
      have s5 := cF 5 (by simp)
      have s6 := cF 6 (by simp)
      have s7 := cF 7 (by simp)
      have s8 := cF 8 (by simp)
      have s9 := cF 9 (by simp)
      have s10 := cF 10 (by simp)
      have s11 := cF 11 (by simp)
      have s12 := cF 12 (by simp)
      have s13 := cF 13 (by simp)
      simp only [Nat.zero_add, List.getElem?_cons_zero, List.getElem?_cons_succ] at s0 s1 s2 s3 s4 s5 s6 s7 s8 s9 s10 s11 s12 s13
      clear cF hWF t0 t1 t2 t3 t4 t5 t6 t7 t8 t9 t10 t11 t12 t13 f0 f1 f2 f3 f4 f5 f6 f7 f8 f9 f10 f11 f12 f13 r0 r1 r2 r3 r4 r5 r6 r7 r8 r9 r10 r11 r12 r13 HR C1 HG k1 k2 kz
      exact bodyPost_ret (v := .agg #[.int .i64 (tf M (mct l) 0), .int .i64 (tf M (mct l) 1), .int .i64 (tf M (mct l) 2), .int .i64 (tf M (mct l) 3), .int .i64 (tf M (mct l) 4), .int .i64 (tf M (mct l) 5), .int .i64 (tf M (mct l) 6), .int .i64 (tf M (mct l) 7), .int .i64 (tf M (mct l) 8), .int .i64 (tf M (mct l) 9), .int .i64 (tf M (mct l) 10), .int .i64 (tf M (mct l) 11), .int .i64 (tf M (mct l) 12), .int .i64 ((mct l) : Int)]) (by simp [results, Tryz.results89, go_sem, s0, s1, s2, s3, s4, s5, s6, s7, s8, s9, s10, s11, s12, s13]) rfl ⟨rfl, hF⟩

end Go.Proofs.YtkiopgegdkeojaaGreatDoor.Walks
