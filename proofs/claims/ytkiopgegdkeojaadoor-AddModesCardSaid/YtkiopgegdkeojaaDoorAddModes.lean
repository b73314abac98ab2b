/- With Constrain nothing is rejected; what Reject tells, Constrain tells, too: the walk of the law; every input. -/
import Derived.Test.YtkiopgegdkeojaaDoorAwake16
set_option linter.unusedVariables false
set_option linter.unusedSimpArgs false
namespace Go.Proofs.YtkiopgegdkeojaaDoor.Walks
open Go Go.RowKit Go.Sort Go.Proofs.YtkiopgegdkeojaaDoor.Base Go.Proofs.YtkiopgegdkeojaaDoor.Plain Go.Proofs.YtkiopgegdkeojaaDoor.Math

theorem inE_0 (t n : Int) (c : Bool) : inE t n c 0 ≠ 7 := by
  unfold inE
  repeat' split
  all_goals (first | decide | (rename_i h; omega))
theorem inE_01 {t n : Int} {c : Bool} (h : inE t n c 1 ≠ 7) : inE t n c 0 = inE t n c 1 := by
  unfold inE at *
  by_cases a : 1 ≤ t ∧ t ≤ 9999 <;> by_cases b : cR n c = true <;> by_cases e : cHas (lp t) n c = true <;> simp [a, b, e] at h ⊢
theorem in1_01 {y : Int} {j : Nat} {t : Int} {i : Nat} (h : In1 y j 1 t i) : In1 y j 0 t i := by
  have e : inE t (cN (lp y) j) (cL (lp y) j) 0 = 0 := (inE_01 (by rw [h.e]; decide)).trans h.e
  refine ⟨h.t0, h.t1, h.i1, e, ?_, ?_⟩
  · have := h.n
    unfold inNum at this ⊢
    rw [h.e] at this
    rw [e]
    exact this
  · have := h.c
    unfold inLp at this ⊢
    rw [h.e] at this
    rw [e]
    exact this
theorem ft_01 {Y : Int} {J : Nat} {d N : Int} (h : Ft Y J d 1 N) : Ft Y J d 0 N := by
  rcases h.e with a | ⟨-, b, -⟩
  · exact ⟨.inl a⟩
  · cases b
theorem toK_0 {y : Int} {j : Nat} {d sy sm sw sd E R1 R2 R4 : Int} {R3 : Bool} (h : ToK y j d sy sm sw sd 0 E R1 R2 R3 R4) : E ≠ 7 := by
  cases h with
  | into _ e _ => rw [← e]; exact inE_0 _ _ _
  | months => decide
  | fit _ _ _ _ _ z => cases z
  | out => decide
  | ok => decide
/-- What Reject tells, Constrain tells, too; or Reject rejects. -/
theorem toK_01 {y : Int} {j : Nat} {d sy sm sw sd E R1 R2 R4 : Int} {R3 : Bool} (h : ToK y j d sy sm sw sd 1 E R1 R2 R3 R4) : E = 7 ∨ ToK y j d sy sm sw sd 0 E R1 R2 R3 R4 := by
  cases h with
  | into _ e hE =>
    by_cases a : E = 7
    · exact .inl a
    · exact .inr (.into _ (by rw [inE_01 (by rw [e]; exact a), e]) hE)
  | months i h1 a => exact .inr (.months i (in1_01 h1) a)
  | fit => exact .inl rfl
  | out i Y J N h1 h2 h3 a => exact .inr (.out i Y J N (in1_01 h1) h2 (ft_01 h3) a)
  | ok i Y J N Y' J' N' h1 h2 h3 h4 e => exact .inr (.ok i Y J N R1 J' R4 (in1_01 h1) h2 (ft_01 h3) h4 e)

set_option maxRecDepth 20000 in
set_option maxHeartbeats 8000000 in
theorem modes_core (y n d p q r s A1 A2 A4 E B1 B2 B4 F : Int) (c A3 B3 : Bool) (w : World) (G : GT w)
    (c1 : ∀ W, Gr w W → Calls Tryd.prog 6 #[.agg #[.int .i64 y, .int .i64 n, .bool c, .int .i64 d], .agg #[.int .i64 p, .int .i64 q, .int .i64 r, .int .i64 s], .int .i64 0] W fun e w' => e = .returned (.tuple #[.agg #[.int .i64 A1, .int .i64 A2, .bool A3, .int .i64 A4], .int .i64 E]) ∧ Gr W w')
    (c2 : ∀ W, Gr w W → Calls Tryd.prog 6 #[.agg #[.int .i64 y, .int .i64 n, .bool c, .int .i64 d], .agg #[.int .i64 p, .int .i64 q, .int .i64 r, .int .i64 s], .int .i64 1] W fun e w' => e = .returned (.tuple #[.agg #[.int .i64 B1, .int .i64 B2, .bool B3, .int .i64 B4], .int .i64 F]) ∧ Gr W w')
    (h7 : E ≠ 7) (hp : (F = 0 ∧ E = 0 ∧ A1 = B1 ∧ A2 = B2 ∧ A3 = B3 ∧ A4 = B4) ∨ (F ≠ 0 ∧ F = 7) ∨ (F ≠ 0 ∧ F ≠ 7 ∧ F = E)) :
    Calls Tryd.prog 3 #[.agg #[.int .i64 y, .int .i64 n, .bool c, .int .i64 d], .agg #[.int .i64 p, .int .i64 q, .int .i64 r, .int .i64 s]] w fun e w' => e = .returned (.bool true) ∧ Gr w w' := by
  have C1 := Lib.hid c1
  have C2 := Lib.hid c2
  have C9 := Lib.hid fun W (hW : Gr w W) => awake16_c W (G.gr hW)
  have x0 : (E == 7) = false := beq_eq_false_iff_ne.2 h7
  have x1 : (E != 7) = true := by simp [bne_iff_ne, h7]
  clear c1 c2 G
  rcases hp with ⟨rfl, rfl, rfl, rfl, rfl, rfl⟩ | ⟨hF, rfl⟩ | ⟨hF, h8, rfl⟩
  · go_enter Tryd.func3, Tryd.ntmps3
    go_wp2_with (first | (go_at_call 6; (with_reducible refine (C1.out _ ((by repeat (first | exact Gr.refl _ | refine Gr.setCell ?_ _ _ (by first | exact Nat.le_refl _ | (simp; omega) | (simp; done)) | refine Gr.grown ?_ _ _ | refine Gr.drewN ?_ _ | refine Gr.drew ?_ | refine Gr.alloc ?_ _ | refine Gr.grow ?_ _ | (refine Gr.trans ?_ (by assumption)))))).mono ?_); rintro e wA ⟨rfl, hgwA⟩; obtain ⟨hclwA, hfzwA, hszwA⟩ := gcell hgwA; (try simp [Nat.add_one_le_iff] at hszwA); have hlwA_w : w.heap.size < wA.heap.size := (by omega)) | (go_at_call 6; (with_reducible refine (C2.out _ ((by repeat (first | exact Gr.refl _ | refine Gr.setCell ?_ _ _ (by first | exact Nat.le_refl _ | (simp; omega) | (simp; done)) | refine Gr.grown ?_ _ _ | refine Gr.drewN ?_ _ | refine Gr.drew ?_ | refine Gr.alloc ?_ _ | refine Gr.grow ?_ _ | (refine Gr.trans ?_ (by assumption)))))).mono ?_); rintro e wB ⟨rfl, hgwB⟩; obtain ⟨hclwB, hfzwB, hszwB⟩ := gcell hgwB; (try simp [Nat.add_one_le_iff] at hszwB); have hlwB_w : w.heap.size < wB.heap.size := (by omega); have hlwB_wA : wA.heap.size < wB.heap.size := (by omega)) | (go_at_call 7; (with_reducible refine (C9.out _ ((by repeat (first | exact Gr.refl _ | refine Gr.setCell ?_ _ _ (by first | exact Nat.le_refl _ | (simp; omega) | (simp; done)) | refine Gr.grown ?_ _ _ | refine Gr.drewN ?_ _ | refine Gr.drew ?_ | refine Gr.alloc ?_ _ | refine Gr.grow ?_ _ | (refine Gr.trans ?_ (by assumption)))))).mono ?_); rintro e wC ⟨rfl, hgwC⟩; obtain ⟨hclwC, hfzwC, hszwC⟩ := gcell hgwC; (try simp [Nat.add_one_le_iff] at hszwC); have hlwC_w : w.heap.size < wC.heap.size := (by omega); have hlwC_wA : wA.heap.size < wC.heap.size := (by omega); have hlwC_wB : wB.heap.size < wC.heap.size := (by omega)))
    go_ret
    exact ⟨rfl, (by repeat (first | exact Gr.refl _ | refine Gr.setCell ?_ _ _ (by first | exact Nat.le_refl _ | (simp; omega) | (simp; done)) | refine Gr.grown ?_ _ _ | refine Gr.drewN ?_ _ | refine Gr.drew ?_ | refine Gr.alloc ?_ _ | refine Gr.grow ?_ _ | (refine Gr.trans ?_ (by assumption))))⟩
  · go_enter Tryd.func3, Tryd.ntmps3
    go_wp2_with (first | (go_at_call 6; (with_reducible refine (C1.out _ ((by repeat (first | exact Gr.refl _ | refine Gr.setCell ?_ _ _ (by first | exact Nat.le_refl _ | (simp; omega) | (simp; done)) | refine Gr.grown ?_ _ _ | refine Gr.drewN ?_ _ | refine Gr.drew ?_ | refine Gr.alloc ?_ _ | refine Gr.grow ?_ _ | (refine Gr.trans ?_ (by assumption)))))).mono ?_); rintro e wA ⟨rfl, hgwA⟩; obtain ⟨hclwA, hfzwA, hszwA⟩ := gcell hgwA; (try simp [Nat.add_one_le_iff] at hszwA); have hlwA_w : w.heap.size < wA.heap.size := (by omega)) | (go_at_call 6; (with_reducible refine (C2.out _ ((by repeat (first | exact Gr.refl _ | refine Gr.setCell ?_ _ _ (by first | exact Nat.le_refl _ | (simp; omega) | (simp; done)) | refine Gr.grown ?_ _ _ | refine Gr.drewN ?_ _ | refine Gr.drew ?_ | refine Gr.alloc ?_ _ | refine Gr.grow ?_ _ | (refine Gr.trans ?_ (by assumption)))))).mono ?_); rintro e wB ⟨rfl, hgwB⟩; obtain ⟨hclwB, hfzwB, hszwB⟩ := gcell hgwB; (try simp [Nat.add_one_le_iff] at hszwB); have hlwB_w : w.heap.size < wB.heap.size := (by omega); have hlwB_wA : wA.heap.size < wB.heap.size := (by omega)) | (go_at_call 7; (with_reducible refine (C9.out _ ((by repeat (first | exact Gr.refl _ | refine Gr.setCell ?_ _ _ (by first | exact Nat.le_refl _ | (simp; omega) | (simp; done)) | refine Gr.grown ?_ _ _ | refine Gr.drewN ?_ _ | refine Gr.drew ?_ | refine Gr.alloc ?_ _ | refine Gr.grow ?_ _ | (refine Gr.trans ?_ (by assumption)))))).mono ?_); rintro e wC ⟨rfl, hgwC⟩; obtain ⟨hclwC, hfzwC, hszwC⟩ := gcell hgwC; (try simp [Nat.add_one_le_iff] at hszwC); have hlwC_w : w.heap.size < wC.heap.size := (by omega); have hlwC_wA : wA.heap.size < wC.heap.size := (by omega); have hlwC_wB : wB.heap.size < wC.heap.size := (by omega)))
    go_ret
    exact ⟨rfl, (by repeat (first | exact Gr.refl _ | refine Gr.setCell ?_ _ _ (by first | exact Nat.le_refl _ | (simp; omega) | (simp; done)) | refine Gr.grown ?_ _ _ | refine Gr.drewN ?_ _ | refine Gr.drew ?_ | refine Gr.alloc ?_ _ | refine Gr.grow ?_ _ | (refine Gr.trans ?_ (by assumption))))⟩
  · have y0 : (F == 0) = false := beq_eq_false_iff_ne.2 hF
    have y1 : (F != 0) = true := by simp [bne_iff_ne, hF]
    go_enter Tryd.func3, Tryd.ntmps3
    go_wp2_with (first | (go_at_call 6; (with_reducible refine (C1.out _ ((by repeat (first | exact Gr.refl _ | refine Gr.setCell ?_ _ _ (by first | exact Nat.le_refl _ | (simp; omega) | (simp; done)) | refine Gr.grown ?_ _ _ | refine Gr.drewN ?_ _ | refine Gr.drew ?_ | refine Gr.alloc ?_ _ | refine Gr.grow ?_ _ | (refine Gr.trans ?_ (by assumption)))))).mono ?_); rintro e wA ⟨rfl, hgwA⟩; obtain ⟨hclwA, hfzwA, hszwA⟩ := gcell hgwA; (try simp [Nat.add_one_le_iff] at hszwA); have hlwA_w : w.heap.size < wA.heap.size := (by omega)) | (go_at_call 6; (with_reducible refine (C2.out _ ((by repeat (first | exact Gr.refl _ | refine Gr.setCell ?_ _ _ (by first | exact Nat.le_refl _ | (simp; omega) | (simp; done)) | refine Gr.grown ?_ _ _ | refine Gr.drewN ?_ _ | refine Gr.drew ?_ | refine Gr.alloc ?_ _ | refine Gr.grow ?_ _ | (refine Gr.trans ?_ (by assumption)))))).mono ?_); rintro e wB ⟨rfl, hgwB⟩; obtain ⟨hclwB, hfzwB, hszwB⟩ := gcell hgwB; (try simp [Nat.add_one_le_iff] at hszwB); have hlwB_w : w.heap.size < wB.heap.size := (by omega); have hlwB_wA : wA.heap.size < wB.heap.size := (by omega)) | (go_at_call 7; (with_reducible refine (C9.out _ ((by repeat (first | exact Gr.refl _ | refine Gr.setCell ?_ _ _ (by first | exact Nat.le_refl _ | (simp; omega) | (simp; done)) | refine Gr.grown ?_ _ _ | refine Gr.drewN ?_ _ | refine Gr.drew ?_ | refine Gr.alloc ?_ _ | refine Gr.grow ?_ _ | (refine Gr.trans ?_ (by assumption)))))).mono ?_); rintro e wC ⟨rfl, hgwC⟩; obtain ⟨hclwC, hfzwC, hszwC⟩ := gcell hgwC; (try simp [Nat.add_one_le_iff] at hszwC); have hlwC_w : w.heap.size < wC.heap.size := (by omega); have hlwC_wA : wA.heap.size < wC.heap.size := (by omega); have hlwC_wB : wB.heap.size < wC.heap.size := (by omega)))
    go_ret
    exact ⟨rfl, (by repeat (first | exact Gr.refl _ | refine Gr.setCell ?_ _ _ (by first | exact Nat.le_refl _ | (simp; omega) | (simp; done)) | refine Gr.grown ?_ _ _ | refine Gr.drewN ?_ _ | refine Gr.drew ?_ | refine Gr.alloc ?_ _ | refine Gr.grow ?_ _ | (refine Gr.trans ?_ (by assumption))))⟩

theorem addModes_t (y n : Int) (c : Bool) (d p q r s : Int) (w : World) (G : GT w) :
    Calls Tryd.prog 3 #[.agg #[.int .i64 y, .int .i64 n, .bool c, .int .i64 d], .agg #[.int .i64 p, .int .i64 q, .int .i64 r, .int .i64 s]] w fun e w' => e = .returned (.bool true) ∧ Gr w w' := by
  cases hR : spR p q r s
  · exact modes_core y n d p q r s 0 0 0 1 0 0 0 1 c false false w G (fun W hW => to_bad _ _ _ _ _ _ _ _ _ W (.inl hR)) (fun W hW => to_bad _ _ _ _ _ _ _ _ _ W (.inl hR)) (by decide) (.inr (.inr ⟨by decide, by decide, rfl⟩))
  · by_cases h : ∃ j, n = cN (lp y) j ∧ c = cL (lp y) j ∧ HV y j d
    · obtain ⟨j, rfl, rfl, hv⟩ := h
      obtain ⟨F, B1, B2, B3, B4, k1⟩ := toK_ex hv p q r s 1 (.inr rfl)
      rcases toK_01 k1 with rfl | k0
      · obtain ⟨E, A1, A2, A3, A4, k0⟩ := toK_ex hv p q r s 0 (.inl rfl)
        exact modes_core y _ d p q r s A1 A2 A4 E B1 B2 B4 7 _ A3 B3 w G (fun W hW => to_c hv hR (.inl rfl) k0 W (G.gr hW)) (fun W hW => to_c hv hR (.inr rfl) k1 W (G.gr hW)) (toK_0 k0) (.inr (.inl ⟨by decide, rfl⟩))
      · refine modes_core y _ d p q r s B1 B2 B4 F B1 B2 B4 F _ B3 B3 w G (fun W hW => to_c hv hR (.inl rfl) k0 W (G.gr hW)) (fun W hW => to_c hv hR (.inr rfl) k1 W (G.gr hW)) (toK_0 k0) ?_
        by_cases z : F = 0
        · exact .inl ⟨z, z, rfl, rfl, rfl, rfl⟩
        · exact .inr (.inr ⟨z, toK_0 k0, rfl⟩)
    · obtain ⟨E, e0, e1, c1, -⟩ := to_date_c y n d p q r s 0 c hR (.inl rfl) h
      obtain ⟨F, f0, f1, c2, -⟩ := to_date_c y n d p q r s 1 c hR (.inr rfl) h
      obtain ⟨X, x0, x1, c3, -⟩ := adate_bad y n c d h
      exact modes_core y n d p q r s 0 0 0 X 0 0 0 X c false false w G (fun W hW => to_date y n d p q r s 0 X c W hR (.inl rfl) (by omega) fun V hV => c3 V ((G.gr hW).gr hV)) (fun W hW => to_date y n d p q r s 1 X c W hR (.inr rfl) (by omega) fun V hV => c3 V ((G.gr hW).gr hV)) (by omega) (.inr (.inr ⟨by omega, by omega, rfl⟩))

end Go.Proofs.YtkiopgegdkeojaaDoor.Walks
