/- Walks of almanackerref08: the lengths of a type's months, and what comes of them. -/
import Derived.Test.YtkiopgegdkeojaaGreatDoorMonth4
import Derived.Test.YtkiopgegdkeojaaGreatDoorOwn
set_option linter.unusedVariables false
set_option linter.unusedSimpArgs false
namespace Go.Proofs.YtkiopgegdkeojaaGreatDoor.Walks
open Go Go.RowKit Go.Sort Go.Proofs.YtkiopgegdkeojaaGreatDoor.Base Go.Proofs.YtkiopgegdkeojaaGreatDoor.Plain Go.Proofs.YtkiopgegdkeojaaGreatDoor.Math

theorem ninfo_int : (Tryz.prog.info? 3).map (fun i => (i.zero, i.size, i.bytes)) = some (some (.int .i64 0), 1, 8) := by kernel_rfl
theorem nund_ints : Tryz.prog.underlying 53 = some (.slice 3) := by kernel_rfl
/-- 'append(row, ..)': a row of numbers of the call's own. -/
theorem append_ints (w : World) {ops : Array Oper} {rest : List Oper} {o : Oper} {a : Act} {Q : Exit → Act → World → Prop} (hg : o.guard = none) (s x : Operand)
    (hop : o.op = .call { callee := .builtin .append, args := #[s, x], argTypes := #[53, 53] })
    (base : Nat) (v : Value) (n : Nat) (xs : List Value) (hs : a.eval s = v) (hown : w.ownsRow base 3 1 v n xs)
    (ad : Addr) (m c : Nat) (news : List Value) (hx : a.eval x = .slice (some ad) m c) (hl : news.length = m) (hnews : ∀ j u, news[j]? = some u → w.cell? (ad.add j) = some u) (h1 : ∀ u ∈ news, u.oneCell' = true)
    (hm : 0 < m) (hsm : n + m ≤ 100000) (hbase : base ≤ w.heap.size)
    (hK : ∀ g cap w', w'.ownsRow base 3 1 (.slice (some ⟨g, 0, none⟩) (n + m) cap) (n + m) (xs ++ news) → w.grownBy w' v.ownBlock → base ≤ g → (∀ W, Gr W w → W.heap.size ≤ base → Gr W w') →
      wpList Tryz.prog ops Q rest (a.put o.dst (.slice (some ⟨g, 0, none⟩) (n + m) cap)) w') : wpList Tryz.prog ops Q (o :: rest) a w := by
  obtain ⟨i, h2, h3, h4, h5⟩ := info_parts ninfo_int
  exact wpList_append_gr w hg s x 53 hop base 3 i (.int .i64 0) 1 8 nund_ints h2 h3 h4 h5 rfl (by decide) v n xs hs hown ad m c news hx (by omega) hnews h1 hm (by simp only [maxLen]; omega) (by omega) hbase hK

/-- The five, and the seven, that the reference lays. -/
def l5 (kd : Int) : List Value := [.int .i64 30, .int .i64 (if kd = 2 then 30 else 29), .int .i64 (if kd = 0 then 29 else 30), .int .i64 29, .int .i64 30]
def l7 : List Value := [.int .i64 29, .int .i64 30, .int .i64 29, .int .i64 30, .int .i64 29, .int .i64 30, .int .i64 29]
theorem l_leap (kd : Int) (j : Nat) (hj : j < 13) : (l5 kd ++ [.int .i64 30] ++ l7)[j]? = some (.int .i64 (mlen kd true j)) := by
  have : j = 0 ∨ j = 1 ∨ j = 2 ∨ j = 3 ∨ j = 4 ∨ j = 5 ∨ j = 6 ∨ j = 7 ∨ j = 8 ∨ j = 9 ∨ j = 10 ∨ j = 11 ∨ j = 12 := by omega
  rcases this with rfl | rfl | rfl | rfl | rfl | rfl | rfl | rfl | rfl | rfl | rfl | rfl | rfl <;> simp [l5, l7, mlen]
theorem l_plain (kd : Int) (j : Nat) (hj : j < 12) : (l5 kd ++ l7)[j]? = some (.int .i64 (mlen kd false j)) := by
  have : j = 0 ∨ j = 1 ∨ j = 2 ∨ j = 3 ∨ j = 4 ∨ j = 5 ∨ j = 6 ∨ j = 7 ∨ j = 8 ∨ j = 9 ∨ j = 10 ∨ j = 11 := by omega
  rcases this with rfl | rfl | rfl | rfl | rfl | rfl | rfl | rfl | rfl | rfl | rfl | rfl <;> simp [l5, l7, mlen]

theorem news1 {w : World} {g : Nat} (hg : w.heap.size = g) (v : Value) (t : TypeId) : ∀ j u, [v][j]? = some u → (w.alloc (.cells #[v] t)).cell? ((⟨g, 0, none⟩ : Addr).add j) = some u := by
  subst hg
  intro j u hj
  match j, hj with
  | 0, hj => simp at hj; subst hj; simp [go_sem, Addr.add]
theorem news7 {w : World} {g : Nat} (hg : w.heap.size = g) (t : TypeId) : ∀ j u, l7[j]? = some u → (w.alloc (.cells #[.int .i64 29, .int .i64 30, .int .i64 29, .int .i64 30, .int .i64 29, .int .i64 30, .int .i64 29] t)).cell? ((⟨g, 0, none⟩ : Addr).add j) = some u := by
  subst hg
  intro j u hj
  match j, hj with
  | 0, hj => simp [l7] at hj; subst hj; simp [go_sem, Addr.add]
  | 1, hj => simp [l7] at hj; subst hj; simp [go_sem, Addr.add]
  | 2, hj => simp [l7] at hj; subst hj; simp [go_sem, Addr.add]
  | 3, hj => simp [l7] at hj; subst hj; simp [go_sem, Addr.add]
  | 4, hj => simp [l7] at hj; subst hj; simp [go_sem, Addr.add]
  | 5, hj => simp [l7] at hj; subst hj; simp [go_sem, Addr.add]
  | 6, hj => simp [l7] at hj; subst hj; simp [go_sem, Addr.add]
/-- What comes of lengths: a slice that holds the months' days. -/
def Lens (kd : Int) (l : Bool) (w : World) (e : Ending) (w' : World) : Prop :=
  ∃ g cap, e = .returned (.slice (some ⟨g, 0, none⟩) (mct l) cap) ∧ Row w' 1 (mct l) g (fun j => .int .i64 (mlen kd l j)) ∧ Gr w w'
set_option maxRecDepth 20000 in
set_option maxHeartbeats 2000000 in
theorem lens_c (b kd : Int) (l : Bool) (w : World) : Calls Tryz.prog 68 #[.agg #[.int .i64 b, .int .i64 kd, .bool l]] w (Lens kd l w) := by
  cases l
  · by_cases h2 : kd = 2
    · skip
      have O5 := own_new (w.alloc (.cells #[.int .i64 b, .int .i64 kd, .bool false] 61)) (base := w.heap.size) (g := w.heap.size + 1) (cs := #[.int .i64 30, .int .i64 30, .int .i64 30, .int .i64 29, .int .i64 30]) (e := 3) (size := 1) (n := 5) (by simp) (by simp) rfl (by decide)
      have e5 : l5 kd = [.int .i64 30, .int .i64 30, .int .i64 30, .int .i64 29, .int .i64 30] := by simp [l5, h2]
      subst h2
      go_enter Tryz.func68, Tryz.ntmps68
      go_wp2_with (first | (at_builtin; refine append_ints _ rfl _ _ rfl w.heap.size _ 5 [.int .i64 30, .int .i64 30, .int .i64 30, .int .i64 29, .int .i64 30] rfl (O5.alloc _) _ 7 7 l7 rfl rfl (news7 (by simp) _) (by simp [Value.oneCell', l7]) (by decide) (by decide) (by simp; try omega) ?_; intro g2 c2 wB O7 k2 b2 G2))
      go_ret
      exact ⟨g2, c2, rfl, row_of O7 (by decide) (fun j hj => by rw [← e5]; exact l_plain _ j hj), G2 w ((by repeat (first | exact Gr.refl _ | refine Gr.setCell ?_ _ _ (by first | exact Nat.le_refl _ | (simp; omega) | (simp; done)) | refine Gr.grown ?_ _ _ | refine Gr.drewN ?_ _ | refine Gr.drew ?_ | refine Gr.alloc ?_ _ | refine Gr.grow ?_ _ | (refine Gr.trans ?_ (by assumption))))) (Nat.le_refl _)⟩
    · by_cases h0 : kd = 0
      · skip
        have O5 := own_new (w.alloc (.cells #[.int .i64 b, .int .i64 kd, .bool false] 61)) (base := w.heap.size) (g := w.heap.size + 1) (cs := #[.int .i64 30, .int .i64 29, .int .i64 29, .int .i64 29, .int .i64 30]) (e := 3) (size := 1) (n := 5) (by simp) (by simp) rfl (by decide)
        have e5 : l5 kd = [.int .i64 30, .int .i64 29, .int .i64 29, .int .i64 29, .int .i64 30] := by simp [l5, h2, h0]
        clear h2
        subst h0
        go_enter Tryz.func68, Tryz.ntmps68
        go_wp2_with (first | (at_builtin; refine append_ints _ rfl _ _ rfl w.heap.size _ 5 [.int .i64 30, .int .i64 29, .int .i64 29, .int .i64 29, .int .i64 30] rfl (O5.alloc _) _ 7 7 l7 rfl rfl (news7 (by simp) _) (by simp [Value.oneCell', l7]) (by decide) (by decide) (by simp; try omega) ?_; intro g2 c2 wB O7 k2 b2 G2))
        go_ret
        exact ⟨g2, c2, rfl, row_of O7 (by decide) (fun j hj => by rw [← e5]; exact l_plain _ j hj), G2 w ((by repeat (first | exact Gr.refl _ | refine Gr.setCell ?_ _ _ (by first | exact Nat.le_refl _ | (simp; omega) | (simp; done)) | refine Gr.grown ?_ _ _ | refine Gr.drewN ?_ _ | refine Gr.drew ?_ | refine Gr.alloc ?_ _ | refine Gr.grow ?_ _ | (refine Gr.trans ?_ (by assumption))))) (Nat.le_refl _)⟩
      · skip
        have O5 := own_new (w.alloc (.cells #[.int .i64 b, .int .i64 kd, .bool false] 61)) (base := w.heap.size) (g := w.heap.size + 1) (cs := #[.int .i64 30, .int .i64 29, .int .i64 30, .int .i64 29, .int .i64 30]) (e := 3) (size := 1) (n := 5) (by simp) (by simp) rfl (by decide)
        have e5 : l5 kd = [.int .i64 30, .int .i64 29, .int .i64 30, .int .i64 29, .int .i64 30] := by simp [l5, h2, h0]
        have q2 : (kd == 2) = false := beq_eq_false_iff_ne.2 h2
        have q0 : (kd == 0) = false := beq_eq_false_iff_ne.2 h0
        clear h2 h0
        go_enter Tryz.func68, Tryz.ntmps68
        go_wp2_with (first | (at_builtin; refine append_ints _ rfl _ _ rfl w.heap.size _ 5 [.int .i64 30, .int .i64 29, .int .i64 30, .int .i64 29, .int .i64 30] rfl (O5.alloc _) _ 7 7 l7 rfl rfl (news7 (by simp) _) (by simp [Value.oneCell', l7]) (by decide) (by decide) (by simp; try omega) ?_; intro g2 c2 wB O7 k2 b2 G2))
        go_ret
        exact ⟨g2, c2, rfl, row_of O7 (by decide) (fun j hj => by rw [← e5]; exact l_plain _ j hj), G2 w ((by repeat (first | exact Gr.refl _ | refine Gr.setCell ?_ _ _ (by first | exact Nat.le_refl _ | (simp; omega) | (simp; done)) | refine Gr.grown ?_ _ _ | refine Gr.drewN ?_ _ | refine Gr.drew ?_ | refine Gr.alloc ?_ _ | refine Gr.grow ?_ _ | (refine Gr.trans ?_ (by assumption))))) (Nat.le_refl _)⟩
  · by_cases h2 : kd = 2
    · skip
      have O5 := own_new (w.alloc (.cells #[.int .i64 b, .int .i64 kd, .bool true] 61)) (base := w.heap.size) (g := w.heap.size + 1) (cs := #[.int .i64 30, .int .i64 30, .int .i64 30, .int .i64 29, .int .i64 30]) (e := 3) (size := 1) (n := 5) (by simp) (by simp) rfl (by decide)
      have e5 : l5 kd = [.int .i64 30, .int .i64 30, .int .i64 30, .int .i64 29, .int .i64 30] := by simp [l5, h2]
      subst h2
      go_enter Tryz.func68, Tryz.ntmps68
      go_wp2_with (first | (at_builtin; refine append_ints _ rfl _ _ rfl w.heap.size _ 5 [.int .i64 30, .int .i64 30, .int .i64 30, .int .i64 29, .int .i64 30] rfl (O5.alloc _) _ 1 1 [.int .i64 30] rfl rfl (news1 (by simp) _ _) (by simp [Value.oneCell']) (by decide) (by decide) (by simp; try omega) ?_; intro g1 c1 wA O6 k1 b1 G1; have GA : Gr w wA := G1 w ((by repeat (first | exact Gr.refl _ | refine Gr.setCell ?_ _ _ (by first | exact Nat.le_refl _ | (simp; omega) | (simp; done)) | refine Gr.grown ?_ _ _ | refine Gr.drewN ?_ _ | refine Gr.drew ?_ | refine Gr.alloc ?_ _ | refine Gr.grow ?_ _ | (refine Gr.trans ?_ (by assumption))))) (Nat.le_refl _); clear G1 k1 O5) | (at_builtin; refine append_ints _ rfl _ _ rfl w.heap.size _ 6 ([.int .i64 30, .int .i64 30, .int .i64 30, .int .i64 29, .int .i64 30] ++ [.int .i64 30]) rfl (O6.alloc _) _ 7 7 l7 rfl rfl (news7 (by simp) _) (by simp [Value.oneCell', l7]) (by decide) (by decide) (by have := GA.size; simp; omega) ?_; intro g2 c2 wB O7 k2 b2 G2))
      go_ret
      exact ⟨g2, c2, rfl, row_of O7 (by decide) (fun j hj => by rw [← e5]; exact l_leap _ j hj), G2 w ((by repeat (first | exact Gr.refl _ | refine Gr.setCell ?_ _ _ (by first | exact Nat.le_refl _ | (simp; omega) | (simp; done)) | refine Gr.grown ?_ _ _ | refine Gr.drewN ?_ _ | refine Gr.drew ?_ | refine Gr.alloc ?_ _ | refine Gr.grow ?_ _ | (refine Gr.trans ?_ (by assumption))))) (Nat.le_refl _)⟩
    · by_cases h0 : kd = 0
      · skip
        have O5 := own_new (w.alloc (.cells #[.int .i64 b, .int .i64 kd, .bool true] 61)) (base := w.heap.size) (g := w.heap.size + 1) (cs := #[.int .i64 30, .int .i64 29, .int .i64 29, .int .i64 29, .int .i64 30]) (e := 3) (size := 1) (n := 5) (by simp) (by simp) rfl (by decide)
        have e5 : l5 kd = [.int .i64 30, .int .i64 29, .int .i64 29, .int .i64 29, .int .i64 30] := by simp [l5, h2, h0]
        clear h2
        subst h0
        go_enter Tryz.func68, Tryz.ntmps68
        go_wp2_with (first | (at_builtin; refine append_ints _ rfl _ _ rfl w.heap.size _ 5 [.int .i64 30, .int .i64 29, .int .i64 29, .int .i64 29, .int .i64 30] rfl (O5.alloc _) _ 1 1 [.int .i64 30] rfl rfl (news1 (by simp) _ _) (by simp [Value.oneCell']) (by decide) (by decide) (by simp; try omega) ?_; intro g1 c1 wA O6 k1 b1 G1; have GA : Gr w wA := G1 w ((by repeat (first | exact Gr.refl _ | refine Gr.setCell ?_ _ _ (by first | exact Nat.le_refl _ | (simp; omega) | (simp; done)) | refine Gr.grown ?_ _ _ | refine Gr.drewN ?_ _ | refine Gr.drew ?_ | refine Gr.alloc ?_ _ | refine Gr.grow ?_ _ | (refine Gr.trans ?_ (by assumption))))) (Nat.le_refl _); clear G1 k1 O5) | (at_builtin; refine append_ints _ rfl _ _ rfl w.heap.size _ 6 ([.int .i64 30, .int .i64 29, .int .i64 29, .int .i64 29, .int .i64 30] ++ [.int .i64 30]) rfl (O6.alloc _) _ 7 7 l7 rfl rfl (news7 (by simp) _) (by simp [Value.oneCell', l7]) (by decide) (by decide) (by have := GA.size; simp; omega) ?_; intro g2 c2 wB O7 k2 b2 G2))
        go_ret
        exact ⟨g2, c2, rfl, row_of O7 (by decide) (fun j hj => by rw [← e5]; exact l_leap _ j hj), G2 w ((by repeat (first | exact Gr.refl _ | refine Gr.setCell ?_ _ _ (by first | exact Nat.le_refl _ | (simp; omega) | (simp; done)) | refine Gr.grown ?_ _ _ | refine Gr.drewN ?_ _ | refine Gr.drew ?_ | refine Gr.alloc ?_ _ | refine Gr.grow ?_ _ | (refine Gr.trans ?_ (by assumption))))) (Nat.le_refl _)⟩
      · skip
        have O5 := own_new (w.alloc (.cells #[.int .i64 b, .int .i64 kd, .bool true] 61)) (base := w.heap.size) (g := w.heap.size + 1) (cs := #[.int .i64 30, .int .i64 29, .int .i64 30, .int .i64 29, .int .i64 30]) (e := 3) (size := 1) (n := 5) (by simp) (by simp) rfl (by decide)
        have e5 : l5 kd = [.int .i64 30, .int .i64 29, .int .i64 30, .int .i64 29, .int .i64 30] := by simp [l5, h2, h0]
        have q2 : (kd == 2) = false := beq_eq_false_iff_ne.2 h2
        have q0 : (kd == 0) = false := beq_eq_false_iff_ne.2 h0
        clear h2 h0
        go_enter Tryz.func68, Tryz.ntmps68
        go_wp2_with (first | (at_builtin; refine append_ints _ rfl _ _ rfl w.heap.size _ 5 [.int .i64 30, .int .i64 29, .int .i64 30, .int .i64 29, .int .i64 30] rfl (O5.alloc _) _ 1 1 [.int .i64 30] rfl rfl (news1 (by simp) _ _) (by simp [Value.oneCell']) (by decide) (by decide) (by simp; try omega) ?_; intro g1 c1 wA O6 k1 b1 G1; have GA : Gr w wA := G1 w ((by repeat (first | exact Gr.refl _ | refine Gr.setCell ?_ _ _ (by first | exact Nat.le_refl _ | (simp; omega) | (simp; done)) | refine Gr.grown ?_ _ _ | refine Gr.drewN ?_ _ | refine Gr.drew ?_ | refine Gr.alloc ?_ _ | refine Gr.grow ?_ _ | (refine Gr.trans ?_ (by assumption))))) (Nat.le_refl _); clear G1 k1 O5) | (at_builtin; refine append_ints _ rfl _ _ rfl w.heap.size _ 6 ([.int .i64 30, .int .i64 29, .int .i64 30, .int .i64 29, .int .i64 30] ++ [.int .i64 30]) rfl (O6.alloc _) _ 7 7 l7 rfl rfl (news7 (by simp) _) (by simp [Value.oneCell', l7]) (by decide) (by decide) (by have := GA.size; simp; omega) ?_; intro g2 c2 wB O7 k2 b2 G2))
        go_ret
        exact ⟨g2, c2, rfl, row_of O7 (by decide) (fun j hj => by rw [← e5]; exact l_leap _ j hj), G2 w ((by repeat (first | exact Gr.refl _ | refine Gr.setCell ?_ _ _ (by first | exact Nat.le_refl _ | (simp; omega) | (simp; done)) | refine Gr.grown ?_ _ _ | refine Gr.drewN ?_ _ | refine Gr.drew ?_ | refine Gr.alloc ?_ _ | refine Gr.grow ?_ _ | (refine Gr.trans ?_ (by assumption))))) (Nat.le_refl _)⟩

end Go.Proofs.YtkiopgegdkeojaaGreatDoor.Walks
