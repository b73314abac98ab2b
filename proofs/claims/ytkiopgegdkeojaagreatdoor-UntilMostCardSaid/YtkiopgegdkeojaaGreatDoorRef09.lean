/- Walks of almanackerref09: the codes of a year's months; the code of a month, the month of a code. -/
import Derived.Test.YtkiopgegdkeojaaGreatDoorCode
import Derived.Test.YtkiopgegdkeojaaGreatDoorOwn
set_option linter.unusedVariables false
set_option linter.unusedSimpArgs false
namespace Go.Proofs.YtkiopgegdkeojaaGreatDoor.Walks
open Go Go.RowKit Go.Sort Go.Proofs.YtkiopgegdkeojaaGreatDoor.Base Go.Proofs.YtkiopgegdkeojaaGreatDoor.Plain Go.Proofs.YtkiopgegdkeojaaGreatDoor.Math

theorem ninfo_code : (Tryz.prog.info? 23).map (fun i => (i.zero, i.size, i.bytes)) = some (some (.agg #[.int .i64 0, .bool false]), 2, 16) := by kernel_rfl
theorem nund_codes : Tryz.prog.underlying 83 = some (.slice 23) := by kernel_rfl
theorem append_codes (w : World) {ops : Array Oper} {rest : List Oper} {o : Oper} {a : Act} {Q : Exit → Act → World → Prop} (hg : o.guard = none) (s x : Operand)
    (hop : o.op = .call { callee := .builtin .append, args := #[s, x], argTypes := #[83, 83] })
    (base : Nat) (v : Value) (n : Nat) (xs : List Value) (hs : a.eval s = v) (hown : w.ownsRow base 23 2 v n xs)
    (ad : Addr) (c : Nat) (news : List Value) (hx : a.eval x = .slice (some ad) 1 c) (hl : news.length = 2) (hnews : ∀ j u, news[j]? = some u → w.cell? (ad.add j) = some u) (h1 : ∀ u ∈ news, u.oneCell' = true)
    (hsm : n + 1 ≤ 100000) (hbase : base ≤ w.heap.size)
    (hK : ∀ g cap w', w'.ownsRow base 23 2 (.slice (some ⟨g, 0, none⟩) (n + 1) cap) (n + 1) (xs ++ news) → w.grownBy w' v.ownBlock → base ≤ g → (∀ W, Gr W w → W.heap.size ≤ base → Gr W w') →
      wpList Tryz.prog ops Q rest (a.put o.dst (.slice (some ⟨g, 0, none⟩) (n + 1) cap)) w') : wpList Tryz.prog ops Q (o :: rest) a w := by
  obtain ⟨i, h2, h3, h4, h5⟩ := info_parts ninfo_code
  exact wpList_append_gr w hg s x 83 hop base 23 i (.agg #[.int .i64 0, .bool false]) 2 16 nund_codes h2 h3 h4 h5 rfl (by decide) v n xs hs hown ad 1 c news hx hl hnews h1 (by decide) (by simp only [maxLen]; omega) (by omega) hbase hK
theorem news2 {w : World} {g : Nat} (hg : w.heap.size = g) (v u : Value) (t : TypeId) : ∀ j y, [v, u][j]? = some y → (w.alloc (.cells #[v, u] t)).cell? ((⟨g, 0, none⟩ : Addr).add j) = some y := by
  subst hg
  intro j y hj
  match j, hj with
  | 0, hj => simp at hj; subst hj; simp [go_sem, Addr.add]
  | 1, hj => simp at hj; subst hj; simp [go_sem, Addr.add]

/-- The codes that have come: their cells. -/
def cxs (l : Bool) : Nat → List Value
  | 0 => []
  | p + 1 => cxs l p ++ [.int .i64 (cN l p), .bool (cL l p)]
/-- A cell of the list of codes. -/
def ccell (l : Bool) (j : Nat) : Value := if j % 2 = 0 then .int .i64 (cN l (j / 2)) else .bool (cL l (j / 2))
theorem cxs_len (l : Bool) (p : Nat) : (cxs l p).length = p * 2 := by
  induction p with
  | zero => rfl
  | succ p ih => simp only [cxs, List.length_append, ih, List.length_cons, List.length_nil]; omega
theorem cxs_at (l : Bool) (p j : Nat) (h : j < p * 2) : (cxs l p)[j]? = some (ccell l j) := by
  induction p with
  | zero => omega
  | succ p ih =>
    simp only [cxs]
    by_cases g : j < p * 2
    · rw [List.getElem?_append_left (by rw [cxs_len]; exact g)]; exact ih g
    · rw [List.getElem?_append_right (by rw [cxs_len]; omega), cxs_len]
      have : j = p * 2 ∨ j = p * 2 + 1 := by omega
      rcases this with rfl | rfl
      · rw [show p * 2 - p * 2 = 0 by omega]
        unfold ccell
        rw [if_pos (by omega), show p * 2 / 2 = p by omega]
        rfl
      · rw [show p * 2 + 1 - p * 2 = 1 by omega]
        unfold ccell
        rw [if_neg (by omega), show (p * 2 + 1) / 2 = p by omega]
        rfl
theorem ccell_n (l : Bool) (j : Nat) : ccell l (j * 2) = .int .i64 (cN l j) := by unfold ccell; rw [if_pos (by omega), show j * 2 / 2 = j by omega]
theorem ccell_l (l : Bool) (j : Nat) : ccell l (j * 2 + 1) = .bool (cL l j) := by unfold ccell; rw [if_neg (by omega), show (j * 2 + 1) / 2 = j by omega]
/-- How many codes have come behind k rounds. -/
def pc (l : Bool) (k : Nat) : Nat := if l = true ∧ 5 ≤ k then k + 1 else k
theorem pc_le (l : Bool) (k : Nat) : pc l k ≤ k + 1 := by unfold pc; split <;> omega

/-- What comes of codes: a slice that holds the codes. -/
def Cods (l : Bool) (w : World) (e : Ending) (w' : World) : Prop :=
  ∃ g cap, e = .returned (.slice (some ⟨g, 0, none⟩) (mct l) cap) ∧ Row w' 2 (mct l) g (ccell l) ∧ Gr w w'
set_option maxRecDepth 20000 in
set_option maxHeartbeats 4000000 in
theorem codes_c (l : Bool) (w : World) : Calls Tryz.prog 64 #[.bool l] w (Cods l w) := by
  go_enter Tryz.func64, Tryz.ntmps64
  go_wp2
  go_loopg [3, 4] 12 (fun kx s3 s4 wr => ∃ (k : Nat) (v : Value), k ≤ 12 ∧ 12 - k ≤ kx ∧ v = s3 ∧ s4 = .int .i64 ((k : Int) + 1) ∧ wr.ownsRow w.heap.size 23 2 v (pc l k) (cxs l (pc l k)) ∧ Gr w wr)
  case atStart => exact ⟨0, _, by omega, by omega, rfl, rfl, by rw [show pc l 0 = 0 by unfold pc; simp]; exact World.ownsRow_nil _ _ _ _, Gr.refl _⟩
  case round =>
    obtain ⟨k, v, hk, hm, rfl, rfl, ho, hg⟩ := hrel
    have hle := pc_le l k
    have hs := hg.size
    by_cases e : k < 12
    · by_cases e5 : k = 4 ∧ l = true
      · obtain ⟨rfl, rfl⟩ := e5
        have E1 : RowKit.Hid (cxs true (pc true (4 + 1)) = cxs true (pc true 4) ++ [.int .i64 5, .bool false] ++ [.int .i64 5, .bool true]) := Lib.hid rfl
        have E2 : RowKit.Hid (pc true (4 + 1) = pc true 4 + 1 + 1) := Lib.hid rfl
        go_wp2_with (first | (at_builtin; refine append_codes _ rfl _ _ rfl w.heap.size v _ _ rfl (ho.alloc _) _ 1 [.int .i64 5, .bool false] rfl rfl (news2 rfl _ _ _) (by simp [Value.oneCell']) (by omega) (by simp; omega) ?_; intro g1 c1 wA O1 k1 b1 G1; have GA : Gr w wA := G1 w ((by repeat (first | exact Gr.refl _ | refine Gr.setCell ?_ _ _ (by first | exact Nat.le_refl _ | (simp; omega) | (simp; done)) | refine Gr.grown ?_ _ _ | refine Gr.drewN ?_ _ | refine Gr.drew ?_ | refine Gr.alloc ?_ _ | refine Gr.grow ?_ _ | (refine Gr.trans ?_ (by assumption))))) (Nat.le_refl _); have hs1 := GA.size; clear ho) | (at_builtin; refine append_codes _ rfl _ _ rfl w.heap.size _ _ _ rfl (O1.alloc _) _ 1 [.int .i64 5, .bool true] rfl rfl (news2 rfl _ _ _) (by simp [Value.oneCell']) (by omega) (by simp; omega) ?_; intro g2 c2 wB O2 k2 b2 G2; have GB : Gr w wB := G2 w ((by repeat (first | exact Gr.refl _ | refine Gr.setCell ?_ _ _ (by first | exact Nat.le_refl _ | (simp; omega) | (simp; done)) | refine Gr.grown ?_ _ _ | refine Gr.drewN ?_ _ | refine Gr.drew ?_ | refine Gr.alloc ?_ _ | refine Gr.grow ?_ _ | (refine Gr.trans ?_ (by assumption))))) (Nat.le_refl _)))
        go_roundg (12 - (4 + 1))
        case measure => omega
        case rel => exact ⟨4 + 1, _, by omega, Nat.le_refl _, rfl, by go_num, by rw [E1.out, E2.out]; exact O2, GB⟩
      · have E2 : RowKit.Hid (pc l (k + 1) = pc l k + 1) := Lib.hid (by unfold pc; cases l <;> simp at * <;> (try split) <;> (try split) <;> omega)
        have EN : RowKit.Hid (cN l (pc l k) = (k : Int) + 1) := Lib.hid (by unfold cN pc; cases l <;> simp at * <;> (try split) <;> (try split) <;> omega)
        have EL : RowKit.Hid (cL l (pc l k) = false) := Lib.hid (by unfold cL pc; cases l <;> simp at * <;> (try split) <;> omega)
        have E1 : RowKit.Hid (cxs l (pc l (k + 1)) = cxs l (pc l k) ++ [.int .i64 ((k : Int) + 1), .bool false]) := Lib.hid (by rw [E2.out]; show cxs l (pc l k) ++ [_, _] = _; rw [EN.out, EL.out])
        by_cases q : k = 4
        · have hl : l = false := by cases l <;> simp_all
          subst hl
          have q5 : ((k : Int) + 1 == 5) = true := beq_iff_eq.2 (by omega)
          clear e5 q
          go_wp2_with (first | (at_builtin; refine append_codes _ rfl _ _ rfl w.heap.size v _ _ rfl (ho.alloc _) _ 1 [.int .i64 ((k : Int) + 1), .bool false] rfl rfl (news2 rfl _ _ _) (by simp [Value.oneCell']) (by omega) (by simp; omega) ?_; intro g1 c1 wA O1 k1 b1 G1; have GA : Gr w wA := G1 w ((by repeat (first | exact Gr.refl _ | refine Gr.setCell ?_ _ _ (by first | exact Nat.le_refl _ | (simp; omega) | (simp; done)) | refine Gr.grown ?_ _ _ | refine Gr.drewN ?_ _ | refine Gr.drew ?_ | refine Gr.alloc ?_ _ | refine Gr.grow ?_ _ | (refine Gr.trans ?_ (by assumption))))) (Nat.le_refl _)))
          go_roundg (12 - (k + 1))
          case measure => omega
          case rel => exact ⟨k + 1, _, by omega, Nat.le_refl _, rfl, by go_num, by rw [E1.out, E2.out]; exact O1, GA⟩
        · have q5 : ((k : Int) + 1 == 5) = false := beq_eq_false_iff_ne.2 (by omega)
          clear e5 q
          go_wp2_with (first | (at_builtin; refine append_codes _ rfl _ _ rfl w.heap.size v _ _ rfl (ho.alloc _) _ 1 [.int .i64 ((k : Int) + 1), .bool false] rfl rfl (news2 rfl _ _ _) (by simp [Value.oneCell']) (by omega) (by simp; omega) ?_; intro g1 c1 wA O1 k1 b1 G1; have GA : Gr w wA := G1 w ((by repeat (first | exact Gr.refl _ | refine Gr.setCell ?_ _ _ (by first | exact Nat.le_refl _ | (simp; omega) | (simp; done)) | refine Gr.grown ?_ _ _ | refine Gr.drewN ?_ _ | refine Gr.drew ?_ | refine Gr.alloc ?_ _ | refine Gr.grow ?_ _ | (refine Gr.trans ?_ (by assumption))))) (Nat.le_refl _)))
          go_roundg (12 - (k + 1))
          case measure => omega
          case rel => exact ⟨k + 1, _, by omega, Nat.le_refl _, rfl, by go_num, by rw [E1.out, E2.out]; exact O1, GA⟩
    · obtain rfl : k = 12 := by omega
      have E2 : RowKit.Hid (pc l 12 = mct l) := Lib.hid (by cases l <;> rfl)
      rw [E2.out] at ho
      have hp : 0 < mct l := by have := mct_le l; omega
      obtain ⟨g, cap, rfl⟩ : ∃ g cap, v = .slice (some ⟨g, 0, none⟩) (mct l) cap := by
        rcases ho.2 with ⟨-, z⟩ | ⟨g, cap, -, rfl, -⟩
        · omega
        · exact ⟨g, cap, rfl⟩
      have HO := Lib.hid (row_of ho hp (cxs_at l (mct l)))
      clear ho
      go_wp2
      go_ret
      exact ⟨g, cap, rfl, HO.out, (by repeat (first | exact Gr.refl _ | refine Gr.setCell ?_ _ _ (by first | exact Nat.le_refl _ | (simp; omega) | (simp; done)) | refine Gr.grown ?_ _ _ | refine Gr.drewN ?_ _ | refine Gr.drew ?_ | refine Gr.alloc ?_ _ | refine Gr.grow ?_ _ | (refine Gr.trans ?_ (by assumption))))⟩

set_option maxHeartbeats 2000000 in
theorem rof9_in (l : Bool) (j : Nat) (w : World) (hj : j < mct l) : Calls Tryz.prog 51 #[.bool l, .int .i64 ((j : Int) + 1)] w fun e w' => e = .returned (.tuple #[.agg #[.int .i64 (cN l j), .bool (cL l j)], .bool true]) ∧ Gr w w' := by
  have C1 := Lib.hid (codes_c l)
  have j2 : (j : Int) < mct l := by omega
  have j3 : (j : Int) ≤ 13 := by have := mct_le l; omega
  go_enter Tryz.func51, Tryz.ntmps51
  go_wp2_with (first | (go_at_call 64; (with_reducible refine (C1.out _).mono ?_); rintro e wB ⟨g, cap, rfl, RB, hgB⟩; have cj := RB.c (j * 2) (by omega); have dj := RB.c (j * 2 + 1) (by omega); rw [ccell_n] at cj; rw [ccell_l] at dj; clear RB; have c0 := hgB.keep (b := w.heap.size) (o := 0) (v := .int .i64 0) (by simp) (by simp [go_sem]); have c1 := hgB.keep (b := w.heap.size) (o := 1) (v := .bool false) (by simp) (by simp [go_sem]); have f0 := hgB.thaw (b := w.heap.size) (o := 0) (v := false) (by simp) (by simp [go_sem]); have f1 := hgB.thaw (b := w.heap.size) (o := 1) (v := false) (by simp) (by simp [go_sem])))
  exact bodyPost_ret (v := .tuple #[.agg #[.int .i64 (cN l j), .bool (cL l j)], .bool true]) (by simp [results, Tryz.results51, go_sem, *]) rfl ⟨rfl, (by repeat (first | exact Gr.refl _ | refine Gr.setCell ?_ _ _ (by first | exact Nat.le_refl _ | (simp; omega) | (simp; done)) | refine Gr.grown ?_ _ _ | refine Gr.drewN ?_ _ | refine Gr.drew ?_ | refine Gr.alloc ?_ _ | refine Gr.grow ?_ _ | (refine Gr.trans ?_ (by assumption))))⟩

theorem cods_ne {l : Bool} {k : Nat} {n : Int} {c : Bool} (h : ¬ (cN l k = n ∧ cL l k = c)) : (cN l k == n) = false ∨ ((cN l k == n) = true ∧ (cL l k == c) = false) := by
  by_cases g : cN l k = n
  · exact .inr ⟨beq_iff_eq.2 g, beq_eq_false_iff_ne.2 fun z => h ⟨g, z⟩⟩
  · exact .inl (beq_eq_false_iff_ne.2 g)

/-- The month of a code, or that there is none: the first at which it stands. -/
theorem rplace9_at (l : Bool) (n : Int) (c : Bool) (K : Nat) (R : Int) (o : Bool) (w : World) (hK : K ≤ mct l) (hno : ∀ k, k < K → ¬ (cN l k = n ∧ cL l k = c))
    (hy : (K < mct l ∧ cN l K = n ∧ cL l K = c ∧ (K : Int) + 1 = R ∧ o = true) ∨ (K = mct l ∧ R = 0 ∧ o = false)) :
    Calls Tryz.prog 37 #[.bool l, .agg #[.int .i64 n, .bool c]] w fun e w' => e = .returned (.tuple #[.int .i64 R, .bool o]) ∧ Gr w w' := by
  have C1 := Lib.hid (codes_c l)
  have HNO := Lib.hid hno
  have HY := Lib.hid hy
  have j3 : (mct l : Int) ≤ 13 := by have := mct_le l; omega
  clear hno hy
  go_enter Tryz.func37, Tryz.ntmps37
  go_wp2_with (first | (go_at_call 64; (with_reducible refine (C1.out _).mono ?_); rintro e wB ⟨g, cap, rfl, RB, hgB⟩; have b0 := hgB.keep (b := w.heap.size) (o := 0) (v := .int .i64 n) (by simp) (by simp [go_sem]); have b1 := hgB.keep (b := w.heap.size) (o := 1) (v := .bool c) (by simp) (by simp [go_sem]); have GB : Gr w wB := (by repeat (first | exact Gr.refl _ | refine Gr.setCell ?_ _ _ (by first | exact Nat.le_refl _ | (simp; omega) | (simp; done)) | refine Gr.grown ?_ _ _ | refine Gr.drewN ?_ _ | refine Gr.drew ?_ | refine Gr.alloc ?_ _ | refine Gr.grow ?_ _ | (refine Gr.trans ?_ (by assumption)))); have hl : w.heap.size < wB.heap.size := hgB.lt (by simp); clear hgB))
  go_loopg [7] K (fun kx s7 wr => ∃ k : Nat, k ≤ K ∧ K - k ≤ kx ∧ s7 = .int .i64 (k : Int) ∧ Gr wB wr)
  case atStart => exact ⟨0, by omega, by omega, rfl, Gr.refl _⟩
  case round =>
    obtain ⟨k, hk, hm, rfl, hg⟩ := hrel
    have d0 := hg.keep hl b0
    have d1 := hg.keep hl b1
    clear b0 b1
    by_cases e : k < K
    · have R1 := RB.gr hg
      have ck := R1.c (k * 2) (by omega)
      have dk := R1.c (k * 2 + 1) (by omega)
      rw [ccell_n] at ck
      rw [ccell_l] at dk
      have k2 : (k : Int) < (mct l : Int) := by omega
      clear R1 RB
      rcases cods_ne (HNO.out k e) with q | ⟨q1, q2⟩
      · go_wp2
        go_quiet (fail)
        go_wp2
        go_roundg (K - (k + 1))
        case measure => omega
        case rel => exact ⟨k + 1, by omega, Nat.le_refl _, by go_num, hg.trans (by clear GB hg; exact (by repeat (first | exact Gr.refl _ | refine Gr.setCell ?_ _ _ (by first | exact Nat.le_refl _ | (simp; omega) | (simp; done)) | refine Gr.grown ?_ _ _ | refine Gr.drewN ?_ _ | refine Gr.drew ?_ | refine Gr.alloc ?_ _ | refine Gr.grow ?_ _ | (refine Gr.trans ?_ (by assumption)))))⟩
      · go_wp2
        go_quiet (fail)
        go_wp2
        go_roundg (K - (k + 1))
        case measure => omega
        case rel => exact ⟨k + 1, by omega, Nat.le_refl _, by go_num, hg.trans (by clear GB hg; exact (by repeat (first | exact Gr.refl _ | refine Gr.setCell ?_ _ _ (by first | exact Nat.le_refl _ | (simp; omega) | (simp; done)) | refine Gr.grown ?_ _ _ | refine Gr.drewN ?_ _ | refine Gr.drew ?_ | refine Gr.alloc ?_ _ | refine Gr.grow ?_ _ | (refine Gr.trans ?_ (by assumption)))))⟩
    · obtain rfl : k = K := by omega
      rcases HY.out with ⟨z, q1, q2, rfl, rfl⟩ | ⟨z, rfl, rfl⟩
      · have R1 := RB.gr hg
        have ck := R1.c (k * 2) (by omega)
        have dk := R1.c (k * 2 + 1) (by omega)
        rw [ccell_n, q1] at ck
        rw [ccell_l, q2] at dk
        have k2 : (k : Int) < (mct l : Int) := by omega
        clear R1 RB HY HNO q1 q2 z
        go_wp2
        go_quiet (fail)
        go_wp2
        go_ret2
        exact ⟨rfl, GB.trans ((by repeat (first | exact Gr.refl _ | refine Gr.setCell ?_ _ _ (by first | exact Nat.le_refl _ | (simp; omega) | (simp; done)) | refine Gr.grown ?_ _ _ | refine Gr.drewN ?_ _ | refine Gr.drew ?_ | refine Gr.alloc ?_ _ | refine Gr.grow ?_ _ | (refine Gr.trans ?_ (by assumption)))))⟩
      · have k2 : (mct l : Int) ≤ (k : Int) := by omega
        clear RB HY HNO z
        go_wp2
        go_ret2
        exact ⟨rfl, GB.trans hg⟩
theorem rplace9_in (l : Bool) (j : Nat) (w : World) (hj : j < mct l) : Calls Tryz.prog 37 #[.bool l, .agg #[.int .i64 (cN l j), .bool (cL l j)]] w fun e w' => e = .returned (.tuple #[.int .i64 ((j : Int) + 1), .bool true]) ∧ Gr w w' :=
  rplace9_at l _ _ j _ _ w (by omega) (fun k hk ⟨a, b⟩ => by have := code_inj (l := l) (i := k) (j := j) (by omega) hj a b; omega) (.inl ⟨hj, rfl, rfl, rfl, rfl⟩)
theorem rplace9_out (l : Bool) (n : Int) (c : Bool) (w : World) (h : cHas l n c = false) : Calls Tryz.prog 37 #[.bool l, .agg #[.int .i64 n, .bool c]] w fun e w' => e = .returned (.tuple #[.int .i64 0, .bool false]) ∧ Gr w w' :=
  rplace9_at l _ _ (mct l) _ _ w (Nat.le_refl _) (fun k hk ⟨a, b⟩ => by subst a b; rw [code_has hk] at h; cases h) (.inr ⟨rfl, rfl, rfl⟩)

end Go.Proofs.YtkiopgegdkeojaaGreatDoor.Walks
