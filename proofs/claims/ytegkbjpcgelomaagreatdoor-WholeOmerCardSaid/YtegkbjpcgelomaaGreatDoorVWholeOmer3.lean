/- Walks of package special: a Saturday near a day, the rules, the days of a year. -/
import Derived.Test.YtegkbjpcgelomaaGreatDoorVWholeOmer2
import Derived.Test.YtegkbjpcgelomaaGreatDoorZ14
import Derived.Test.YtegkbjpcgelomaaGreatDoorVWholeOmer1
import Derived.Test.YtegkbjpcgelomaaGreatDoorZ18
import Derived.Laws.EntriesVeiled
import Derived.Test.YtegkbjpcgelomaaGreatDoorZ20
set_option linter.unusedVariables false
set_option linter.unusedSimpArgs false
section
namespace Go.Proofs.YtegkbjpcgelomaaGreatDoor.Walks
open Go Go.RowKit Go.Sort Go.Proofs.YtegkbjpcgelomaaGreatDoor.Base Go.Proofs.YtegkbjpcgelomaaGreatDoor.Plain Go.Proofs.YtegkbjpcgelomaaGreatDoor.Math

set_option maxHeartbeats 2000000 in
theorem wfrom_c (x : Int) (w : World) (h0 : -1000000000 ≤ x) (h1 : x ≤ 1000000000) : Calls Tryq.prog 104 #[.int .i64 x, .int .i64 6] w fun e w' => e = .returned (.int .i64 (saF x)) ∧ Gr w w' := by
  have C1 := Lib.hid fun W => wd_c (6 - x) W (by omega) (by omega)
  unfold saF
  go_enter Tryq.func104, Tryq.ntmps104
  go_wp2_with (first | (go_at_call 19; (with_reducible refine (C1.out _).mono ?_); rintro e wA ⟨rfl, hgwA⟩; obtain ⟨hclwA, hfzwA, hszwA⟩ := gcell hgwA; (try simp [Nat.add_one_le_iff] at hszwA)))
  go_ret
  exact ⟨rfl, (by repeat (first | exact Gr.refl _ | refine Gr.setCell ?_ _ _ (by first | exact Nat.le_refl _ | (simp; omega) | (simp; done)) | refine Gr.grown ?_ _ _ | refine Gr.drewN ?_ _ | refine Gr.drew ?_ | refine Gr.alloc ?_ _ | refine Gr.grow ?_ _ | (refine Gr.trans ?_ (by assumption))))⟩
set_option maxHeartbeats 2000000 in
theorem wupto_c (x : Int) (w : World) (h0 : -1000000000 ≤ x) (h1 : x ≤ 1000000000) : Calls Tryq.prog 105 #[.int .i64 x, .int .i64 6] w fun e w' => e = .returned (.int .i64 (saU x)) ∧ Gr w w' := by
  have C1 := Lib.hid fun W => wd_c (x - 6) W (by omega) (by omega)
  unfold saU
  go_enter Tryq.func105, Tryq.ntmps105
  go_wp2_with (first | (go_at_call 19; (with_reducible refine (C1.out _).mono ?_); rintro e wA ⟨rfl, hgwA⟩; obtain ⟨hclwA, hfzwA, hszwA⟩ := gcell hgwA; (try simp [Nat.add_one_le_iff] at hszwA)))
  go_ret
  exact ⟨rfl, (by repeat (first | exact Gr.refl _ | refine Gr.setCell ?_ _ _ (by first | exact Nat.le_refl _ | (simp; omega) | (simp; done)) | refine Gr.grown ?_ _ _ | refine Gr.drewN ?_ _ | refine Gr.drew ?_ | refine Gr.alloc ?_ _ | refine Gr.grow ?_ _ | (refine Gr.trans ?_ (by assumption))))⟩
/-- A cell of the rules. -/
def srv (j : Nat) : Value :=
  match j % 5 with
  | 0 => .int .i64 (sK (j / 5))
  | 1 => .int .i64 (sN (j / 5))
  | 2 => .int .i64 (sD (j / 5))
  | 3 => .func (.func (if j / 5 = 0 then 104 else 105)) #[] #[]
  | _ => .int .i64 (sX (j / 5))
def SRows (w : World) (e : Ending) (w' : World) : Prop := ∃ g, e = .returned (.slice (some ⟨g, 0, none⟩) 8 8) ∧ Row w' 5 8 g srv ∧ Gr w w'
def srV : Array Value := Array.ofFn fun j : Fin 40 => srv j.val
theorem srow_new (w : World) (vs : Array Value) (hv : vs = srV) (e : TypeId) : Row (w.alloc (.cells vs e)) 5 8 w.heap.size srv := by
  subst hv
  refine ⟨by simp, fun j hj => ?_⟩
  rw [Lib.cell_of_heap (heap_alloc_new w _)]
  have hj : j < 40 := hj
  unfold srV
  simp [hj]
set_option maxRecDepth 20000 in
set_option maxHeartbeats 8000000 in
theorem srules_c (w : World) : Calls Tryq.prog 70 #[] w (SRows w) := by
  go_enter Tryq.func70, Tryq.ntmps70
  go_wp2
  go_ret
  exact ⟨_, rfl, srow_new w _ (by kernel_rfl) _, (Gr.refl _).alloc _⟩
theorem srow_cells {w : World} {g : Nat} (R : Row w 5 8 g srv) {i : Nat} (hi : i < 8) :
    w.cell? ⟨g, i * 5, none⟩ = some (.int .i64 (sK i)) ∧ w.cell? ⟨g, i * 5 + 1, none⟩ = some (.int .i64 (sN i)) ∧ w.cell? ⟨g, i * 5 + 2, none⟩ = some (.int .i64 (sD i)) ∧
    w.cell? ⟨g, i * 5 + 3, none⟩ = some (.func (.func (if i = 0 then 104 else 105)) #[] #[]) ∧ w.cell? ⟨g, i * 5 + 4, none⟩ = some (.int .i64 (sX i)) := by
  have key : ∀ o, o < 5 → (i * 5 + o) % 5 = o ∧ (i * 5 + o) / 5 = i := fun o ho => ⟨by omega, by omega⟩
  have c := fun o (ho : o < 5) => R.c (i * 5 + o) (by omega)
  refine ⟨?_, ?_, ?_, ?_, ?_⟩
  · have := c 0 (by decide); unfold srv at this; rw [(key 0 (by decide)).1, (key 0 (by decide)).2] at this; exact this
  · have := c 1 (by decide); unfold srv at this; rw [(key 1 (by decide)).1, (key 1 (by decide)).2] at this; exact this
  · have := c 2 (by decide); unfold srv at this; rw [(key 2 (by decide)).1, (key 2 (by decide)).2] at this; exact this
  · have := c 3 (by decide); unfold srv at this; rw [(key 3 (by decide)).1, (key 3 (by decide)).2] at this; exact this
  · have := c 4 (by decide); unfold srv at this; rw [(key 4 (by decide)).1, (key 4 (by decide)).2] at this; exact this
end Go.Proofs.YtegkbjpcgelomaaGreatDoor.Walks
end
/- Walks of package fast: by how many days a kind is moved; the days of a year. -/
section
namespace Go.Proofs.YtegkbjpcgelomaaGreatDoor.Walks
open Go Go.RowKit Go.Sort Go.Proofs.YtegkbjpcgelomaaGreatDoor.Base Go.Proofs.YtegkbjpcgelomaaGreatDoor.Plain Go.Proofs.YtegkbjpcgelomaaGreatDoor.Math

set_option maxHeartbeats 8000000 in
theorem moved_c (k d : Int) (w : World) : Calls Tryq.prog 69 #[.int .i64 k, .int .i64 d] w fun e w' => e = .returned (.int .i64 (mvf k d)) ∧ w' = w := by
  by_cases k2 : k = 2
  · subst k2
    by_cases d6 : d = 6
    · subst d6
      rw [show mvf 2 6 = 1 from by decide]
      go_enter Tryq.func69, Tryq.ntmps69
      go_wp2
      go_ret
      exact ⟨rfl, rfl⟩
    have hv : mvf 2 d = 0 := by
      unfold mvf
      repeat' split
      all_goals omega
    rw [hv]
    have b6 : (d == 6) = false := beq_eq_false_iff_ne.2 d6
    clear hv d6
    go_enter Tryq.func69, Tryq.ntmps69
    go_wp2
    go_ret
    exact ⟨rfl, rfl⟩
  by_cases k26 : k = 26
  · subst k26
    by_cases d6 : d = 6
    · subst d6
      rw [show mvf 26 6 = 1 from by decide]
      go_enter Tryq.func69, Tryq.ntmps69
      go_wp2
      go_ret
      exact ⟨rfl, rfl⟩
    have hv : mvf 26 d = 0 := by
      unfold mvf
      repeat' split
      all_goals omega
    rw [hv]
    have b6 : (d == 6) = false := beq_eq_false_iff_ne.2 d6
    clear hv d6
    go_enter Tryq.func69, Tryq.ntmps69
    go_wp2
    go_ret
    exact ⟨rfl, rfl⟩
  by_cases k27 : k = 27
  · subst k27
    by_cases d6 : d = 6
    · subst d6
      rw [show mvf 27 6 = 1 from by decide]
      go_enter Tryq.func69, Tryq.ntmps69
      go_wp2
      go_ret
      exact ⟨rfl, rfl⟩
    have hv : mvf 27 d = 0 := by
      unfold mvf
      repeat' split
      all_goals omega
    rw [hv]
    have b6 : (d == 6) = false := beq_eq_false_iff_ne.2 d6
    clear hv d6
    go_enter Tryq.func69, Tryq.ntmps69
    go_wp2
    go_ret
    exact ⟨rfl, rfl⟩
  by_cases k19 : k = 19
  · subst k19
    by_cases d0 : d = 0
    · subst d0
      rw [show mvf 19 0 = 1 from by decide]
      go_enter Tryq.func69, Tryq.ntmps69
      go_wp2
      go_ret
      exact ⟨rfl, rfl⟩
    by_cases d5 : d = 5
    · subst d5
      rw [show mvf 19 5 = -1 from by decide]
      go_enter Tryq.func69, Tryq.ntmps69
      go_wp2
      go_ret
      exact ⟨rfl, rfl⟩
    have hv : mvf 19 d = 0 := by
      unfold mvf
      repeat' split
      all_goals omega
    rw [hv]
    have b0 : (d == 0) = false := beq_eq_false_iff_ne.2 d0
    have b5 : (d == 5) = false := beq_eq_false_iff_ne.2 d5
    clear hv d0 d5
    go_enter Tryq.func69, Tryq.ntmps69
    go_wp2
    go_ret
    exact ⟨rfl, rfl⟩
  by_cases k21 : k = 21
  · subst k21
    by_cases d1 : d = 1
    · subst d1
      rw [show mvf 21 1 = 1 from by decide]
      go_enter Tryq.func69, Tryq.ntmps69
      go_wp2
      go_ret
      exact ⟨rfl, rfl⟩
    by_cases d5 : d = 5
    · subst d5
      rw [show mvf 21 5 = -1 from by decide]
      go_enter Tryq.func69, Tryq.ntmps69
      go_wp2
      go_ret
      exact ⟨rfl, rfl⟩
    by_cases d6 : d = 6
    · subst d6
      rw [show mvf 21 6 = -2 from by decide]
      go_enter Tryq.func69, Tryq.ntmps69
      go_wp2
      go_ret
      exact ⟨rfl, rfl⟩
    have hv : mvf 21 d = 0 := by
      unfold mvf
      repeat' split
      all_goals omega
    rw [hv]
    have b1 : (d == 1) = false := beq_eq_false_iff_ne.2 d1
    have b5 : (d == 5) = false := beq_eq_false_iff_ne.2 d5
    have b6 : (d == 6) = false := beq_eq_false_iff_ne.2 d6
    clear hv d1 d5 d6
    go_enter Tryq.func69, Tryq.ntmps69
    go_wp2
    go_ret
    exact ⟨rfl, rfl⟩
  by_cases k13 : k = 13
  · subst k13
    by_cases d6 : d = 6
    · subst d6
      rw [show mvf 13 6 = -2 from by decide]
      go_enter Tryq.func69, Tryq.ntmps69
      go_wp2
      go_ret
      exact ⟨rfl, rfl⟩
    have hv : mvf 13 d = 0 := by
      unfold mvf
      repeat' split
      all_goals omega
    rw [hv]
    have b6 : (d == 6) = false := beq_eq_false_iff_ne.2 d6
    clear hv d6
    go_enter Tryq.func69, Tryq.ntmps69
    go_wp2
    go_ret
    exact ⟨rfl, rfl⟩
  by_cases k16 : k = 16
  · subst k16
    by_cases d6 : d = 6
    · subst d6
      rw [show mvf 16 6 = -2 from by decide]
      go_enter Tryq.func69, Tryq.ntmps69
      go_wp2
      go_ret
      exact ⟨rfl, rfl⟩
    have hv : mvf 16 d = 0 := by
      unfold mvf
      repeat' split
      all_goals omega
    rw [hv]
    have b6 : (d == 6) = false := beq_eq_false_iff_ne.2 d6
    clear hv d6
    go_enter Tryq.func69, Tryq.ntmps69
    go_wp2
    go_ret
    exact ⟨rfl, rfl⟩
  have hv : mvf k d = 0 := by
    unfold mvf
    repeat' split
    all_goals omega
  rw [hv]
  have b2 : (k == 2) = false := beq_eq_false_iff_ne.2 k2
  have b26 : (k == 26) = false := beq_eq_false_iff_ne.2 k26
  have b27 : (k == 27) = false := beq_eq_false_iff_ne.2 k27
  have b19 : (k == 19) = false := beq_eq_false_iff_ne.2 k19
  have b21 : (k == 21) = false := beq_eq_false_iff_ne.2 k21
  have b13 : (k == 13) = false := beq_eq_false_iff_ne.2 k13
  have b16 : (k == 16) = false := beq_eq_false_iff_ne.2 k16
  clear hv k2 k26 k27 k19 k21 k13 k16
  go_enter Tryq.func69, Tryq.ntmps69
  go_wp2
  go_ret
  exact ⟨rfl, rfl⟩
theorem moved_g (k d : Int) (w : World) : Calls Tryq.prog 69 #[.int .i64 k, .int .i64 d] w fun e w' => e = .returned (.int .i64 (mvf k d)) ∧ Gr w w' := (moved_c k d w).mono fun _ _ ⟨h, e⟩ => ⟨h, by rw [e]; exact Gr.refl _⟩
end Go.Proofs.YtegkbjpcgelomaaGreatDoor.Walks
end
/- Walks of package fast: the days of a year. -/
section
namespace Go.Proofs.YtegkbjpcgelomaaGreatDoor.Walks
open Go Go.RowKit Go.Sort Go.Proofs.YtegkbjpcgelomaaGreatDoor.Base Go.Proofs.YtegkbjpcgelomaaGreatDoor.Plain Go.Proofs.YtegkbjpcgelomaaGreatDoor.Math

/-- A day of a month that every year has: what ToDay tells. -/
theorem htoday_dyn (y n d : Int) (w : World) (G : GT w) (h0 : 1 ≤ y) (h1 : y ≤ 9999) (n0 : 1 ≤ n) (n1 : n ≤ 12) (d0 : 1 ≤ d) (d1 : d ≤ 29) :
    Calls Tryq.prog 24 #[.agg #[.int .i64 y, .int .i64 n, .bool false, .int .i64 d]] w fun e w' => e = .returned (.tuple #[.int .i64 (dyn y n d), .int .i64 0]) ∧ Gr w w' := by
  obtain ⟨a, b, c⟩ := dJ_in (lp y) n0 n1
  have := htoday_in y (dJ (lp y) n) d w G (dyn_hv h0 h1 n0 n1 d0 d1)
  rw [b, c] at this
  exact this
/-- A cell of the rows. -/
def xrv (j : Nat) : Value :=
  match j % 3 with
  | 0 => .int .i64 (xK (j / 3))
  | 1 => .int .i64 (xN (j / 3))
  | _ => .int .i64 (xD (j / 3))
def xrV : Array Value := Array.ofFn fun j : Fin 27 => xrv j.val
theorem xrow_new (w : World) (vs : Array Value) (hv : vs = xrV) (e : TypeId) : Row (w.alloc (.cells vs e)) 3 9 w.heap.size xrv := by
  subst hv
  refine ⟨by simp, fun j hj => ?_⟩
  rw [Lib.cell_of_heap (heap_alloc_new w _)]
  have hj : j < 27 := hj
  unfold xrV
  simp [hj]
theorem xrow_cells {w : World} {g : Nat} (R : Row w 3 9 g xrv) {i : Nat} (hi : i < 9) :
    w.cell? ⟨g, i * 3, none⟩ = some (.int .i64 (xK i)) ∧ w.cell? ⟨g, i * 3 + 1, none⟩ = some (.int .i64 (xN i)) ∧ w.cell? ⟨g, i * 3 + 2, none⟩ = some (.int .i64 (xD i)) := by
  have key : ∀ o, o < 3 → (i * 3 + o) % 3 = o ∧ (i * 3 + o) / 3 = i := fun o ho => ⟨by omega, by omega⟩
  have c := fun o (ho : o < 3) => R.c (i * 3 + o) (by omega)
  refine ⟨?_, ?_, ?_⟩
  · have := c 0 (by decide); unfold xrv at this; rw [(key 0 (by decide)).1, (key 0 (by decide)).2] at this; exact this
  · have := c 1 (by decide); unfold xrv at this; rw [(key 1 (by decide)).1, (key 1 (by decide)).2] at this; exact this
  · have := c 2 (by decide); unfold xrv at this; rw [(key 2 (by decide)).1, (key 2 (by decide)).2] at this; exact this
set_option maxRecDepth 20000 in
set_option maxHeartbeats 8000000 in
theorem fastof_c (y : Int) (w : World) (G : GT w) (h0 : 1 ≤ y) (h1 : y ≤ 9999) : Calls Tryq.prog 32 #[.int .i64 y] w (OfO w (xep y 9)) := by
  have C2 := Lib.hid fun W (hW : Gr w W) i (hi : i < 9) => htoday_dyn y (xN i) (xD i) W (G.gr hW) h0 h1 (x_ok i hi).2.2.1 (x_ok i hi).2.2.2.1 (x_ok i hi).2.2.2.2.1 (x_ok i hi).2.2.2.2.2
  have C3 : RowKit.Hid (∀ (v : Value) (L : List (Int × Int)) (W : World), L.length ≤ 1000 → Gr w W → 0 < L.length → (∃ g cap, v = .slice (some ⟨g, 0, none⟩) L.length cap ∧ Evs W g L) → Calls Tryq.prog 67 #[v] W (SortO W L)) := Lib.hid fun v L W h2 _ h3 ⟨g, cap, q, E⟩ => by
    subst q; exact sortO_c g cap L W h3 h2 E
  clear G
  go_enter Tryq.func32, Tryq.ntmps32
  go_wp2
  have hR : Row (w.alloc (Obj.cells #[.int .i64 2, .int .i64 1, .int .i64 3, .int .i64 10, .int .i64 4, .int .i64 10, .int .i64 13, .int .i64 6, .int .i64 13, .int .i64 16, .int .i64 7, .int .i64 14, .int .i64 19, .int .i64 7, .int .i64 27, .int .i64 21, .int .i64 8, .int .i64 5, .int .i64 24, .int .i64 8, .int .i64 28, .int .i64 26, .int .i64 10, .int .i64 17, .int .i64 27, .int .i64 11, .int .i64 9] 116)) 3 9 w.heap.size xrv := xrow_new w _ (by kernel_rfl) _
  obtain ⟨wA, hwA⟩ : ∃ W, W = w.alloc (Obj.cells #[.int .i64 2, .int .i64 1, .int .i64 3, .int .i64 10, .int .i64 4, .int .i64 10, .int .i64 13, .int .i64 6, .int .i64 13, .int .i64 16, .int .i64 7, .int .i64 14, .int .i64 19, .int .i64 7, .int .i64 27, .int .i64 21, .int .i64 8, .int .i64 5, .int .i64 24, .int .i64 8, .int .i64 28, .int .i64 26, .int .i64 10, .int .i64 17, .int .i64 27, .int .i64 11, .int .i64 9] 116) := ⟨_, rfl⟩
  rw [← hwA] at hR ⊢
  have hgA : Gr w wA := by rw [hwA]; exact (Gr.refl _).alloc _
  clear hwA
  go_loopg [4, 26] 9 (fun kx s4 s26 wr => ∃ (i : Nat), i ≤ 9 ∧ 9 - i ≤ kx ∧ s26 = .int .i64 (i : Int) ∧ wr.ownsRow wA.heap.size 67 2 s4 (xep y i).length (cel (xep y i)) ∧ Gr wA wr)
  case atStart => exact ⟨0, by omega, by omega, rfl, World.ownsRow_nil _ _ _ _, Gr.refl _⟩
  case round =>
    obtain ⟨i, hi, hm, rfl, ho, hg⟩ := hrel
    rename World => wo
    by_cases e : i < 9
    · have e' : (i : Int) < 9 := by omega
      obtain ⟨k0, k1, k2⟩ := xrow_cells (hR.gr hg) e
      have fl := xep_len y i
      have hx := x_ok i e
      obtain ⟨K, hK⟩ : ∃ K, xK i = K := ⟨_, rfl⟩
      rw [hK] at k0
      obtain ⟨F, hF⟩ : ∃ F, dyn y (xN i) (xD i) = F := ⟨_, rfl⟩
      have rF := dyn_range h0 h1 hx.2.2.1 hx.2.2.2.1 hx.2.2.2.2.1 hx.2.2.2.2.2
      rw [hF] at rF
      have C2i : RowKit.Hid (∀ W, Gr w W → Calls Tryq.prog 24 #[.agg #[.int .i64 y, .int .i64 (xN i), .bool false, .int .i64 (xD i)]] W fun e w' => e = .returned (.tuple #[.int .i64 F, .int .i64 0]) ∧ Gr W w') := Lib.hid fun W hW => by
        have := C2.out W hW i e; rwa [hF] at this
      have rM := mvf_range K (F % 7)
      obtain ⟨V, hV⟩ : ∃ V, mvf K (F % 7) = V := ⟨_, rfl⟩
      have C4 : RowKit.Hid (∀ W, Calls Tryq.prog 69 #[.int .i64 K, .int .i64 (F % 7)] W fun e w' => e = .returned (.int .i64 V) ∧ Gr W w') := Lib.hid fun W => by rw [← hV]; exact moved_g _ _ W
      rw [hV] at rM
      have HX : RowKit.Hid (xdy y i = F + V) := Lib.hid (by unfold xdy; rw [hF, hK, hV])
      obtain ⟨rF0, rF1⟩ := rF
      obtain ⟨rM0, rM1⟩ := rM
      clear hF hV hx C2
      go_wp2_with (first | (go_at_call 24; (refine (C2i.out _ ((by repeat (first | exact Gr.refl _ | refine Gr.setCell ?_ _ _ (by first | exact Nat.le_refl _ | (simp; omega) | (simp; done)) | refine Gr.grown ?_ _ _ | refine Gr.drewN ?_ _ | refine Gr.drew ?_ | refine Gr.alloc ?_ _ | refine Gr.grow ?_ _ | (refine Gr.trans ?_ (by assumption)))))).mono ?_); rintro e1 wD ⟨rfl, hgD⟩; have l0 := hgD.lt (b := wo.heap.size) (by simp); have c0 := hgD.keep (b := wo.heap.size) (o := 0) (v := .int .i64 K) (by simp) (by simp [go_sem]); have hbx : wD.heap[wo.heap.size]? = some (Obj.cells #[.int .i64 K, .int .i64 (xN i), .int .i64 (xD i)] 116 (0, 0)) := (hgD.heap (by simp)).trans (heap_alloc_new wo _); have oD := own_gr (own_gr ho ((Gr.refl _).alloc _)) hgD; have GD : Gr wA wD := ((by repeat (first | exact Gr.refl _ | refine Gr.setCell ?_ _ _ (by first | exact Nat.le_refl _ | (simp; omega) | (simp; done)) | refine Gr.grown ?_ _ _ | refine Gr.drewN ?_ _ | refine Gr.drew ?_ | refine Gr.alloc ?_ _ | refine Gr.grow ?_ _ | (refine Gr.trans ?_ (by assumption))))); clear hgD ho hg k0 k1 k2))
      have d0 := gcell_in l0 c0
      have rA := Lib.hid (And.intro rF0 (And.intro rF1 (And.intro rM0 rM1)))
      (refine wp_region_quiet_grown mixed (by kernel_rfl) ?_; (repeat (first | go_big_quiet_step ((first | (go_at_call 19; exact gr_of (wd_c F _ (by omega) (by omega))) | (go_at_call 69; exact gr_of (C4.out _)))) | quiet_step ((first | (go_at_call 19; exact gr_of (wd_c F _ (by omega) (by omega))) | (go_at_call 69; exact gr_of (C4.out _)))))); refine wpQuiet_nil ?_; intro _ hw'; obtain ⟨⟨nq, osq⟩, hw''⟩ := hw'; subst hw'')
      generalize hW2 : grow (wD.drewN nq) osq = W2
      have GW2 : Gr wD W2 := by rw [← hW2]; exact (Gr.refl _).grown _ _
      have gm : Gr wA W2 := GD.trans GW2
      have om := own_gr oD GW2
      have hbm := (GW2.heap l0).trans hbx
      have lm : wo.heap.size < W2.heap.size := GW2.lt l0
      have hsm := gm.size
      have c1 : W2.cell? ⟨wo.heap.size, 0, none⟩ = some (.int .i64 K) := by rw [Lib.cell_of_heap hbm]; rfl
      have hne := own_ne om hbm (by decide)
      clear hW2 GW2 GD oD hbx l0 c0 d0 C2i C4
      by_cases k21 : K = 21
      · subst k21
        have ev : xep y (i + 1) = xep y i ++ [(21, F + V)] ++ [(20, F + V - 1)] := by
          rw [xep_snoc, List.append_assoc]
          unfold xev
          rw [if_pos hK, hK, HX.out]
          rfl
        go_wp2_with (first | (at_builtin; refine append_evs _ rfl _ _ rfl wA.heap.size _ _ _ rfl (om.alloc _) _ 1 [.int .i64 21, .int .i64 (F + V)] rfl rfl (news2 rfl _ _ _) (by simp [Value.oneCell']) (by omega) (by simp; omega) ?_; intro g1 c1 wX OX kX bX GX_; have GX : Gr wA wX := GX_ wA (gm.alloc _) (Nat.le_refl _); have hb2 : wX.heap[wo.heap.size]? = some (Obj.cells #[.int .i64 21, .int .i64 (xN i), .int .i64 (xD i)] 116 (0, 0)) := (by rw [kX.block wo.heap.size (by simp; omega) hne, Lib.alloc_old _ _ _ lm]; exact hbm); have c2 : wX.cell? ⟨wo.heap.size, 0, none⟩ = some (.int .i64 21) := (by rw [Lib.cell_of_heap hb2]; rfl); have hsX := GX.size; clear om gm GX_ hne hbm) | (at_builtin; refine append_evs _ rfl _ _ rfl wA.heap.size _ _ _ rfl (OX.alloc _) _ 1 [.int .i64 20, .int .i64 (F + V - 1)] rfl rfl (news2 rfl _ _ _) (by simp [Value.oneCell']) (by omega) (by simp; omega) ?_; intro g2 c3 wZ OZ kZ bZ GZ_; have GZ : Gr wA wZ := GZ_ wA (GX.alloc _) (Nat.le_refl _)))
        go_roundg (9 - (i + 1))
        case measure => omega
        case rel =>
          refine ⟨i + 1, by omega, Nat.le_refl _, by go_num, ?_, GZ⟩
          rw [ev, cel_snoc, cel_snoc]
          simp only [List.length_append, List.length_cons, List.length_nil, Nat.zero_add] at OZ ⊢
          exact OZ
      · have q21 : (K == 21) = false := beq_eq_false_iff_ne.2 k21
        have ev : xep y (i + 1) = xep y i ++ [(K, F + V)] := by
          rw [xep_snoc]
          unfold xev
          rw [if_neg (by rw [hK]; exact k21), hK, HX.out]
        go_wp2_with (first | (at_builtin; refine append_evs _ rfl _ _ rfl wA.heap.size _ _ _ rfl (om.alloc _) _ 1 [.int .i64 K, .int .i64 (F + V)] rfl rfl (news2 rfl _ _ _) (by simp [Value.oneCell']) (by omega) (by simp; omega) ?_; intro g1 c1 wX OX kX bX GX_; have GX : Gr wA wX := GX_ wA (gm.alloc _) (Nat.le_refl _); have hb2 : wX.heap[wo.heap.size]? = some (Obj.cells #[.int .i64 K, .int .i64 (xN i), .int .i64 (xD i)] 116 (0, 0)) := (by rw [kX.block wo.heap.size (by simp; omega) hne, Lib.alloc_old _ _ _ lm]; exact hbm); have c2 : wX.cell? ⟨wo.heap.size, 0, none⟩ = some (.int .i64 K) := (by rw [Lib.cell_of_heap hb2]; rfl); clear om gm GX_ hne hbm))
        go_roundg (9 - (i + 1))
        case measure => omega
        case rel =>
          refine ⟨i + 1, by omega, Nat.le_refl _, by go_num, ?_, GX⟩
          rw [ev, cel_snoc]
          simp only [List.length_append, List.length_cons, List.length_nil, Nat.zero_add] at OX ⊢
          exact OX
    · obtain rfl : i = 9 := by omega
      have hp := xep_pos y
      have hlen := xep_len y 9
      obtain ⟨g, cap, rfl⟩ : ∃ g cap, u4 = .slice (some ⟨g, 0, none⟩) (xep y 9).length cap := by
        rcases ho.2 with ⟨-, z⟩ | ⟨g, cap, -, rfl, -⟩
        · omega
        · exact ⟨g, cap, rfl⟩
      have HO := Lib.hid (evs_of ho hp rfl)
      clear ho
      go_wp2_with (first | (go_at_call 67; refine (C3.out _ (xep y 9) _ (by omega) ((by repeat (first | exact Gr.refl _ | refine Gr.setCell ?_ _ _ (by first | exact Nat.le_refl _ | (simp; omega) | (simp; done)) | refine Gr.grown ?_ _ _ | refine Gr.drewN ?_ _ | refine Gr.drew ?_ | refine Gr.alloc ?_ _ | refine Gr.grow ?_ _ | (refine Gr.trans ?_ (by assumption))))) hp ⟨g, cap, rfl, HO.out⟩).mono ?_; rintro e2 wE ⟨g2, cap2, M, rfl, hPerm, hOwn, hgE⟩))
      go_ret2
      have GE : Gr w wE := (by repeat (first | exact Gr.refl _ | refine Gr.setCell ?_ _ _ (by first | exact Nat.le_refl _ | (simp; omega) | (simp; done)) | refine Gr.grown ?_ _ _ | refine Gr.drewN ?_ _ | refine Gr.drew ?_ | refine Gr.alloc ?_ _ | refine Gr.grow ?_ _ | (refine Gr.trans ?_ (by assumption))))
      exact ⟨g2, cap2, M, rfl, hPerm, own_mono hOwn ((Gr.trans hgA hg).size), GE⟩
end Go.Proofs.YtegkbjpcgelomaaGreatDoor.Walks
end
/- A region that draws its order, whose first operation yields the same in every world and may come late: it is taken first; then as in the text on tails: the next only read, the rest comes behind all of these, one by one. -/
section
namespace Go.Proofs.YtegkbjpcgelomaaGreatDoor.Base
open Go Go.RowKit Go.Sort
section
variable {P : Program} {ops : Array Oper} {md : Region.Mode} {C : World → Prop}

def sinkM (md : Region.Mode) (ops : Array Oper) (m n : Nat) : Bool :=
  (List.range n).all fun i => decide (i < m) || (List.range (n + 1)).any fun j => decide (i < j) && Region.waitsFor md ops j i
structure HeadM (md : Region.Mode) (ops : Array Oper) (m n : Nat) (ls : Array Bool) : Prop where
  h : HeadInv md ops n ls
  pre : ∀ i, i < m → ls.getD i false = true
theorem HeadM.set {m n i : Nat} {ls : Array Bool} (inv : HeadM md ops m n ls) (hi : i ∈ Region.ready md ops ls) (hin : i < n) : HeadM md ops m n (ls.setIfInBounds i true) :=
  ⟨inv.h.set hi hin, fun j hj => getD_set_true (inv.pre j hj)⟩
theorem tail_waitsM {m n : Nat} {listed : Array Bool} (hs : sinkM md ops m n = true) (hc : Region.chainB md ops n = true) (hn : n < ops.size) (inv : HeadM md ops m n listed) :
    ∀ (d i : Nat), n - i = d → i < n → listed.getD i true = false → ∀ t, n ≤ t → t ∉ Region.ready md ops listed := by
  intro d
  induction d using Nat.strongRecOn with
  | _ d ih =>
    intro i hd hi hun t ht hr
    obtain ⟨_, ot, hot, hall⟩ := mem_ready.1 hr
    have htlt : t < ops.size := (Array.getElem?_eq_some_iff.1 hot).1
    by_cases htn : t = n
    · subst htn
      have h1 := List.all_eq_true.1 hs i (List.mem_range.2 hi)
      simp only [Bool.or_eq_true, decide_eq_true_eq] at h1
      rcases h1 with h1 | h1
      · have := getD_both hun; rw [inv.pre i h1] at this; cases this
      obtain ⟨j, hj, hj2⟩ := List.any_eq_true.1 h1
      simp only [Bool.and_eq_true, decide_eq_true_eq] at hj2
      obtain ⟨oj, hoj, e, he, hb, hon⟩ := Region.waitsFor_spec hj2.2
      have hjle : j ≤ t := by have := List.mem_range.1 hj; omega
      by_cases hjt : j = t
      · subst hjt
        have : oj = ot := Option.some.inj (hoj.symm.trans hot)
        subst this
        have h2 := hall e he hb
        rw [hon, getD_both hun] at h2
        cases h2
      · cases hl : listed.getD j false with
        | true =>
          have h2 := inv.h.closed j oj hoj hl e he hb
          rw [hon, getD_both hun] at h2
          cases h2
        | false =>
          have hjs : j < listed.size := by rw [inv.h.size]; omega
          exact ih (t - j) (by omega) j rfl (by omega) (getD_in hjs hl) t (Nat.le_refl _) hr
    · have h1 := List.all_eq_true.1 hc t (List.mem_range.2 htlt)
      simp only [Bool.or_eq_true, decide_eq_true_eq] at h1
      rcases h1 with h1 | h1
      · omega
      · obtain ⟨o', ho', e, he, hb, hon⟩ := Region.waitsFor_spec h1
        have : o' = ot := Option.some.inj (ho'.symm.trans hot)
        subst this
        have h2 := hall e he hb
        rw [hon, getD_both (inv.h.tail (t - 1) (by omega) (by omega))] at h2
        cases h2

theorem headQ_firstM {m n i : Nat} {oi : Oper} {v : Value} {L : Array Bool → Act → Prop} (hi : ops[i]? = some oi) (hsel : ∀ (j : Nat) (o : Oper) cs b, ops[j]? = some o → o.op ≠ .select cs b)
    (hs : sinkM md ops m n = true) (hc : Region.chainB md ops n = true) (hn : n < ops.size) (hin : i < n) (hdone : ∀ ls a, L ls a → ∀ j ∈ Region.ready md ops ls, n ≤ j) :
    ∀ (f : Nat) (ls : Array Bool) (a : Act), HeadM md ops m n ls →
      (∀ j oj, ops[j]? = some oj → j ≠ i → ls.getD j true = false → (∀ e ∈ oj.after, Region.binds md e = true → e.on ≠ i) → oi.apart ops oj = true) →
      i ∈ Region.ready md ops ls → YieldsIn P ops C oi v a → headQ P md ops C n L f (ls.setIfInBounds i true) (a.put oi.dst v) → headQ P md ops C n L (f + 1) ls a := by
  intro f
  induction f with
  | zero =>
    intro ls a inv _ hr hy H
    have un := (mem_ready.1 hr).1
    have low : ∀ j, j ∈ Region.ready md ops ls → j < n := fun j hj => by
      rcases Nat.lt_or_ge j n with h | h
      · exact h
      · exact absurd hj (tail_waitsM hs hc hn inv _ i rfl hin un j h)
    refine ⟨fun h => (by rw [h] at hr; cases hr), fun j hj => ⟨low j hj, ?_⟩⟩
    by_cases e : j = i
    · subst e; exact hy.qOp hi H
    · exact absurd (hdone _ _ H j (ready_mono hj e)) (by have := low j hj; omega)
  | succ f ih =>
    intro ls a inv free hr hy H
    have un := (mem_ready.1 hr).1
    have low : ∀ j, j ∈ Region.ready md ops ls → j < n := fun j hj => by
      rcases Nat.lt_or_ge j n with h | h
      · exact h
      · exact absurd hj (tail_waitsM hs hc hn inv _ i rfl hin un j h)
    refine ⟨fun h => (by rw [h] at hr; cases hr), fun j hj => ⟨low j hj, ?_⟩⟩
    by_cases e : j = i
    · subst e; exact hy.qOp hi H
    · have H1 := (H.2 j (ready_mono hj e)).2
      obtain ⟨jun, oj, hoj, hall⟩ := mem_ready.1 hj
      have nobind : ∀ x ∈ oj.after, Region.binds md x = true → x.on ≠ i := fun x hx hb heq => by
        have q := hall x hx hb
        rw [heq, getD_both un] at q
        cases q
      have H2 := qOp_put hoj (free j oj hoj e jun nobind) (fun cs b => hsel i oi cs b hi) (fun cs b => hsel j oj cs b hoj) hy H1
      refine qOp_mono (fun a' H3 => ih (ls.setIfInBounds j true) a' (inv.set hj (low j hj)) (fun k ok hk hki hun hno => free k ok hk hki ?_ hno) (ready_mono hr (Ne.symm e)) H3.1 ?_) H2
      · by_cases z : j = k
        · subst z; exact jun
        · rw [getD_set_ne true z] at hun; exact hun
      · rw [Array.setIfInBounds_comm _ _ e]; exact H3.2

theorem headQ_lexM {m n g : Nat} {Lq : Act → Prop} (hsel : Region.noSelect ops = true) (hs : sinkM md ops m n = true) (hc : Region.chainB md ops n = true) (hn : n < ops.size) :
    ∀ (l : List Oper) (k : Nat) (ls : Array Bool) (a : Act), (∀ j, j < l.length → l[j]? = ops[k + j]?) → k + l.length = n → HeadM md ops m n ls →
    Region.lexHead md ops g l.length k ls = true → wpQuiet P ops C Lq l a → headQ P md ops C n (fun ls' a' => Region.seqB md ops g n ls' = true ∧ Lq a') l.length ls a := by
  intro l
  induction l with
  | nil =>
    intro k ls a _ hk _ hB h
    have e : k = n := by simpa using hk
    subst e
    exact ⟨by simpa [Region.lexHead] using hB, h⟩
  | cons o l ih =>
    intro k ls a hl hk inv hB h
    have h0 : ops[k]? = some o := by simpa using (hl 0 (by simp)).symm
    simp only [List.length_cons, Region.lexHead, Bool.and_eq_true] at hB
    obtain ⟨⟨hr, hf⟩, hB'⟩ := hB
    have hkn : k < n := by simp only [List.length_cons] at hk; omega
    have hr' : k ∈ Region.ready md ops ls := by simpa using hr
    have hst : qOp P ops C k (wpQuiet P ops C Lq l) a := by unfold qOp; simp only [h0]; exact h
    obtain ⟨v, hy, hK⟩ := yieldsIn_of_qOp h0 hst
    exact headQ_firstM h0 (Region.noSelect_spec hsel) hs hc hn hkn (fun ls' a' hL => seqB_ready hL.1) l.length ls a inv (Region.free_spec h0 hf) hr' hy
      (ih (k + 1) _ _ (fun j hj => by have := hl (j + 1) (by simp; omega); simpa [Nat.add_assoc, Nat.add_comm 1 j] using this) (by simp only [List.length_cons] at hk; omega) (inv.set hr' hkn) hB' hK)

/-- What the kernel reckons: the first operation may come now and is apart from the others; behind it the head and the tail. -/
def lexPre (md : Region.Mode) (ops : Array Oper) (n : Nat) : Bool :=
  Region.noSelect ops && decide (n < ops.size) && decide (0 < n) && sinkM md ops 1 n && Region.chainB md ops n && Region.free md ops (Array.replicate ops.size false) 0 && (Region.ready md ops (Array.replicate ops.size false)).contains 0 &&
    Region.lexHead md ops (ops.size - n) (n - 1) 1 ((Array.replicate ops.size false).setIfInBounds 0 true)

/-- In the class of grown worlds; the first operation taken ahead of all. -/
theorem wp_region_pre_tail {id : Nat} {Q : Exit → Act → World → Prop} {a : Act} {w : World} {o : Oper} {l : List Oper} (n : Nat) (v : Value) (hm : P.follows .mixedOrders = true) (hB : lexPre .any (o :: l).toArray n = true)
    (hQ : ∀ c a w, Q (.panic c) (a.put o.dst v) w → Q (.panic c) a w) (hy : Yields P (o :: l).toArray o v a)
    (h : wpQuiet P (o :: l).toArray (fun w' => ∃ p : GrownBy, w' = grow (w.drewN p.n) p.os) (fun a' => ∀ w', (∃ p : GrownBy, w' = grow (w.drewN p.n) p.os) → wpList P (o :: l).toArray Q ((o :: l).drop n) a' w') (((o :: l).take n).drop 1) (a.put o.dst v)) :
    (Code.region id (o :: l).toArray true).wp P Q a w := by
  simp only [lexPre, Bool.and_eq_true, decide_eq_true_eq] at hB
  obtain ⟨⟨⟨⟨⟨⟨⟨hsel, hn⟩, h0⟩, hs⟩, hc⟩, hf⟩, hr⟩, hlex⟩ := hB
  have hn' : n < (o :: l).length := by simpa using hn
  have htl : (((o :: l).take n).drop 1).length = n - 1 := by simp at hn' ⊢; omega
  have hdl : ((o :: l).drop n).length = (o :: l).toArray.size - n := by simp
  refine wp_region_any hm ?_
  have hr' : 0 ∈ Region.ready .any (o :: l).toArray (Array.replicate (o :: l).toArray.size false) := by simpa using hr
  have inv0 : HeadM .any (o :: l).toArray 1 n ((Array.replicate (o :: l).toArray.size false).setIfInBounds 0 true) :=
    ⟨HeadInv.set ⟨by simp, fun j oj _ hl => (by rw [getD_replicate_false] at hl; cases hl), fun t _ ht => getD_in (by simpa using ht) (getD_replicate_false _ _)⟩ hr' h0,
      fun i hi => by have : i = 0 := by omega
                     subst this; simp⟩
  have H := headQ_lexM (md := .any) (g := (o :: l).toArray.size - n) hsel hs hc hn (((o :: l).take n).drop 1) 1 _ _ (fun j hj => by
    have hj' : j < n - 1 := by rw [htl] at hj; exact hj
    rw [List.getElem?_drop, List.getElem?_take]
    simp [show 1 + j < n by omega]) (by rw [htl]; omega) inv0 (by rw [htl]; exact hlex) h
  have := any_of_headQ (Q' := Q) (g := (o :: l).toArray.size - n) (fun ls a' w' hw' hL => by
    have := wpAny_of_seq (md := .any) (Q' := Q) ((o :: l).drop n) n ls a' w' (fun j => by simp [List.getElem?_drop]) (by rw [hdl]; exact hL.1) (hL.2 w' hw')
    rwa [hdl] at this) _ _ _ _ (show (fun w' => ∃ p : GrownBy, w' = grow (w.drewN p.n) p.os) { w with drawn := w.drawn + 1 } from ⟨⟨1, #[]⟩, by rw [grow_empty]; rfl⟩) H
  rw [htl, show n - 1 + ((o :: l).toArray.size - n) = l.length by simp at hn' ⊢; omega] at this
  rw [show (o :: l).toArray.size = l.length + 1 by simp] at *
  exact wpAny_take (i := 0) (oi := o) (by simp) hsel hf hr hQ hy this
end
end Go.Proofs.YtegkbjpcgelomaaGreatDoor.Base
end
/- Walks of package special: the days of a year. -/
section
namespace Go.Proofs.YtegkbjpcgelomaaGreatDoor.Walks
open Go Go.RowKit Go.Sort Go.Proofs.YtegkbjpcgelomaaGreatDoor.Base Go.Proofs.YtegkbjpcgelomaaGreatDoor.Plain Go.Proofs.YtegkbjpcgelomaaGreatDoor.Math

set_option maxRecDepth 20000 in
set_option maxHeartbeats 8000000 in
theorem specof_c (y : Int) (w : World) (G : GT w) (h0 : 1 ≤ y) (h1 : y ≤ 9999) : Calls Tryq.prog 33 #[.int .i64 y] w (OfO w (sep y 8)) := by
  have C1 := Lib.hid fun W => srules_c W
  have C2 := Lib.hid fun W (hW : Gr w W) i (hi : i < 8) => htoday_dyn y (sN i) (sD i) W (G.gr hW) h0 h1 (s_ok i hi).2.2.1 (s_ok i hi).2.2.2.1 (s_ok i hi).2.2.2.2.1 (s_ok i hi).2.2.2.2.2.1
  have C3 : RowKit.Hid (∀ (v : Value) (L : List (Int × Int)) (W : World), L.length ≤ 1000 → Gr w W → 0 < L.length → (∃ g cap, v = .slice (some ⟨g, 0, none⟩) L.length cap ∧ Evs W g L) → Calls Tryq.prog 67 #[v] W (SortO W L)) := Lib.hid fun v L W h2 _ h3 ⟨g, cap, q, E⟩ => by
    subst q; exact sortO_c g cap L W h3 h2 E
  clear G
  go_enter Tryq.func33, Tryq.ntmps33
  go_wp2_with (first | (go_at_call 70; (with_reducible refine (C1.out _).mono ?_); rintro e wA ⟨gR, rfl, hR, hgA⟩))
  go_loopg [4, 11] 8 (fun kx s4 s11 wr => ∃ (i : Nat), i ≤ 8 ∧ 8 - i ≤ kx ∧ s11 = .int .i64 (i : Int) ∧ wr.ownsRow wA.heap.size 67 2 s4 i (cel (sep y i)) ∧ Gr wA wr)
  case atStart => exact ⟨0, by omega, by omega, rfl, World.ownsRow_nil _ _ _ _, Gr.refl _⟩
  case round =>
    obtain ⟨i, hi, hm, rfl, ho, hg⟩ := hrel
    rename World => wo
    by_cases e : i < 8
    · have e' : (i : Int) < 8 := by omega
      obtain ⟨k0, k1, k2, k3, k4⟩ := srow_cells (hR.gr hg) e
      have hx := s_ok i e
      obtain ⟨K, hK⟩ : ∃ K, sK i = K := ⟨_, rfl⟩
      rw [hK] at k0
      obtain ⟨X, hX⟩ : ∃ X, sX i = X := ⟨_, rfl⟩
      rw [hX] at k4
      obtain ⟨g, hgf⟩ : ∃ g, (if i = 0 then 104 else 105) = g := ⟨_, rfl⟩
      rw [hgf] at k3
      obtain ⟨F, hF⟩ : ∃ F, dyn y (sN i) (sD i) = F := ⟨_, rfl⟩
      have rF := dyn_range h0 h1 hx.2.2.1 hx.2.2.2.1 hx.2.2.2.2.1 hx.2.2.2.2.2.1
      rw [hF] at rF
      have C2i : RowKit.Hid (∀ W, Gr w W → Calls Tryq.prog 24 #[.agg #[.int .i64 y, .int .i64 (sN i), .bool false, .int .i64 (sD i)]] W fun e w' => e = .returned (.tuple #[.int .i64 F, .int .i64 0]) ∧ Gr W w') := Lib.hid fun W hW => by
        have := C2.out W hW i e; rwa [hF] at this
      have rN := sNear_range i F
      obtain ⟨V, hV⟩ : ∃ V, sNear i F = V := ⟨_, rfl⟩
      have C4 : RowKit.Hid (∀ W, Calls Tryq.prog g #[.int .i64 F, .int .i64 6] W fun e w' => e = .returned (.int .i64 V) ∧ Gr W w') := Lib.hid fun W => by
        rw [← hgf, ← hV]
        unfold sNear
        by_cases i0 : i = 0
        · rw [if_pos i0, if_pos i0]; exact wfrom_c F W (by omega) (by omega)
        · rw [if_neg i0, if_neg i0]; exact wupto_c F W (by omega) (by omega)
      have eg : ∀ (args : Array Value) (w : World), (callFunc g args).run Tryq.prog w = .ok (.enter g args) w := fun args w => by
        rw [← hgf]
        by_cases i0 : i = 0
        · rw [if_pos i0]; exact Tryq.call104 args w
        · rw [if_neg i0]; exact Tryq.call105 args w
      rw [hV] at rN
      have HX : RowKit.Hid (sdy y i = V + X) := Lib.hid (by unfold sdy; rw [hF, hX, hV])
      have rX : -7 ≤ X ∧ X ≤ 7 := ⟨by omega, by omega⟩
      obtain ⟨rF0, rF1⟩ := rF
      obtain ⟨rN0, rN1⟩ := rN
      obtain ⟨rX0, rX1⟩ := rX
      clear hF hV hgf hx C2 C1
      go_wp2_with (first | (go_at_call 24; (refine (C2i.out _ ((by repeat (first | exact Gr.refl _ | refine Gr.setCell ?_ _ _ (by first | exact Nat.le_refl _ | (simp; omega) | (simp; done)) | refine Gr.grown ?_ _ _ | refine Gr.drewN ?_ _ | refine Gr.drew ?_ | refine Gr.alloc ?_ _ | refine Gr.grow ?_ _ | (refine Gr.trans ?_ (by assumption)))))).mono ?_); rintro e1 wD ⟨rfl, hgD⟩; have hbx : wD.heap[wo.heap.size]? = some (Obj.cells #[.int .i64 K, .int .i64 (sN i), .int .i64 (sD i), .func (.func g) #[] #[], .int .i64 X] 121 (0, 0)) := (hgD.heap (by simp)).trans (heap_alloc_new wo _); have l0 := hgD.lt (b := wo.heap.size) (by simp); have oD := own_gr (own_gr ho ((Gr.refl _).alloc _)) hgD; have GD : Gr wA wD := ((by repeat (first | exact Gr.refl _ | refine Gr.setCell ?_ _ _ (by first | exact Nat.le_refl _ | (simp; omega) | (simp; done)) | refine Gr.grown ?_ _ _ | refine Gr.drewN ?_ _ | refine Gr.drew ?_ | refine Gr.alloc ?_ _ | refine Gr.grow ?_ _ | (refine Gr.trans ?_ (by assumption))))); clear hgD ho hg k0 k1 k2 k3 k4))
      have c0 := gcell_in l0 (show wD.cell? ⟨wo.heap.size, 0, none⟩ = some (.int .i64 K) by rw [Lib.cell_of_heap hbx]; rfl)
      have c3 := gcell_in l0 (show wD.cell? ⟨wo.heap.size, 3, none⟩ = some (.func (.func g) #[] #[]) by rw [Lib.cell_of_heap hbx]; rfl)
      have c4 := gcell_in l0 (show wD.cell? ⟨wo.heap.size, 4, none⟩ = some (.int .i64 X) by rw [Lib.cell_of_heap hbx]; rfl)
      clear hbx
      (refine wp_region_pre_tail 11 (u4) mixed (by kernel_rfl) (fun _ _ _ h => h) (Or.inl ⟨by rfl, fun wy => ?_⟩) ?_; (· go_simp); simp only [Act.put, List.setIfInBounds_toArray, List.set_cons_zero, List.set_cons_succ, List.take_succ_cons, List.take_zero, List.drop_zero, List.drop_succ_cons]; (repeat (first | go_big_quiet_step ((first | (go_at_fn g; exact gr_of (C4.out _)))) | quiet_step ((first | (go_at_fn g; exact gr_of (C4.out _)))))); refine wpQuiet_nil ?_; intro _ hw'; obtain ⟨⟨nq, osq⟩, hw''⟩ := hw'; subst hw'')
      generalize hW2 : grow (wD.drewN nq) osq = W2
      have GW2 : Gr wD W2 := by rw [← hW2]; exact (Gr.refl _).grown _ _
      have gm : Gr wA W2 := GD.trans GW2
      have om := own_gr oD GW2
      have hsm := gm.size
      clear hW2 GW2 GD oD l0 c0 c3 c4 C2i C4 eg
      go_wp2_with (first | (at_builtin; refine append_evs _ rfl _ _ rfl wA.heap.size _ _ _ rfl (om.alloc _) _ 1 [.int .i64 K, .int .i64 (V + X)] rfl rfl (news2 rfl _ _ _) (by simp [Value.oneCell']) (by omega) (by simp; omega) ?_; intro g1 c1 wX OX kX bX GX_; have GX : Gr wA wX := GX_ wA (gm.alloc _) (Nat.le_refl _); clear om gm GX_))
      go_roundg (8 - (i + 1))
      case measure => omega
      case rel =>
        refine ⟨i + 1, by omega, Nat.le_refl _, by go_num, ?_, GX⟩
        rw [sep_snoc, hK, HX.out, cel_snoc]
        exact OX
    · obtain rfl : i = 8 := by omega
      have hlen := sep_len y 8
      obtain ⟨g, cap, rfl⟩ : ∃ g cap, u4 = .slice (some ⟨g, 0, none⟩) 8 cap := by
        rcases ho.2 with ⟨-, z⟩ | ⟨g, cap, -, rfl, -⟩
        · omega
        · exact ⟨g, cap, rfl⟩
      have HO := Lib.hid (evs_of ho (by omega) hlen)
      clear ho
      go_wp2_with (first | (go_at_call 67; refine (C3.out _ (sep y 8) _ (by omega) ((by repeat (first | exact Gr.refl _ | refine Gr.setCell ?_ _ _ (by first | exact Nat.le_refl _ | (simp; omega) | (simp; done)) | refine Gr.grown ?_ _ _ | refine Gr.drewN ?_ _ | refine Gr.drew ?_ | refine Gr.alloc ?_ _ | refine Gr.grow ?_ _ | (refine Gr.trans ?_ (by assumption))))) (by omega) ⟨g, cap, by rw [hlen], HO.out⟩).mono ?_; rintro e2 wE ⟨g2, cap2, M, rfl, hPerm, hOwn, hgE⟩))
      go_ret2
      have GE : Gr w wE := (by repeat (first | exact Gr.refl _ | refine Gr.setCell ?_ _ _ (by first | exact Nat.le_refl _ | (simp; omega) | (simp; done)) | refine Gr.grown ?_ _ _ | refine Gr.drewN ?_ _ | refine Gr.drew ?_ | refine Gr.alloc ?_ _ | refine Gr.grow ?_ _ | (refine Gr.trans ?_ (by assumption))))
      exact ⟨g2, cap2, M, rfl, hPerm, own_mono hOwn ((Gr.trans hgA hg).size), GE⟩
end Go.Proofs.YtegkbjpcgelomaaGreatDoor.Walks
end
/- Walk of day.Events: all events of a year. -/
section
namespace Go.Proofs.YtegkbjpcgelomaaGreatDoor.Walks
open Go Go.RowKit Go.Sort Go.Proofs.YtegkbjpcgelomaaGreatDoor.Base Go.Proofs.YtegkbjpcgelomaaGreatDoor.Plain Go.Proofs.YtegkbjpcgelomaaGreatDoor.Math

/-- Append of events, as many as there are. -/
theorem append_evk (w : World) {ops : Array Oper} {rest : List Oper} {o : Oper} {a : Act} {Q : Exit → Act → World → Prop} (hg : o.guard = none) (s x : Operand)
    (hop : o.op = .call { callee := .builtin .append, args := #[s, x], argTypes := #[62, 62] })
    (base : Nat) (v : Value) (n : Nat) (xs : List Value) (hs : a.eval s = v) (hown : w.ownsRow base 67 2 v n xs)
    (ad : Addr) (m c : Nat) (news : List Value) (hx : a.eval x = .slice (some ad) m c) (hl : news.length = m * 2) (hnews : ∀ j u, news[j]? = some u → w.cell? (ad.add j) = some u) (h1 : ∀ u ∈ news, u.oneCell' = true)
    (hm : 0 < m) (hsm : n + m ≤ 100000) (hbase : base ≤ w.heap.size)
    (hK : ∀ g cap w', w'.ownsRow base 67 2 (.slice (some ⟨g, 0, none⟩) (n + m) cap) (n + m) (xs ++ news) → w.grownBy w' v.ownBlock → base ≤ g → (∀ W, Gr W w → W.heap.size ≤ base → Gr W w') →
      wpList Tryq.prog ops Q rest (a.put o.dst (.slice (some ⟨g, 0, none⟩) (n + m) cap)) w') : wpList Tryq.prog ops Q (o :: rest) a w := by
  obtain ⟨i, h2, h3, h4, h5⟩ := info_parts ninfo_ev
  exact wpList_append_gr w hg s x 62 hop base 67 i (.agg #[.int .i64 0, .int .i64 0]) 2 16 nund_evs h2 h3 h4 h5 rfl (by decide) v n xs hs hown ad m c news hx hl hnews h1 hm (by simp only [maxLen]; omega) (by omega) hbase hK
theorem own_news {w : World} {base e size g n cap : Nat} {xs : List Value} (h : w.ownsRow base e size (.slice (some ⟨g, 0, none⟩) n cap) n xs) : ∀ j u, xs[j]? = some u → w.cell? ((⟨g, 0, none⟩ : Addr).add j) = some u :=
  fun j u hu => h.cells (g := g) rfl j u hu
theorem evx_cel (L : List Int) : evx L = cel (L.map fun D => (29, D)) := by
  induction L with
  | nil => rfl
  | cons d r ih => rw [List.map_cons]; simp only [evx, ih, cel, List.flatMap_cons]; rfl
theorem row_news {w : World} {g : Nat} {L : List Int} (R : Row w 2 L.length g (evf L)) : ∀ j u, (cel (L.map fun D => ((29 : Int), D)))[j]? = some u → w.cell? ((⟨g, 0, none⟩ : Addr).add j) = some u := by
  intro j u hu
  rw [← evx_cel] at hu
  have hj : j < L.length * 2 := by have := (List.getElem?_eq_some_iff.1 hu).1; rwa [evx_len] at this
  rw [evx_at L j hj] at hu
  cases hu
  have := R.c j hj
  by_cases z : j = 0
  · subst z; simpa [Addr.add] using this
  · simpa [Addr.add, z] using this

/-- The new moons' days of a year, as events. -/
def chE (y : Int) : List (Int × Int) := (chL (kk y) (lp y) (fy y) (mct (lp y))).map fun D => (29, D)
/-- The events that have come behind the first i lists. -/
def prE (y p : Int) : Nat → List (Int × Int)
  | 0 => evs y p
  | 1 => evs y p ++ xep y 9
  | 2 => evs y p ++ xep y 9 ++ chE y
  | _ => evs y p ++ xep y 9 ++ chE y ++ sep y 8
def allE (y p : Int) : List (Int × Int) := evs y p ++ xep y 9 ++ chE y ++ sep y 8
theorem chE_len {y : Int} (h0 : 1 ≤ y) (h1 : y ≤ 9999) : 11 ≤ (chE y).length ∧ (chE y).length ≤ 26 := by
  obtain ⟨-, b, c⟩ := kk_leap h0 h1
  unfold chE
  rw [List.length_map]
  exact chL_count (lp y) (fy y) b c
theorem prE_len {y p : Int} (h0 : 1 ≤ y) (h1 : y ≤ 9999) (i : Nat) : (prE y p i).length ≤ 300 := by
  have a := evp_len y p 19 (by omega)
  have a' : (evs y p).length ≤ 8 * 19 := a
  have b := xep_len y 9
  have c := chE_len h0 h1
  have d := sep_len y 8
  unfold prE
  split <;> (try simp only [List.length_append]) <;> omega

/-- The row of the three functions. -/
structure F3 (w : World) (b : Nat) : Prop where
  lt : b < w.heap.size
  c0 : w.cell? ⟨b, 0, none⟩ = some (.func (.func 32) #[] #[])
  c1 : w.cell? ⟨b, 1, none⟩ = some (.func (.func 66) #[] #[])
  c2 : w.cell? ⟨b, 2, none⟩ = some (.func (.func 33) #[] #[])
theorem F3.gr {w w' : World} {b : Nat} (h : F3 w b) (g : Gr w w') : F3 w' b := ⟨g.lt h.lt, g.keep h.lt h.c0, g.keep h.lt h.c1, g.keep h.lt h.c2⟩
theorem F3.kept {w w' : World} {b : Nat} {row : Option Nat} (h : F3 w b) (k : w.grownBy w' row) (hne : some b ≠ row) : F3 w' b := by
  have hb := k.block b h.lt hne
  have c : ∀ o, w'.cell? ⟨b, o, none⟩ = w.cell? ⟨b, o, none⟩ := fun o => World.cell?_of_block hb
  exact ⟨Nat.lt_of_lt_of_le h.lt k.size, by rw [c]; exact h.c0, by rw [c]; exact h.c1, by rw [c]; exact h.c2⟩
theorem F3.ne {w : World} {b base e g n cap : Nat} {L : List (Int × Int)} (h : F3 w b) (o : w.ownsRow base e 2 (.slice (some ⟨g, 0, none⟩) n cap) n (cel L)) (hL : 0 < L.length) : some b ≠ (Value.slice (some ⟨g, 0, none⟩) n cap).ownBlock := by
  intro q
  have q : b = g := by simpa [Value.ownBlock] using q
  subst q
  cases L with
  | nil => cases hL
  | cons x r =>
    have := own_news o 0 (.int .i64 x.1) rfl
    have c := h.c0
    simp only [Addr.add] at this
    simp at this
    rw [c] at this
    cases this
set_option maxRecDepth 20000 in
set_option maxHeartbeats 8000000 in
theorem dayev_c (y p : Int) (w : World) (G : GT w) (h0 : 1 ≤ y) (h1 : y ≤ 9999) (hp : p = 0 ∨ p = 1) : Calls Tryq.prog 30 #[.int .i64 y, .int .i64 p] w (OfO w (allE y p)) := by
  have C1 := Lib.hid (feofO_c y p w G h0 h1 hp)
  have C2 := Lib.hid fun W (hW : Gr w W) => fastof_c y W (G.gr hW) h0 h1
  have C3 := Lib.hid fun W (hW : Gr w W) => chof_in y W (G.gr hW) h0 h1
  have C4 := Lib.hid fun W (hW : Gr w W) => specof_c y W (G.gr hW) h0 h1
  have C5 : RowKit.Hid (∀ (v : Value) (L : List (Int × Int)) (W : World), L.length ≤ 1000 → 0 < L.length → (∃ g cap, v = .slice (some ⟨g, 0, none⟩) L.length cap ∧ Evs W g L) → Calls Tryq.prog 67 #[v] W (SortO W L)) := Lib.hid fun v L W h2 h3 ⟨g, cap, q, E⟩ => by
    subst q; exact sortO_c g cap L W h3 h2 E
  have ep : 0 < (evs y p).length := evs_pos y p hp
  have xp := xep_pos y
  have cp := chE_len h0 h1
  have sp : 1 ≤ (sep y 8).length ∧ (sep y 8).length ≤ 8 := by rw [sep_len]; omega
  have hcl : RowKit.Hid ((chE y).length = (chL (kk y) (lp y) (fy y) (mct (lp y))).length) := Lib.hid (by unfold chE; rw [List.length_map])
  clear G
  go_enter Tryq.func30, Tryq.ntmps30
  go_wp2_with (first | (go_at_call 31; (with_reducible refine C1.out.mono ?_); rintro e wA ⟨gA, capA, MA, rfl, hPA, hOA, hgA⟩; clear C1))
  go_loopg [6, 23] 3 (fun kx s6 s23 wr => ∃ (i : Nat) (M : List (Int × Int)) (g cap : Nat), i ≤ 3 ∧ 3 - i ≤ kx ∧ s23 = .int .i64 (i : Int) ∧ s6 = .slice (some ⟨g, 0, none⟩) M.length cap ∧ M.Perm (prE y p i) ∧ wr.ownsRow w.heap.size 67 2 (.slice (some ⟨g, 0, none⟩) M.length cap) M.length (cel M) ∧ F3 wr wA.heap.size ∧ Gr w wr)
  case atStart =>
    refine ⟨0, MA, gA, capA, by omega, by omega, rfl, rfl, hPA, own_gr hOA ((Gr.refl _).alloc _), ⟨by simp, by simp [go_sem], by simp [go_sem], by simp [go_sem]⟩, (by repeat (first | exact Gr.refl _ | refine Gr.setCell ?_ _ _ (by first | exact Nat.le_refl _ | (simp; omega) | (simp; done)) | refine Gr.grown ?_ _ _ | refine Gr.drewN ?_ _ | refine Gr.drew ?_ | refine Gr.alloc ?_ _ | refine Gr.grow ?_ _ | (refine Gr.trans ?_ (by assumption))))⟩
  case round =>
    obtain ⟨i, M, g, cap, hi, hm, rfl, rfl, hPM, ho, F, hg⟩ := hrel
    rename World => wo
    have hMp : 0 < M.length := by
      rw [hPM.length_eq]
      unfold prE
      split <;> (try simp only [List.length_append]) <;> omega
    by_cases e : i < 3
    · have ci : i = 0 ∨ i = 1 ∨ i = 2 := by omega
      rcases ci with rfl | rfl | rfl
      · have hF := F.c0
        have hlM : M.length ≤ 300 := by rw [hPM.length_eq]; exact prE_len h0 h1 0
        go_wp2_with (first | (go_at_call 32; (refine (C2.out _ ((by repeat (first | exact Gr.refl _ | refine Gr.setCell ?_ _ _ (by first | exact Nat.le_refl _ | (simp; omega) | (simp; done)) | refine Gr.grown ?_ _ _ | refine Gr.drewN ?_ _ | refine Gr.drew ?_ | refine Gr.alloc ?_ _ | refine Gr.grow ?_ _ | (refine Gr.trans ?_ (by assumption)))))).mono ?_); rintro e1 wD ⟨g2, cap2, M2, rfl, hP2, hO2, hgD⟩; have oD := own_gr ho hgD; have FD := F.gr hgD; have GD : Gr w wD := hg.trans hgD; have hsD := GD.size; have hne := FD.ne oD hMp; clear hgD ho hg F hF) | (at_builtin; refine append_evk _ rfl _ _ rfl w.heap.size _ _ _ rfl oD _ M2.length cap2 (cel M2) rfl (cel_len M2) (own_news hO2) (cel_one _) (by rw [hP2.length_eq]; exact xp) (by have := hP2.length_eq; have := xep_len y 9; omega) hsD ?_; intro g3 c3 wX OX kX bX GX_; have GX : Gr w wX := GX_ w GD (Nat.le_refl _); have FX := FD.kept kX hne; clear oD FD GD GX_ hne kX))
        go_roundg (3 - (0 + 1))
        case measure => omega
        case rel =>
          refine ⟨0 + 1, M ++ M2, g3, c3, by omega, Nat.le_refl _, by go_num, by rw [List.length_append], hPM.append hP2, ?_, FX, GX⟩
          rw [cel_append, List.length_append]; exact OX
      · have hF := F.c1
        have hlM : M.length ≤ 300 := by rw [hPM.length_eq]; exact prE_len h0 h1 1
        go_wp2_with (first | (go_at_call 66; (refine (C3.out _ ((by repeat (first | exact Gr.refl _ | refine Gr.setCell ?_ _ _ (by first | exact Nat.le_refl _ | (simp; omega) | (simp; done)) | refine Gr.grown ?_ _ _ | refine Gr.drewN ?_ _ | refine Gr.drew ?_ | refine Gr.alloc ?_ _ | refine Gr.grow ?_ _ | (refine Gr.trans ?_ (by assumption)))))).mono ?_); rintro e1 wD ⟨g2, cap2, rfl, hR, hgD⟩; have oD := own_gr ho hgD; have FD := F.gr hgD; have GD : Gr w wD := hg.trans hgD; have hsD := GD.size; have hne := FD.ne oD hMp; clear hgD ho hg F hF) | (at_builtin; refine append_evk _ rfl _ _ rfl w.heap.size _ _ _ rfl oD _ (chL (kk y) (lp y) (fy y) (mct (lp y))).length cap2 (cel (chE y)) rfl (by rw [cel_len, hcl.out]) (row_news hR) (cel_one _) (by have := hcl.out; omega) (by have := hcl.out; omega) hsD ?_; intro g3 c3 wX OX kX bX GX_; have GX : Gr w wX := GX_ w GD (Nat.le_refl _); have FX := FD.kept kX hne; clear oD FD GD GX_ hne kX))
        go_roundg (3 - (1 + 1))
        case measure => omega
        case rel =>
          refine ⟨1 + 1, M ++ chE y, g3, c3, by omega, Nat.le_refl _, by go_num, by rw [List.length_append, hcl.out], hPM.append (List.Perm.refl _), ?_, FX, GX⟩
          rw [cel_append, List.length_append, hcl.out]; exact OX
      · have hF := F.c2
        have hlM : M.length ≤ 300 := by rw [hPM.length_eq]; exact prE_len h0 h1 2
        go_wp2_with (first | (go_at_call 33; (refine (C4.out _ ((by repeat (first | exact Gr.refl _ | refine Gr.setCell ?_ _ _ (by first | exact Nat.le_refl _ | (simp; omega) | (simp; done)) | refine Gr.grown ?_ _ _ | refine Gr.drewN ?_ _ | refine Gr.drew ?_ | refine Gr.alloc ?_ _ | refine Gr.grow ?_ _ | (refine Gr.trans ?_ (by assumption)))))).mono ?_); rintro e1 wD ⟨g2, cap2, M2, rfl, hP2, hO2, hgD⟩; have oD := own_gr ho hgD; have FD := F.gr hgD; have GD : Gr w wD := hg.trans hgD; have hsD := GD.size; have hne := FD.ne oD hMp; clear hgD ho hg F hF) | (at_builtin; refine append_evk _ rfl _ _ rfl w.heap.size _ _ _ rfl oD _ M2.length cap2 (cel M2) rfl (cel_len M2) (own_news hO2) (cel_one _) (by rw [hP2.length_eq]; omega) (by have := hP2.length_eq; omega) hsD ?_; intro g3 c3 wX OX kX bX GX_; have GX : Gr w wX := GX_ w GD (Nat.le_refl _); have FX := FD.kept kX hne; clear oD FD GD GX_ hne kX))
        go_roundg (3 - (2 + 1))
        case measure => omega
        case rel =>
          refine ⟨2 + 1, M ++ M2, g3, c3, by omega, Nat.le_refl _, by go_num, by rw [List.length_append], hPM.append hP2, ?_, FX, GX⟩
          rw [cel_append, List.length_append]; exact OX
    · obtain rfl : i = 3 := by omega
      have hlM : M.length ≤ 300 := by rw [hPM.length_eq]; exact prE_len h0 h1 3
      have HO := Lib.hid (evs_of ho hMp rfl)
      clear ho
      go_wp2_with (first | (go_at_call 67; refine (C5.out _ M _ (by omega) hMp ⟨g, cap, rfl, HO.out⟩).mono ?_; rintro e2 wE ⟨g2, cap2, M2, rfl, hPerm, hOwn, hgE⟩))
      go_ret2
      have GE : Gr w wE := hg.trans hgE
      exact ⟨g2, cap2, M2, rfl, hPerm.trans hPM, own_mono hOwn hg.size, GE⟩
end Go.Proofs.YtegkbjpcgelomaaGreatDoor.Walks
end
/- day.Of, asked of a day in the years that are. -/
section
namespace Go.Proofs.YtegkbjpcgelomaaGreatDoor.Walks
open Go Go.RowKit Go.Sort Go.Proofs.YtegkbjpcgelomaaGreatDoor.Base Go.Proofs.YtegkbjpcgelomaaGreatDoor.Plain Go.Proofs.YtegkbjpcgelomaaGreatDoor.Math

theorem dayof_c (y d n : Int) (j : Nat) (w : World) (G : GT w) (hv : HV y j d) (hn : hd y j d = n) : Calls Tryq.prog 35 #[.int .i64 n, .int .i64 1] w (DOf w n (omN (n - omS y))) := by
  have r := hd_range hv
  rw [hn] at r
  obtain ⟨M, D, hok, hg⟩ := date_of n
  have lc := chE_len hv.y0 hv.y1
  have lm : (allE y 1).length ≤ 300 := prE_len hv.y0 hv.y1 3
  have la : (allE y 1).length = (evs y 1).length + (xep y 9).length + (chE y).length + (sep y 8).length := by
    unfold allE; simp only [List.length_append]
  exact dayof_core n y _ d _ _ D _ _ (allE y 1) w (by omega) (by omega) (by omega) lm
    (fun W hW => hfrom_in y j d n W (G.gr hW) hv hn) (fun W => wd_c n W (by omega) (by omega)) (fun W => gfrom_in n _ M D W r.1 r.2 rfl hok hg)
    (fun W hW => omer_in hv hn W (G.gr hW)) (fun W hW => dayev_c y 1 W (G.gr hW) hv.y0 hv.y1 (.inr rfl))
    (fun W hW => (tofday_c y 1 n d j W (G.gr hW) hv hn (.inr rfl)).mono fun e w' ⟨a, b, c, e', q, g, _⟩ => ⟨a, b, c, e', q, g⟩)
end Go.Proofs.YtegkbjpcgelomaaGreatDoor.Walks
end
