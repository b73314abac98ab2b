/- text.Heb of the fixed date. -/
import Derived.Test.YtegkbjpcgelomaaGreatDoorZ20
import Derived.Test.YtegkbjpcgelomaaGreatDoorZ15
import Derived.Test.YtegkbjpcgelomaaGreatDoorZ16
import Derived.Test.YtegkbjpcgelomaaGreatDoorZ17
import Derived.Test.YtegkbjpcgelomaaGreatDoorZ18
import Derived.Test.YtegkbjpcgelomaaGreatDoorZ14
import Derived.StillTailTactics
import Derived.WalkLawsBesides
set_option linter.unusedVariables false
set_option linter.unusedSimpArgs false
section
set_option maxRecDepth 100000
namespace Go.Proofs.YtegkbjpcgelomaaGreatDoor.Walks
open Go Go.RowKit Go.Sort Go.Proofs.YtegkbjpcgelomaaGreatDoor.Base Go.Proofs.YtegkbjpcgelomaaGreatDoor.Plain Go.Proofs.YtegkbjpcgelomaaGreatDoor.Math

theorem BG.cell {B : Nat} {w w' : World} (h : BG B w w') {g o : Nat} {v : Value} (hg : g < B) (hc : w.cell? ⟨g, o, none⟩ = some v) : w'.cell? ⟨g, o, none⟩ = some v := by
  have e := h.b.block g hg
  unfold World.cell? at hc ⊢
  rw [e]
  exact hc
theorem itoa_107 (w : World) (p : PT w) : Calls Tryq.prog 108 #[.int .i64 107] w fun e w' => e = .returned (.string ⟨#[49, 48, 55]⟩) ∧ Gr w w' := by
  refine (Any.strconv_Itoa Tryq.lays171 107 (by decide) (by decide) w p.tab).mono ?_
  rintro e w' ⟨rfl, k, os, rfl⟩
  exact ⟨by rw [show Lib.itoa 107 = [49, 48, 55] from by decide +kernel], (Gr.refl w).grown k os⟩
abbrev tS0 : ByteArray := ⟨#[53, 55, 56, 52]⟩
abbrev tS1 : ByteArray := ⟨#[77, 48, 55]⟩
abbrev tS2 : ByteArray := ⟨#[49, 53]⟩
abbrev tSep : ByteArray := ⟨#[45]⟩
set_option maxHeartbeats 4000000 in
theorem join_c (g : Nat) (w : World) (hg : g < w.heap.size) (k0 : w.cell? ⟨g, 0, none⟩ = some (.string tS0)) (k1 : w.cell? ⟨g, 1, none⟩ = some (.string tS1)) (k2 : w.cell? ⟨g, 2, none⟩ = some (.string tS2)) :
    Calls Tryq.prog 77 #[.slice (some ⟨g, 0, none⟩) 3 3, .string tSep] w fun e w' => e = .returned (.string ⟨#[53, 55, 56, 52, 45, 77, 48, 55, 45, 49, 53]⟩) ∧ Gr w w' := by
  have hS0 : tS0.size = 4 := rfl
  have hS1 : tS1.size = 3 := rfl
  have hS2 : tS2.size = 2 := rfl
  have hS3 : tSep.size = 1 := rfl
  have q0 := Lib.hid k0
  have q1 := Lib.hid k1
  have q2 := Lib.hid k2
  go_enter Tryq.func77, Tryq.ntmps77
  go_wp2
  refine wp_loop_rounds 4 ?_
  repeat any_goals (rw [rounds_succ]; go_wp2_with (first | (go_at_call 109; refine (bGrow_c w.heap.size w.heap.size 11 _ (Nat.le_refl _) (heap_alloc_new w _) (by simp) (by decide) (by decide)).mono ?_; rintro e w1 ⟨rfl, hA, hG'⟩; have hG : BG w.heap.size w w1 := BG.trans ((BG.refl _ w).alloc (Nat.le_refl _) _) hG'; clear hG'; have c0 := hG.cell hg q0.out; have c1 := hG.cell hg q1.out; have c2 := hG.cell hg q2.out; have hz := hG.b.size) | (go_at_call 110; refine (bwrite_c w.heap.size w.heap.size _ _ _ hA (by decide) (by decide) hz).mono ?_; rintro e w2 ⟨rfl, hA', hG'⟩; have hG2 := BG.trans hG hG'; clear hG hA hG' hz c0 c1 c2; have hG := hG2; have hA := hA'; clear hG2 hA'; have c0 := hG.cell hg q0.out; have c1 := hG.cell hg q1.out; have c2 := hG.cell hg q2.out; have hz := hG.b.size) | (go_at_call 111; refine (bstring_c w.heap.size w.heap.size _ [53, 55, 56, 52, 45, 77, 48, 55, 45, 49, 53] _ hA (by decide)).mono ?_; rintro e w2 ⟨rfl, hG'⟩; have hE := BG.trans hG hG')))
  clear k0 k1 k2
  refine wp_loop_rounds 3 ?_
  repeat any_goals (rw [rounds_succ]; go_wp2_with (first | (go_at_call 109; refine (bGrow_c w.heap.size w.heap.size 11 _ (Nat.le_refl _) (heap_alloc_new w _) (by simp) (by decide) (by decide)).mono ?_; rintro e w1 ⟨rfl, hA, hG'⟩; have hG : BG w.heap.size w w1 := BG.trans ((BG.refl _ w).alloc (Nat.le_refl _) _) hG'; clear hG'; have c0 := hG.cell hg q0.out; have c1 := hG.cell hg q1.out; have c2 := hG.cell hg q2.out; have hz := hG.b.size) | (go_at_call 110; refine (bwrite_c w.heap.size w.heap.size _ _ _ hA (by decide) (by decide) hz).mono ?_; rintro e w2 ⟨rfl, hA', hG'⟩; have hG2 := BG.trans hG hG'; clear hG hA hG' hz c0 c1 c2; have hG := hG2; have hA := hA'; clear hG2 hA'; have c0 := hG.cell hg q0.out; have c1 := hG.cell hg q1.out; have c2 := hG.cell hg q2.out; have hz := hG.b.size) | (go_at_call 111; refine (bstring_c w.heap.size w.heap.size _ [53, 55, 56, 52, 45, 77, 48, 55, 45, 49, 53] _ hA (by decide)).mono ?_; rintro e w2 ⟨rfl, hG'⟩; have hE := BG.trans hG hG')))
  go_ret
  exact ⟨rfl, hE.gr⟩

set_option maxHeartbeats 4000000 in
theorem ctext_c (w : World) (p : PT w) : Calls Tryq.prog 76 #[.agg #[.int .i64 7, .bool false]] w fun e w' => e = .returned (.tuple #[.string tS1, .bool true]) ∧ Gr w w' := by
  have C1 := Lib.hid fun W => cright_c 7 false W
  rw [show cR 7 false = true from by decide] at C1
  have C2 := Lib.hid fun W (hW : Gr w W) => itoa_107 W (p.gr hW)
  clear p
  go_enter Tryq.func76, Tryq.ntmps76
  go_wp2_with (first | ((go_at_call 91; (with_reducible refine (C1.out _).mono ?_); rintro e wA ⟨rfl, hgwA⟩; obtain ⟨hclwA, hfzwA, hszwA⟩ := gcell hgwA; (try simp [Nat.add_one_le_iff] at hszwA); have hlwA_w : w.heap.size < wA.heap.size := (by omega)); have c0 := hgwA.keep (b := w.heap.size) (o := 0) (v := .int .i64 7) (by first | (simp; done) | (simp; omega)) (by simp [go_sem]); have c1 := hgwA.keep (b := w.heap.size) (o := 1) (v := .bool false) (by first | (simp; done) | (simp; omega)) (by simp [go_sem]); clear hclwA hfzwA hszwA) | ((go_at_call 108; (with_reducible refine (C2.out _ ((by repeat (first | exact Gr.refl _ | refine Gr.setCell ?_ _ _ (by first | exact Nat.le_refl _ | (simp; omega) | (simp; done)) | refine Gr.grown ?_ _ _ | refine Gr.drewN ?_ _ | refine Gr.drew ?_ | refine Gr.alloc ?_ _ | refine Gr.grow ?_ _ | (refine Gr.trans ?_ (by assumption)))))).mono ?_); rintro e wB ⟨rfl, hgwB⟩; obtain ⟨hclwB, hfzwB, hszwB⟩ := gcell hgwB; (try simp [Nat.add_one_le_iff] at hszwB); have hlwB_w : w.heap.size < wB.heap.size := (by omega)); have e0 := hgwB.keep hlwA_w c0; have e1 := hgwB.keep hlwA_w c1; clear hclwB hfzwB hszwB))
  go_ret2
  exact ⟨by kernel_rfl, (by repeat (first | exact Gr.refl _ | refine Gr.setCell ?_ _ _ (by first | exact Nat.le_refl _ | (simp; omega) | (simp; done)) | refine Gr.grown ?_ _ _ | refine Gr.drewN ?_ _ | refine Gr.drew ?_ | refine Gr.alloc ?_ _ | refine Gr.grow ?_ _ | (refine Gr.trans ?_ (by assumption))))⟩
set_option maxHeartbeats 8000000 in
theorem theb_c (w : World) (G : GT w) (p : PT w) : Calls Tryq.prog 39 #[.agg #[.int .i64 5784, .int .i64 7, .bool false, .int .i64 15]] w fun e w' => e = .returned (.tuple #[.string ⟨#[53, 55, 56, 52, 45, 77, 48, 55, 45, 49, 53]⟩, .int .i64 0]) ∧ Gr w w' := by
  have hv : HV 5784 7 15 := ⟨by decide, by decide, by decide, by decide, by have := mlen_range (kk 5784) (lp 5784) 7; omega⟩
  have C1 : RowKit.Hid (∀ W, Gr w W → Calls Tryq.prog 27 #[.agg #[.int .i64 5784, .int .i64 7, .bool false, .int .i64 15]] W fun e w' => e = .returned (.int .i64 0) ∧ Gr W w') := Lib.hid fun W hW => hcheck_in 5784 7 15 W (G.gr hW) hv
  have C2 := Lib.hid fun W (hW : Gr w W) => ctext_c W (p.gr hW)
  have C3 := Lib.hid fun W (hW : Gr w W) => pad_big W (p.gr hW)
  have C4 := Lib.hid fun W (hW : Gr w W) => pad_small W
  clear hv G p
  go_enter Tryq.func39, Tryq.ntmps39
  go_wp2_with (first | ((go_at_call 27; (with_reducible refine (C1.out _ ((by repeat (first | exact Gr.refl _ | refine Gr.setCell ?_ _ _ (by first | exact Nat.le_refl _ | (simp; omega) | (simp; done)) | refine Gr.grown ?_ _ _ | refine Gr.drewN ?_ _ | refine Gr.drew ?_ | refine Gr.alloc ?_ _ | refine Gr.grow ?_ _ | (refine Gr.trans ?_ (by assumption)))))).mono ?_); rintro e wA ⟨rfl, hgwA⟩; obtain ⟨hclwA, hfzwA, hszwA⟩ := gcell hgwA; (try simp [Nat.add_one_le_iff] at hszwA); have hlwA_w : w.heap.size < wA.heap.size := (by omega)); have c0 := hgwA.keep (b := w.heap.size) (o := 0) (v := .int .i64 5784) (by first | (simp; done) | (simp; omega)) (by simp [go_sem]); have c1 := hgwA.keep (b := w.heap.size) (o := 1) (v := .int .i64 7) (by first | (simp; done) | (simp; omega)) (by simp [go_sem]); have c2 := hgwA.keep (b := w.heap.size) (o := 2) (v := .bool false) (by first | (simp; done) | (simp; omega)) (by simp [go_sem]); have c3 := hgwA.keep (b := w.heap.size) (o := 3) (v := .int .i64 15) (by first | (simp; done) | (simp; omega)) (by simp [go_sem]); clear hclwA hfzwA hszwA) | ((go_at_call 76; (with_reducible refine (C2.out _ ((by repeat (first | exact Gr.refl _ | refine Gr.setCell ?_ _ _ (by first | exact Nat.le_refl _ | (simp; omega) | (simp; done)) | refine Gr.grown ?_ _ _ | refine Gr.drewN ?_ _ | refine Gr.drew ?_ | refine Gr.alloc ?_ _ | refine Gr.grow ?_ _ | (refine Gr.trans ?_ (by assumption)))))).mono ?_); rintro e wB ⟨rfl, hgwB⟩; obtain ⟨hclwB, hfzwB, hszwB⟩ := gcell hgwB; (try simp [Nat.add_one_le_iff] at hszwB); have hlwB_w : w.heap.size < wB.heap.size := (by omega)); have e0 := hgwB.keep hlwA_w c0; have e1 := hgwB.keep hlwA_w c1; have e2 := hgwB.keep hlwA_w c2; have e3 := hgwB.keep hlwA_w c3; clear hclwB hfzwB hszwB))
  have GW : Gr w wB := (by repeat (first | exact Gr.refl _ | refine Gr.setCell ?_ _ _ (by first | exact Nat.le_refl _ | (simp; omega) | (simp; done)) | refine Gr.grown ?_ _ _ | refine Gr.drewN ?_ _ | refine Gr.drew ?_ | refine Gr.alloc ?_ _ | refine Gr.grow ?_ _ | (refine Gr.trans ?_ (by assumption))))
  have x0 := gcell_in hlwB_w e0; have x1 := gcell_in hlwB_w e1; have x2 := gcell_in hlwB_w e2; have x3 := gcell_in hlwB_w e3
  clear hgwA hgwB c0 c1 c2 c3 e0 e1 e2 e3
  (refine wp_region_grown_tail 7 mixed (by kernel_rfl) ?_; simp only [List.take_succ_cons, List.take_zero, List.drop_succ_cons, List.drop_zero]; (repeat (first | go_big_quiet_step ((go_at_call 78; first | with_reducible exact gr_of (C3.out _ ((by repeat (first | exact Gr.refl _ | refine Gr.setCell ?_ _ _ (by first | exact Nat.le_refl _ | (simp; omega) | (simp; done)) | refine Gr.grown ?_ _ _ | refine Gr.drewN ?_ _ | refine Gr.drew ?_ | refine Gr.alloc ?_ _ | refine Gr.grow ?_ _ | (refine Gr.trans ?_ (by assumption)))))) | with_reducible exact gr_of (C4.out _ ((by repeat (first | exact Gr.refl _ | refine Gr.setCell ?_ _ _ (by first | exact Nat.le_refl _ | (simp; omega) | (simp; done)) | refine Gr.grown ?_ _ _ | refine Gr.drewN ?_ _ | refine Gr.drew ?_ | refine Gr.alloc ?_ _ | refine Gr.grow ?_ _ | (refine Gr.trans ?_ (by assumption)))))))) | quiet_step ((go_at_call 78; first | with_reducible exact gr_of (C3.out _ ((by repeat (first | exact Gr.refl _ | refine Gr.setCell ?_ _ _ (by first | exact Nat.le_refl _ | (simp; omega) | (simp; done)) | refine Gr.grown ?_ _ _ | refine Gr.drewN ?_ _ | refine Gr.drew ?_ | refine Gr.alloc ?_ _ | refine Gr.grow ?_ _ | (refine Gr.trans ?_ (by assumption)))))) | with_reducible exact gr_of (C4.out _ ((by repeat (first | exact Gr.refl _ | refine Gr.setCell ?_ _ _ (by first | exact Nat.le_refl _ | (simp; omega) | (simp; done)) | refine Gr.grown ?_ _ _ | refine Gr.drewN ?_ _ | refine Gr.drew ?_ | refine Gr.alloc ?_ _ | refine Gr.grow ?_ _ | (refine Gr.trans ?_ (by assumption)))))))))); refine wpQuiet_nil ?_; intro _ hw'; obtain ⟨⟨nq, osq⟩, hw''⟩ := hw'; subst hw'')
  obtain ⟨W, hW⟩ : ∃ W, W = grow (wB.drewN nq) osq := ⟨_, rfl⟩
  have GWW : Gr w W := by rw [hW]; exact GW.grown _ _
  rw [← hW]
  clear hW x0 x1 x2 x3
  go_wp2_with (first | (go_at_call 77; refine (join_c W.heap.size _ (by simp) (by simp [go_sem]) (by simp [go_sem]) (by simp [go_sem])).mono ?_; rintro e wE ⟨rfl, hgE⟩))
  go_ret2
  exact ⟨rfl, (by repeat (first | exact Gr.refl _ | refine Gr.setCell ?_ _ _ (by first | exact Nat.le_refl _ | (simp; omega) | (simp; done)) | refine Gr.grown ?_ _ _ | refine Gr.drewN ?_ _ | refine Gr.drew ?_ | refine Gr.alloc ?_ _ | refine Gr.grow ?_ _ | (refine Gr.trans ?_ (by assumption))))⟩
end Go.Proofs.YtegkbjpcgelomaaGreatDoor.Walks
end
/- The Gregorian calendar in plain numbers: no program in sight. -/
section
namespace Go.Proofs.YtegkbjpcgelomaaGreatDoor.Math
open Go Go.RowKit Go.Proofs.YtegkbjpcgelomaaGreatDoor.Plain

/-- Is a year a leap year? -/
def gl (y : Int) : Bool := y % 400 == 0 || (y % 4 == 0 && !(y % 100 == 0))
/-- How many days a month has. -/
def gmd (l : Bool) (m : Int) : Int :=
  if m = 2 then (if l = true then 29 else 28) else if m = 4 ∨ m = 6 ∨ m = 9 ∨ m = 11 then 30 else if 1 ≤ m ∧ m ≤ 12 then 31 else 0
/-- The days ahead of a month. -/
def gc (l : Bool) : Nat → Int
  | 0 => 0
  | m + 1 => gc l m + gmd l m
/-- The day ahead of a year's first one. -/
def gb (y : Int) : Int := 365 * (y - 1) + (y - 1) / 4 - (y - 1) / 100 + (y - 1) / 400
/-- A date's day. -/
def gd (y : Int) (m : Nat) (d : Int) : Int := gb y + gc (gl y) m + d
theorem gmd_12 (l : Bool) (m : Int) (h0 : 1 ≤ m) (h1 : m ≤ 12) : 28 ≤ gmd l m ∧ gmd l m ≤ 31 := by unfold gmd; cases l <;> split <;> (try split) <;> (try split) <;> simp_all <;> omega
theorem gmd_no (l : Bool) (m : Int) (h : m < 1 ∨ 12 < m) : gmd l m = 0 := by
  unfold gmd
  rw [if_neg (by omega), if_neg (by omega), if_neg (by omega)]
theorem gmd_range (l : Bool) (m : Int) : 0 ≤ gmd l m ∧ gmd l m ≤ 31 := by
  by_cases h : 1 ≤ m ∧ m ≤ 12
  · have := gmd_12 l m h.1 h.2; omega
  · rw [gmd_no l m (by omega)]; omega
theorem gc_13 (l : Bool) : gc l 13 = if l = true then 366 else 365 := by cases l <;> decide
theorem gc_le (l : Bool) (m : Nat) (h : m ≤ 13) : 0 ≤ gc l m ∧ gc l m ≤ 366 := by
  have : m = 0 ∨ m = 1 ∨ m = 2 ∨ m = 3 ∨ m = 4 ∨ m = 5 ∨ m = 6 ∨ m = 7 ∨ m = 8 ∨ m = 9 ∨ m = 10 ∨ m = 11 ∨ m = 12 ∨ m = 13 := by omega
  rcases this with rfl | rfl | rfl | rfl | rfl | rfl | rfl | rfl | rfl | rfl | rfl | rfl | rfl | rfl <;> cases l <;> decide
/-- How long a year is. -/
theorem gb_next (y : Int) : gb (y + 1) = gb y + gc (gl y) 13 := by
  rw [gc_13]
  unfold gb gl
  by_cases h4 : y % 400 = 0
  · rw [beq_iff_eq.2 h4, Bool.true_or, if_pos rfl]; omega
  · rw [beq_eq_false_iff_ne.2 h4, Bool.false_or]
    by_cases h1 : y % 100 = 0
    · rw [beq_iff_eq.2 h1, Bool.not_true, Bool.and_false, if_neg (by decide)]; omega
    · rw [beq_eq_false_iff_ne.2 h1, Bool.not_false, Bool.and_true]
      by_cases h2 : y % 4 = 0
      · rw [beq_iff_eq.2 h2, if_pos rfl]; omega
      · rw [beq_eq_false_iff_ne.2 h2, if_neg (by decide)]; omega
/-- The year of a day, as it is reckoned. -/
def gyr (n : Int) : Int :=
  let big := (n - 1) % 146097
  let a := (n - 1) / 146097
  let b := if big / 36524 < 3 then big / 36524 else 3
  let r := big - b * 36524
  let c := r / 1461
  let s := r % 1461
  let d := if s / 365 < 3 then s / 365 else 3
  400 * a + 100 * b + 4 * c + d + 1
theorem gyr_is (n : Int) : gb (gyr n) < n ∧ n ≤ gb (gyr n + 1) := by
  have key : ∀ a b c d s : Int, 0 ≤ b → b ≤ 3 → 0 ≤ c → c ≤ 24 → 0 ≤ d → d ≤ 3 → gb (400 * a + 100 * b + 4 * c + d + 1) = 146097 * a + 36524 * b + 1461 * c + 365 * d := by
    intro a b c d s b0 b1 c0 c1 d0 d1
    unfold gb
    have e4 : (400 * a + 100 * b + 4 * c + d + 1 - 1) / 4 = 100 * a + 25 * b + c := by omega
    have e1 : (400 * a + 100 * b + 4 * c + d + 1 - 1) / 100 = 4 * a + b := by omega
    have e40 : (400 * a + 100 * b + 4 * c + d + 1 - 1) / 400 = a := by omega
    rw [e4, e1, e40]; omega
  unfold gyr
  simp only
  have r0 : 0 ≤ (n - 1) % 146097 := by omega
  have r1 : (n - 1) % 146097 ≤ 146096 := by omega
  have hn : n = 146097 * ((n - 1) / 146097) + (n - 1) % 146097 + 1 := by omega
  generalize (n - 1) / 146097 = a at *
  generalize (n - 1) % 146097 = big at *
  obtain ⟨b, hb⟩ : ∃ b, (if big / 36524 < 3 then big / 36524 else 3) = b := ⟨_, rfl⟩
  rw [hb]
  have b0 : 0 ≤ b ∧ b ≤ 3 ∧ 0 ≤ big - b * 36524 ∧ (big - b * 36524 ≤ 36523 ∨ b = 3 ∧ big - b * 36524 = 36524) := by rw [← hb]; split <;> omega
  clear hb
  obtain ⟨r, hr⟩ : ∃ r, big - b * 36524 = r := ⟨_, rfl⟩
  rw [hr] at b0 ⊢
  obtain ⟨b0, b1, b2, b3⟩ := b0
  have c0 : 0 ≤ r / 1461 ∧ r / 1461 ≤ 24 := by omega
  have s0 : 0 ≤ r % 1461 ∧ r % 1461 ≤ 1460 := by omega
  have hrr : r = 1461 * (r / 1461) + r % 1461 := by omega
  generalize r / 1461 = c at *
  generalize r % 1461 = s at *
  obtain ⟨d, hd⟩ : ∃ d, (if s / 365 < 3 then s / 365 else 3) = d := ⟨_, rfl⟩
  rw [hd]
  have d0 : 0 ≤ d ∧ d ≤ 3 ∧ 365 * d ≤ s ∧ (s - 365 * d ≤ 364 ∨ d = 3 ∧ s - 365 * d ≤ 365) := by rw [← hd]; split <;> omega
  clear hd
  obtain ⟨d0, d1, d2, d3⟩ := d0
  have k0 := key a b c d 0 b0 b1 c0.1 c0.2 d0 d1
  refine ⟨by rw [k0]; omega, ?_⟩
  by_cases e : d < 3
  · have k1 := key a b c (d + 1) 0 b0 b1 c0.1 c0.2 (by omega) (by omega)
    rw [show 400 * a + 100 * b + 4 * c + d + 1 + 1 = 400 * a + 100 * b + 4 * c + (d + 1) + 1 from by omega, k1]; omega
  · by_cases f : c < 24
    · have k1 := key a b (c + 1) 0 0 b0 b1 (by omega) (by omega) (by omega) (by omega)
      rw [show 400 * a + 100 * b + 4 * c + d + 1 + 1 = 400 * a + 100 * b + 4 * (c + 1) + 0 + 1 from by omega, k1]; omega
    · by_cases g : b < 3
      · have k1 := key a (b + 1) 0 0 0 (by omega) (by omega) (by omega) (by omega) (by omega) (by omega)
        rw [show 400 * a + 100 * b + 4 * c + d + 1 + 1 = 400 * a + 100 * (b + 1) + 4 * 0 + 0 + 1 from by omega, k1]; omega
      · have k1 := key (a + 1) 0 0 0 0 (by omega) (by omega) (by omega) (by omega) (by omega) (by omega)
        rw [show 400 * a + 100 * b + 4 * c + d + 1 + 1 = 400 * (a + 1) + 100 * 0 + 4 * 0 + 0 + 1 from by omega, k1]; omega
theorem gc_mono (l : Bool) (m : Nat) : ∀ d, gc l m ≤ gc l (m + d) := by
  intro d
  induction d with
  | zero => exact Int.le_refl _
  | succ d ih =>
    have h := (gmd_range l ((m + d : Nat) : Int)).1
    show gc l m ≤ gc l (m + d) + gmd l ((m + d : Nat) : Int)
    omega
/-- A date that may be. -/
def gok (y : Int) (m : Nat) (d : Int) : Prop := 1 ≤ m ∧ m ≤ 12 ∧ 1 ≤ d ∧ d ≤ gmd (gl y) m
theorem gd_in {y : Int} {m : Nat} {d : Int} (h : gok y m d) : gb y < gd y m d ∧ gd y m d ≤ gb (y + 1) := by
  obtain ⟨m0, m1, d0, d1⟩ := h
  have a := (gc_le (gl y) m (by omega)).1
  have b : gc (gl y) (m + 1) ≤ gc (gl y) 13 := by have := gc_mono (gl y) (m + 1) (12 - m); rwa [show m + 1 + (12 - m) = 13 from by omega] at this
  have c : gc (gl y) (m + 1) = gc (gl y) m + gmd (gl y) m := rfl
  rw [gb_next]
  unfold gd
  omega
theorem find_month (l : Bool) (r : Int) (h0 : 1 ≤ r) (h1 : r ≤ gc l 13) : ∃ (m : Nat) (d : Int), 1 ≤ m ∧ m ≤ 12 ∧ 1 ≤ d ∧ d ≤ gmd l m ∧ gc l m + d = r := by
  have key : ∀ k : Nat, k ≤ 12 → r ≤ gc l (k + 1) → ∃ (m : Nat) (d : Int), 1 ≤ m ∧ m ≤ 12 ∧ 1 ≤ d ∧ d ≤ gmd l m ∧ gc l m + d = r := by
    intro k
    induction k with
    | zero =>
      intro _ h
      have : gc l (0 + 1) = 0 := by cases l <;> decide
      omega
    | succ k ih =>
      intro hk h
      by_cases c : r ≤ gc l (k + 1)
      · exact ih (by omega) c
      · have e : gc l (k + 1 + 1) = gc l (k + 1) + gmd l ((k + 1 : Nat) : Int) := rfl
        exact ⟨k + 1, r - gc l (k + 1), by omega, by omega, by omega, by omega, by omega⟩
  exact key 12 (Nat.le_refl _) h1
/-- Each day has its date. -/
theorem date_of (n : Int) : ∃ (m : Nat) (d : Int), gok (gyr n) m d ∧ gd (gyr n) m d = n := by
  obtain ⟨h0, h1⟩ := gyr_is n
  rw [gb_next] at h1
  obtain ⟨m, d, m0, m1, d0, d1, e⟩ := find_month (gl (gyr n)) (n - gb (gyr n)) (by omega) (by omega)
  exact ⟨m, d, ⟨m0, m1, d0, d1⟩, by unfold gd; omega⟩

end Go.Proofs.YtegkbjpcgelomaaGreatDoor.Math
end
/- Walks of package greg. -/
section
namespace Go.Proofs.YtegkbjpcgelomaaGreatDoor.Walks
open Go Go.RowKit Go.Sort Go.Proofs.YtegkbjpcgelomaaGreatDoor.Base Go.Proofs.YtegkbjpcgelomaaGreatDoor.Plain Go.Proofs.YtegkbjpcgelomaaGreatDoor.Math

theorem tmod_zero (y k : Int) : (Int.tmod y k == 0) = (y % k == 0) := by
  rw [Bool.eq_iff_iff, beq_iff_eq, beq_iff_eq, ← Int.dvd_iff_emod_eq_zero, Int.dvd_iff_tmod_eq_zero]

theorem gleap_s (y : Int) (w : World) : Calls Tryq.prog 93 #[.int .i64 y] w fun e w' => e = .returned (.bool (gl y)) ∧ w' = w := by
  have t4 := tmod_zero y 400
  have t1 := tmod_zero y 100
  have t0 := tmod_zero y 4
  cases h4 : (y % 400 == 0)
  · cases h1 : (y % 100 == 0)
    · cases h0 : (y % 4 == 0)
      · rw [h4] at t4; rw [h1] at t1; rw [h0] at t0
        have E : RowKit.Hid (gl y = false) := Lib.hid (by unfold gl; rw [h4, h0]; rfl)
        clear h4 h1 h0
        go_enter Tryq.func93, Tryq.ntmps93
        go_wp2
        go_ret
        exact ⟨retb E.out.symm, rfl⟩
      · rw [h4] at t4; rw [h1] at t1; rw [h0] at t0
        have E : RowKit.Hid (gl y = true) := Lib.hid (by unfold gl; rw [h4, h0, h1]; rfl)
        clear h4 h1 h0
        go_enter Tryq.func93, Tryq.ntmps93
        go_wp2
        go_ret
        exact ⟨retb E.out.symm, rfl⟩
    · rw [h4] at t4; rw [h1] at t1
      have E : RowKit.Hid (gl y = false) := Lib.hid (by unfold gl; rw [h4, h1]; simp)
      clear h4 h1 t0
      go_enter Tryq.func93, Tryq.ntmps93
      go_wp2
      go_ret
      exact ⟨retb E.out.symm, rfl⟩
  · rw [h4] at t4
    have E : RowKit.Hid (gl y = true) := Lib.hid (by unfold gl; rw [h4]; rfl)
    clear h4 t0 t1
    go_enter Tryq.func93, Tryq.ntmps93
    go_wp2
    go_ret
    exact ⟨retb E.out.symm, rfl⟩

set_option maxHeartbeats 4000000 in
theorem gdays_s (y m : Int) (w : World) : Calls Tryq.prog 54 #[.int .i64 y, .int .i64 m] w fun e w' => e = .returned (.int .i64 (gmd (gl y) m)) ∧ w' = w := by
  by_cases h : 1 ≤ m ∧ m ≤ 12
  · have : m = 1 ∨ m = 2 ∨ m = 3 ∨ m = 4 ∨ m = 5 ∨ m = 6 ∨ m = 7 ∨ m = 8 ∨ m = 9 ∨ m = 10 ∨ m = 11 ∨ m = 12 := by omega
    clear h
    cases hl : gl y
    · have L : RowKit.Hid (gl y = false) := Lib.hid hl
      clear hl
      rcases this with rfl | rfl | rfl | rfl | rfl | rfl | rfl | rfl | rfl | rfl | rfl | rfl
      all_goals
        go_enter Tryq.func54, Tryq.ntmps54
        go_wp2_with (go_at_call 93; (with_reducible refine (gleap_s y _).mono ?_); rintro e w1 ⟨rfl, rfl⟩; rw [L.out])
        go_ret
        exact ⟨rfl, rfl⟩
    · have L : RowKit.Hid (gl y = true) := Lib.hid hl
      clear hl
      rcases this with rfl | rfl | rfl | rfl | rfl | rfl | rfl | rfl | rfl | rfl | rfl | rfl
      all_goals
        go_enter Tryq.func54, Tryq.ntmps54
        go_wp2_with (go_at_call 93; (with_reducible refine (gleap_s y _).mono ?_); rintro e w1 ⟨rfl, rfl⟩; rw [L.out])
        go_ret
        exact ⟨rfl, rfl⟩
  · rw [gmd_no _ m (by omega)]
    have b1 : (m == 1) = false := beq_eq_false_iff_ne.2 (by omega)
    have b2 : (m == 2) = false := beq_eq_false_iff_ne.2 (by omega)
    have b3 : (m == 3) = false := beq_eq_false_iff_ne.2 (by omega)
    have b4 : (m == 4) = false := beq_eq_false_iff_ne.2 (by omega)
    have b5 : (m == 5) = false := beq_eq_false_iff_ne.2 (by omega)
    have b6 : (m == 6) = false := beq_eq_false_iff_ne.2 (by omega)
    have b7 : (m == 7) = false := beq_eq_false_iff_ne.2 (by omega)
    have b8 : (m == 8) = false := beq_eq_false_iff_ne.2 (by omega)
    have b9 : (m == 9) = false := beq_eq_false_iff_ne.2 (by omega)
    have b10 : (m == 10) = false := beq_eq_false_iff_ne.2 (by omega)
    have b11 : (m == 11) = false := beq_eq_false_iff_ne.2 (by omega)
    have b12 : (m == 12) = false := beq_eq_false_iff_ne.2 (by omega)
    clear h
    go_enter Tryq.func54, Tryq.ntmps54
    go_wp2
    go_ret
    exact ⟨rfl, rfl⟩

theorem gdown_c (a b : Int) (w : World) (hb : 0 < b) (h0 : -9223372036854775808 ≤ a) (h1 : a ≤ 9223372036854775807) (hb1 : b ≤ 9223372036854775807) :
    Calls Tryq.prog 92 #[.int .i64 a, .int .i64 b] w fun e w' => e = .returned (.int .i64 (a / b)) ∧ Gr w w' := by
  go_enter Tryq.func92, Tryq.ntmps92
  go_wp2_with (go_at_call 73; (with_reducible refine (div_c a b _ hb h0 h1 hb1).mono ?_); rintro e w1 ⟨rfl, hg⟩)
  go_ret
  exact ⟨rfl, (by repeat (first | exact Gr.refl _ | refine Gr.setCell ?_ _ _ (by first | exact Nat.le_refl _ | (simp; omega) | (simp; done)) | refine Gr.grown ?_ _ _ | refine Gr.drewN ?_ _ | refine Gr.drew ?_ | refine Gr.alloc ?_ _ | refine Gr.grow ?_ _ | (refine Gr.trans ?_ (by assumption))))⟩
theorem gbegins_c (y : Int) (w : World) (h0 : -1000000 ≤ y) (h1 : y ≤ 1000000) : Calls Tryq.prog 53 #[.int .i64 y] w fun e w' => e = .returned (.int .i64 (gb y)) ∧ Gr w w' := by
  have E : RowKit.Hid (365 * (y - 1) + (y - 1) / 4 - (y - 1) / 100 + (y - 1) / 400 = gb y) := Lib.hid rfl
  go_enter Tryq.func53, Tryq.ntmps53
  go_wp2_with (first | (go_at_call 92; (with_reducible refine (gdown_c (y - 1) 4 _ (by omega) (by omega) (by omega) (by omega)).mono ?_); rintro e w1 ⟨rfl, hg⟩) | (go_at_call 92; (with_reducible refine (gdown_c (y - 1) 100 _ (by omega) (by omega) (by omega) (by omega)).mono ?_); rintro e w1 ⟨rfl, hg⟩) | (go_at_call 92; (with_reducible refine (gdown_c (y - 1) 400 _ (by omega) (by omega) (by omega) (by omega)).mono ?_); rintro e w1 ⟨rfl, hg⟩))
  go_ret
  exact ⟨ret1 E.out, (by repeat (first | exact Gr.refl _ | refine Gr.setCell ?_ _ _ (by first | exact Nat.le_refl _ | (simp; omega) | (simp; done)) | refine Gr.grown ?_ _ _ | refine Gr.drewN ?_ _ | refine Gr.drew ?_ | refine Gr.alloc ?_ _ | refine Gr.grow ?_ _ | (refine Gr.trans ?_ (by assumption))))⟩
/-- Is a day one of the Hebrew years? -/
def inD (n : Int) : Bool := decide (-1373427 ≤ n ∧ n ≤ 2278650)
theorem gin_c (n : Int) (w : World) : Calls Tryq.prog 51 #[.int .i64 n] w fun e w' => e = .returned (.bool (inD n)) ∧ Gr w w' := by
  by_cases h : -1373427 ≤ n ∧ n ≤ 2278650
  · have E : RowKit.Hid (inD n = true) := Lib.hid (decide_eq_true h)
    have f1 := fy_1
    have f2 := lastD_is
    unfold lastD at f2
    obtain ⟨Y, y0, y1, h0, h1⟩ := year_of (n := n) (by omega) (by omega)
    have C := Lib.hid (fun w => year_c n Y w y0 y1 h0 h1)
    clear h f1 f2 h0 h1
    go_enter Tryq.func51, Tryq.ntmps51
    go_wp2_with (go_at_call 48; (with_reducible refine (C.out _).mono ?_); rintro e w1 ⟨rfl, hg⟩)
    go_ret
    exact ⟨retb E.out.symm, (by repeat (first | exact Gr.refl _ | refine Gr.setCell ?_ _ _ (by first | exact Nat.le_refl _ | (simp; omega) | (simp; done)) | refine Gr.grown ?_ _ _ | refine Gr.drewN ?_ _ | refine Gr.drew ?_ | refine Gr.alloc ?_ _ | refine Gr.grow ?_ _ | (refine Gr.trans ?_ (by assumption))))⟩
  · have E : RowKit.Hid (inD n = false) := Lib.hid (decide_eq_false h)
    have C := Lib.hid (fun w => year_out n w (by omega))
    clear h
    go_enter Tryq.func51, Tryq.ntmps51
    go_wp2_with (go_at_call 48; (with_reducible refine (C.out _).mono ?_); rintro e w1 ⟨rfl, hg⟩)
    go_ret
    exact ⟨retb E.out.symm, (by repeat (first | exact Gr.refl _ | refine Gr.setCell ?_ _ _ (by first | exact Nat.le_refl _ | (simp; omega) | (simp; done)) | refine Gr.grown ?_ _ _ | refine Gr.drewN ?_ _ | refine Gr.drew ?_ | refine Gr.alloc ?_ _ | refine Gr.grow ?_ _ | (refine Gr.trans ?_ (by assumption))))⟩

end Go.Proofs.YtegkbjpcgelomaaGreatDoor.Walks
end
/- Walks of package greg: dates of days and days of dates. -/
section
namespace Go.Proofs.YtegkbjpcgelomaaGreatDoor.Walks
open Go Go.RowKit Go.Sort Go.Proofs.YtegkbjpcgelomaaGreatDoor.Base Go.Proofs.YtegkbjpcgelomaaGreatDoor.Plain Go.Proofs.YtegkbjpcgelomaaGreatDoor.Math

set_option maxHeartbeats 4000000 in
theorem gyear_c (n : Int) (w : World) (h0 : -10000000 ≤ n) (h1 : n ≤ 10000000) : Calls Tryq.prog 52 #[.int .i64 n] w fun e w' => e = .returned (.int .i64 (gyr n)) ∧ Gr w w' := by
  obtain ⟨G, hG⟩ : ∃ G, gyr n = G := ⟨_, rfl⟩
  rw [hG]
  unfold gyr at hG
  simp only at hG
  have r0 : 0 ≤ (n - 1) % 146097 := by omega
  have r1 : (n - 1) % 146097 ≤ 146096 := by omega
  have a0 : -100 ≤ (n - 1) / 146097 := by omega
  have a1 : (n - 1) / 146097 ≤ 100 := by omega
  obtain ⟨a, ha⟩ : ∃ a, (n - 1) / 146097 = a := ⟨_, rfl⟩
  obtain ⟨g, hg⟩ : ∃ a, (n - 1) % 146097 = a := ⟨_, rfl⟩
  rw [ha] at hG a0 a1
  rw [hg] at hG r0 r1
  have C1 : RowKit.Hid (∀ w, Calls Tryq.prog 44 #[.int .i64 (n - 1), .int .i64 146097] w fun e w' => e = .returned (.tuple #[.int .i64 g, .int .i64 0]) ∧ Gr w w') := Lib.hid fun w => by
    have := mod_c (n - 1) 146097 w (by omega) (by omega) (by omega) (by omega); rwa [hg] at this
  have C2 : RowKit.Hid (∀ w, Calls Tryq.prog 92 #[.int .i64 (n - 1), .int .i64 146097] w fun e w' => e = .returned (.int .i64 a) ∧ Gr w w') := Lib.hid fun w => by
    have := gdown_c (n - 1) 146097 w (by omega) (by omega) (by omega) (by omega); rwa [ha] at this
  clear ha hg
  have hm : ∀ x : Int, (if x < 3 then x else 3) = min x 3 := fun x => by omega
  simp only [hm] at hG
  have HG := Lib.hid hG
  clear hG hm
  go_enter Tryq.func52, Tryq.ntmps52
  go_wp2_with (first | (go_at_call 44; (with_reducible refine (C1.out _).mono ?_); rintro e w1 ⟨rfl, hg⟩) | (go_at_call 92; (with_reducible refine (C2.out _).mono ?_); rintro e w1 ⟨rfl, hg⟩))
  go_ret
  exact ⟨ret1 HG.out, (by repeat (first | exact Gr.refl _ | refine Gr.setCell ?_ _ _ (by first | exact Nat.le_refl _ | (simp; omega) | (simp; done)) | refine Gr.grown ?_ _ _ | refine Gr.drewN ?_ _ | refine Gr.drew ?_ | refine Gr.alloc ?_ _ | refine Gr.grow ?_ _ | (refine Gr.trans ?_ (by assumption))))⟩

set_option maxRecDepth 20000 in
set_option maxHeartbeats 4000000 in
/-- The date of a day of the Hebrew years. -/
theorem gfrom_in (n Y : Int) (M : Nat) (D : Int) (w : World) (n0 : -1373427 ≤ n) (n1 : n ≤ 2278650) (hY : gyr n = Y) (hok : gok Y M D) (hd : gd Y M D = n) :
    Calls Tryq.prog 23 #[.int .i64 n] w fun e w' => e = .returned (.tuple #[.agg #[.int .i64 Y, .int .i64 (M : Int), .int .i64 D], .int .i64 0]) ∧ Gr w w' := by
  have hin : RowKit.Hid (inD n = true) := Lib.hid (decide_eq_true ⟨n0, n1⟩)
  have CY : RowKit.Hid (∀ w, Calls Tryq.prog 52 #[.int .i64 n] w fun e w' => e = .returned (.int .i64 Y) ∧ Gr w w') := Lib.hid fun w => by
    have := gyear_c n w (by omega) (by omega); rwa [hY] at this
  have hb := gd_in hok
  rw [hd] at hb
  have Y0 : -10000 ≤ Y ∧ Y ≤ 10000 := by obtain ⟨x, y⟩ := hb; unfold gb at x y; omega
  obtain ⟨Y0, Y1⟩ := Y0
  obtain ⟨B, hB⟩ : ∃ B, gb Y = B := ⟨_, rfl⟩
  have CB : RowKit.Hid (∀ w, Calls Tryq.prog 53 #[.int .i64 Y] w fun e w' => e = .returned (.int .i64 B) ∧ Gr w w') := Lib.hid fun w => by
    have := gbegins_c Y w (by omega) (by omega); rwa [hB] at this
  have hB2 : -5000000 ≤ B ∧ B ≤ 5000000 := by unfold gb at hB; omega
  obtain ⟨B0, B1⟩ := hB2
  unfold gd at hd
  rw [hB] at hd hb
  obtain ⟨m0, m1, d0, d1⟩ := hok
  have HD : RowKit.Hid (n - B = gc (gl Y) M + D) := Lib.hid (by omega)
  have H1 : RowKit.Hid (∀ k : Nat, k + 1 ≤ M → 0 ≤ gc (gl Y) k ∧ gc (gl Y) (k + 1) ≤ gc (gl Y) M) := Lib.hid fun k hk => by
    have a := gc_mono (gl Y) (k + 1) (M - (k + 1))
    rw [show k + 1 + (M - (k + 1)) = M from by omega] at a
    exact ⟨(gc_le (gl Y) k (by omega)).1, a⟩
  have HM : RowKit.Hid (gc (gl Y) M ≤ 366) := Lib.hid (gc_le _ M (by omega)).2
  clear hd hb hB hY
  go_enter Tryq.func23, Tryq.ntmps23
  go_wp2_with (first | (go_at_call 51; (with_reducible refine (gin_c n _).mono ?_); rintro e wA ⟨rfl, hgwA⟩; rw [hin.out]; obtain ⟨hclwA, hfzwA, hszwA⟩ := gcell hgwA; (try simp [Nat.add_one_le_iff] at hszwA)) | (go_at_call 52; (with_reducible refine (CY.out _).mono ?_); rintro e wB ⟨rfl, hgwB⟩; obtain ⟨hclwB, hfzwB, hszwB⟩ := gcell hgwB; (try simp [Nat.add_one_le_iff] at hszwB); have hlwB_w : w.heap.size < wB.heap.size := (by omega)) | (go_at_call 53; (with_reducible refine (CB.out _).mono ?_); rintro e wC ⟨rfl, hgwC⟩; obtain ⟨hclwC, hfzwC, hszwC⟩ := gcell hgwC; (try simp [Nat.add_one_le_iff] at hszwC); have hlwC_w : w.heap.size < wC.heap.size := (by omega); have hlwC_wB : wB.heap.size < wC.heap.size := (by omega)))
  obtain ⟨X, hX⟩ : ∃ X, wB.heap.size = X := ⟨_, rfl⟩
  have hr0 : wC.cell? ⟨X, 0, none⟩ = some (.int .i64 Y) ∧ wC.cell? ⟨X, 1, none⟩ = some (.int .i64 1) ∧ wC.cell? ⟨X, 2, none⟩ = some (.int .i64 0) ∧ wC.frozen? ⟨X, 1, none⟩ = false ∧ wC.frozen? ⟨X, 2, none⟩ = false := by
    subst hX
    exact ⟨hgwC.keep (by simp) (by simp [go_sem]), hgwC.keep (by simp) (by simp [go_sem]), hgwC.keep (by simp) (by simp [go_sem]), hgwC.thaw (by simp) (by simp [go_sem]), hgwC.thaw (by simp) (by simp [go_sem])⟩
  have hs0 : wC.cell? ⟨w.heap.size, 0, none⟩ = some (.int .i64 0) ∧ wC.cell? ⟨w.heap.size, 1, none⟩ = some (.int .i64 0) ∧ wC.cell? ⟨w.heap.size, 2, none⟩ = some (.int .i64 0) ∧ wC.frozen? ⟨w.heap.size, 0, none⟩ = false ∧ wC.frozen? ⟨w.heap.size, 1, none⟩ = false ∧ wC.frozen? ⟨w.heap.size, 2, none⟩ = false := by
    have l1 : w.heap.size < (wB.alloc (.cells #[.int .i64 Y, .int .i64 1, .int .i64 0] 52)).heap.size := by simp; omega
    have l2 : w.heap.size < wA.heap.size := hszwA
    have a1 : ∀ o v, o < 3 → wB.cell? ⟨w.heap.size, o, none⟩ = some v → (wB.alloc (.cells #[.int .i64 Y, .int .i64 1, .int .i64 0] 52)).cell? ⟨w.heap.size, o, none⟩ = some v := fun o v _ h => ((Gr.refl wB).alloc _).keep hlwB_w h
    have a2 : ∀ o v, o < 3 → wB.frozen? ⟨w.heap.size, o, none⟩ = v → (wB.alloc (.cells #[.int .i64 Y, .int .i64 1, .int .i64 0] 52)).frozen? ⟨w.heap.size, o, none⟩ = v := fun o v _ h => ((Gr.refl wB).alloc _).thaw hlwB_w h
    exact ⟨hgwC.keep l1 (a1 0 _ (by omega) (hgwB.keep l2 (hgwA.keep (by simp) (by simp [go_sem])))), hgwC.keep l1 (a1 1 _ (by omega) (hgwB.keep l2 (hgwA.keep (by simp) (by simp [go_sem])))), hgwC.keep l1 (a1 2 _ (by omega) (hgwB.keep l2 (hgwA.keep (by simp) (by simp [go_sem])))),
      hgwC.thaw l1 (a2 0 _ (by omega) (hgwB.thaw l2 (hgwA.thaw (by simp) (by simp [go_sem])))), hgwC.thaw l1 (a2 1 _ (by omega) (hgwB.thaw l2 (hgwA.thaw (by simp) (by simp [go_sem])))), hgwC.thaw l1 (a2 2 _ (by omega) (hgwB.thaw l2 (hgwA.thaw (by simp) (by simp [go_sem]))))⟩
  have hG : Gr w wC := (by repeat (first | exact Gr.refl _ | refine Gr.setCell ?_ _ _ (by first | exact Nat.le_refl _ | (simp; omega) | (simp; done)) | refine Gr.grown ?_ _ _ | refine Gr.drewN ?_ _ | refine Gr.drew ?_ | refine Gr.alloc ?_ _ | refine Gr.grow ?_ _ | (refine Gr.trans ?_ (by assumption))))
  have hlt : w.heap.size < X := by omega
  rw [hX]
  clear hclwA hfzwA hclwB hfzwB hclwC hfzwC hgwA hgwB hgwC hszwA hszwB hszwC hlwB_w hlwC_w hlwC_wB hX
  rw [HD.out]
  go_loopg [] M (fun kx wr => ∃ k : Nat, 1 ≤ k ∧ k ≤ M ∧ M - k ≤ kx ∧ wr.cell? ⟨X, 0, none⟩ = some (.int .i64 Y) ∧ wr.cell? ⟨X, 1, none⟩ = some (.int .i64 (k : Int)) ∧ wr.cell? ⟨X, 2, none⟩ = some (.int .i64 (gc (gl Y) M + D - gc (gl Y) k)) ∧ wr.frozen? ⟨X, 1, none⟩ = false ∧ wr.frozen? ⟨X, 2, none⟩ = false ∧
    wr.cell? ⟨w.heap.size, 0, none⟩ = some (.int .i64 0) ∧ wr.cell? ⟨w.heap.size, 1, none⟩ = some (.int .i64 0) ∧ wr.cell? ⟨w.heap.size, 2, none⟩ = some (.int .i64 0) ∧ wr.frozen? ⟨w.heap.size, 0, none⟩ = false ∧ wr.frozen? ⟨w.heap.size, 1, none⟩ = false ∧ wr.frozen? ⟨w.heap.size, 2, none⟩ = false ∧ Gr w wr)
  case atStart =>
    obtain ⟨c0, c1, c2, f1, f2⟩ := hr0
    obtain ⟨r0, r1, r2, g0, g1, g2⟩ := hs0
    have ne : ¬ X = w.heap.size := by omega
    refine ⟨1, by omega, m0, by omega, ?_, ?_, ?_, set_frozen f1, set_frozen f2, ?_, ?_, ?_, set_frozen g0, set_frozen g1, set_frozen g2, hG.setCell _ _ (Nat.le_of_lt hlt)⟩
    · rw [set_cell c0]; simp
    · rw [set_cell c1]; simp
    · rw [set_cell c2]; simp [gc, gmd]
    · rw [set_cell r0]; simp [ne]
    · rw [set_cell r1]; simp [ne]
    · rw [set_cell r2]; simp [ne]
  case round =>
    obtain ⟨k, k1, k2, k3, c0, c1, c2, f1, f2, r0, r1, r2, g0, g1, g2, hg0⟩ := hrel
    have hk := H1.out k
    by_cases e : k < M
    · have hk2 := hk (by omega)
      have hk3 : gc (gl Y) (k + 1) = gc (gl Y) k + gmd (gl Y) (k : Int) := rfl
      have ht : gmd (gl Y) (k : Int) < gc (gl Y) M + D - gc (gl Y) k := by omega
      have tr := gmd_range (gl Y) (k : Int)
      have hgm := HM.out
      have d2 : D ≤ 31 := by have := gmd_range (gl Y) (M : Int); omega
      clear hk
      go_wp2
      go_quiet ((go_at_call 54; exact Calls.quiet_of_same (gdays_s _ _ _)))
      go_wp2
      have hgN : Gr w (wr.drewN nq) := hg0.drewN nq
      replace c0 : (wr.drewN nq).cell? ⟨X, 0, none⟩ = _ := c0
      replace c1 : (wr.drewN nq).cell? ⟨X, 1, none⟩ = _ := c1
      replace c2 : (wr.drewN nq).cell? ⟨X, 2, none⟩ = _ := c2
      replace f1 : (wr.drewN nq).frozen? ⟨X, 1, none⟩ = _ := f1
      replace f2 : (wr.drewN nq).frozen? ⟨X, 2, none⟩ = _ := f2
      replace r0 : (wr.drewN nq).cell? ⟨w.heap.size, 0, none⟩ = _ := r0
      replace r1 : (wr.drewN nq).cell? ⟨w.heap.size, 1, none⟩ = _ := r1
      replace r2 : (wr.drewN nq).cell? ⟨w.heap.size, 2, none⟩ = _ := r2
      replace g0 : (wr.drewN nq).frozen? ⟨w.heap.size, 0, none⟩ = _ := g0
      replace g1 : (wr.drewN nq).frozen? ⟨w.heap.size, 1, none⟩ = _ := g1
      replace g2 : (wr.drewN nq).frozen? ⟨w.heap.size, 2, none⟩ = _ := g2
      clear hg0
      generalize wr.drewN nq = W1 at *
      have c0d : ({ W1 with drawn := W1.drawn + 1 } : World).cell? ⟨X, 0, none⟩ = _ := c0
      have c1d : ({ W1 with drawn := W1.drawn + 1 } : World).cell? ⟨X, 1, none⟩ = _ := c1
      have c2d : ({ W1 with drawn := W1.drawn + 1 } : World).cell? ⟨X, 2, none⟩ = _ := c2
      refine wp_region_still_tail 9 mixed (by kernel_rfl) ?_
      simp only [List.take_succ_cons, List.take_zero, List.drop_succ_cons, List.drop_zero]
      repeat (first | still_step | still_call (gdays_s _ _ _))
      refine wpStill_nil ?_
      clear c0d c1d c2d
      change wpList _ _ _ _ _ W1.drew
      go_wp2
      have ne : ¬ X = w.heap.size := by omega
      go_roundg (M - (k + 1))
      case measure => omega
      case rel =>
        refine ⟨k + 1, by omega, by omega, Nat.le_refl _, ?_, ?_, ?_, set_frozen (set_frozen f1), set_frozen (set_frozen f2), ?_, ?_, ?_, set_frozen (set_frozen g0), set_frozen (set_frozen g1), set_frozen (set_frozen g2), ((hgN.setCell _ _ (Nat.le_of_lt hlt)).setCell _ _ (Nat.le_of_lt hlt)).drew⟩
        · refine (set_cell (set_cell c0)).trans ?_; simp
        · refine (set_cell (set_cell c1)).trans ?_; simp
        · refine (set_cell (set_cell c2)).trans ?_; simp; omega
        · refine (set_cell (set_cell r0)).trans ?_; simp [ne]
        · refine (set_cell (set_cell r1)).trans ?_; simp [ne]
        · refine (set_cell (set_cell r2)).trans ?_; simp [ne]
    · obtain rfl : k = M := by omega
      have ht : ¬ gmd (gl Y) (k : Int) < gc (gl Y) k + D - gc (gl Y) k := by omega
      have c2' : wr.cell? ⟨X, 2, none⟩ = some (.int .i64 D) := by rw [c2]; congr 2; omega
      clear c2 ht hk
      have ht : ¬ gmd (gl Y) (k : Int) < D := by omega
      go_wp2
      go_quiet ((go_at_call 54; exact Calls.quiet_of_same (gdays_s _ _ _)))
      go_wp2
      exact bodyPost_ret (v := .tuple #[.agg #[.int .i64 Y, .int .i64 (k : Int), .int .i64 D], .int .i64 0]) (by simp [results, Tryz.results23, go_sem, *]) rfl ⟨rfl, (by repeat (first | exact Gr.refl _ | refine Gr.setCell ?_ _ _ (by first | exact Nat.le_refl _ | (simp; omega) | (simp; done)) | refine Gr.grown ?_ _ _ | refine Gr.drewN ?_ _ | refine Gr.drew ?_ | refine Gr.alloc ?_ _ | refine Gr.grow ?_ _ | (refine Gr.trans ?_ (by assumption))))⟩

theorem gfrom_out (n : Int) (w : World) (h : n < -1373427 ∨ 2278650 < n) :
    Calls Tryq.prog 23 #[.int .i64 n] w fun e w' => e = .returned (.tuple #[.agg #[.int .i64 0, .int .i64 0, .int .i64 0], .int .i64 2]) ∧ Gr w w' := by
  have hin : RowKit.Hid (inD n = false) := Lib.hid (decide_eq_false (by omega))
  clear h
  go_enter Tryq.func23, Tryq.ntmps23
  go_wp2_with (first | (go_at_call 51; (with_reducible refine (gin_c n _).mono ?_); rintro e wA ⟨rfl, hgwA⟩; rw [hin.out]; obtain ⟨hclwA, hfzwA, hszwA⟩ := gcell hgwA; (try simp [Nat.add_one_le_iff] at hszwA)))
  exact bodyPost_ret (v := .tuple #[.agg #[.int .i64 0, .int .i64 0, .int .i64 0], .int .i64 2]) (by simp [results, Tryz.results23, go_sem, *]) rfl ⟨rfl, (by repeat (first | exact Gr.refl _ | refine Gr.setCell ?_ _ _ (by first | exact Nat.le_refl _ | (simp; omega) | (simp; done)) | refine Gr.grown ?_ _ _ | refine Gr.drewN ?_ _ | refine Gr.drew ?_ | refine Gr.alloc ?_ _ | refine Gr.grow ?_ _ | (refine Gr.trans ?_ (by assumption))))⟩

end Go.Proofs.YtegkbjpcgelomaaGreatDoor.Walks
end
/- awake: the fixed fact holds. -/
section
namespace Go.Proofs.YtegkbjpcgelomaaGreatDoor.Walks
open Go Go.RowKit Go.Sort Go.Proofs.YtegkbjpcgelomaaGreatDoor.Base Go.Proofs.YtegkbjpcgelomaaGreatDoor.Plain Go.Proofs.YtegkbjpcgelomaaGreatDoor.Math

theorem aw_c1 (w : World) (G : GT w) : Calls Tryq.prog 22 #[.int .i64 738999] w fun e w' => e = .returned (.tuple #[.agg #[.int .i64 5784, .int .i64 7, .bool false, .int .i64 15], .int .i64 0]) ∧ Gr w w' := by
  have hv : HV 5784 7 15 := ⟨by decide, by decide, by decide, by decide, by have := mlen_range (kk 5784) (lp 5784) 7; omega⟩
  have := hfrom_in 5784 7 15 738999 w G hv aw_hd1
  rwa [aw_code.1, aw_code.2] at this
theorem aw_c2 (w : World) : Calls Tryq.prog 23 #[.int .i64 738999] w fun e w' => e = .returned (.tuple #[.agg #[.int .i64 2024, .int .i64 4, .int .i64 23], .int .i64 0]) ∧ Gr w w' :=
  gfrom_in 738999 2024 4 23 w (by decide) (by decide) (by decide +kernel) (by unfold gok; decide +kernel) (by decide +kernel)
def AwT (w : World) (e : Ending) (w' : World) : Prop := ∃ b c, e = .returned (.tuple #[.agg #[.int .i64 27, .int .i64 b, .int .i64 c], .int .i64 0]) ∧ Gr w w'
theorem aw_c3 (w : World) (G : GT w) : Calls Tryq.prog 40 #[.int .i64 738989, .int .i64 0] w (AwT w) := by
  have hv : HV 5784 7 5 := ⟨by decide, by decide, by decide, by decide, by have := mlen_range (kk 5784) (lp 5784) 7; omega⟩
  refine (tofday_c 5784 0 738989 5 7 w G hv aw_hd2 (.inl rfl)).mono ?_
  rintro e w' ⟨a, b, c, e', rfl, hg, h⟩
  have hy : cycY 5784 0 738989 = 5784 := by
    unfold cycY
    rw [aw_rej]
    decide
  have h1 : cycN 5784 0 738989 = 5784 := by unfold cycN; rw [hy]; decide
  have h2 : cycE 5784 0 738989 = 0 := by unfold cycE; rw [hy]; decide
  rw [h1] at h
  obtain ⟨q1, q2⟩ := h 26 h2 aw_idx aw_no
  rw [aw_first] at q1
  subst q1 q2
  exact ⟨b, c, rfl, hg⟩
set_option maxRecDepth 100000 in
set_option maxHeartbeats 8000000 in
theorem awake_c (w : World) (G : GT w) (p : PT w) : Calls Tryq.prog 11 #[] w fun e w' => e = .returned (.bool true) ∧ Gr w w' := by
  have C1 := Lib.hid fun W (hW : Gr w W) => aw_c1 W (G.gr hW)
  have C2 := Lib.hid fun W (hW : Gr w W) => theb_c W (G.gr hW) (p.gr hW)
  have C3 := Lib.hid fun W (hW : Gr w W) => aw_c2 W
  have C4 := Lib.hid fun W (hW : Gr w W) => aw_c3 W (G.gr hW)
  clear G p
  go_enter Tryq.func11, Tryq.ntmps11
  go_wp2_with (first | (go_at_call 22; (with_reducible refine (C1.out _ ((by repeat (first | exact Gr.refl _ | refine Gr.setCell ?_ _ _ (by first | exact Nat.le_refl _ | (simp; omega) | (simp; done)) | refine Gr.grown ?_ _ _ | refine Gr.drewN ?_ _ | refine Gr.drew ?_ | refine Gr.alloc ?_ _ | refine Gr.grow ?_ _ | (refine Gr.trans ?_ (by assumption)))))).mono ?_); rintro e wA ⟨rfl, hgwA⟩; obtain ⟨hclwA, hfzwA, hszwA⟩ := gcell hgwA; (try simp [Nat.add_one_le_iff] at hszwA)) | (go_at_call 39; (with_reducible refine (C2.out _ ((by repeat (first | exact Gr.refl _ | refine Gr.setCell ?_ _ _ (by first | exact Nat.le_refl _ | (simp; omega) | (simp; done)) | refine Gr.grown ?_ _ _ | refine Gr.drewN ?_ _ | refine Gr.drew ?_ | refine Gr.alloc ?_ _ | refine Gr.grow ?_ _ | (refine Gr.trans ?_ (by assumption)))))).mono ?_); rintro e wB ⟨rfl, hgwB⟩; obtain ⟨hclwB, hfzwB, hszwB⟩ := gcell hgwB; (try simp [Nat.add_one_le_iff] at hszwB)) | (go_at_call 23; (with_reducible refine (C3.out _ ((by repeat (first | exact Gr.refl _ | refine Gr.setCell ?_ _ _ (by first | exact Nat.le_refl _ | (simp; omega) | (simp; done)) | refine Gr.grown ?_ _ _ | refine Gr.drewN ?_ _ | refine Gr.drew ?_ | refine Gr.alloc ?_ _ | refine Gr.grow ?_ _ | (refine Gr.trans ?_ (by assumption)))))).mono ?_); rintro e wC ⟨rfl, hgC⟩) | (go_at_call 40; refine (C4.out _ ((by repeat (first | exact Gr.refl _ | refine Gr.setCell ?_ _ _ (by first | exact Nat.le_refl _ | (simp; omega) | (simp; done)) | refine Gr.grown ?_ _ _ | refine Gr.drewN ?_ _ | refine Gr.drew ?_ | refine Gr.alloc ?_ _ | refine Gr.grow ?_ _ | (refine Gr.trans ?_ (by assumption)))))).mono ?_; rintro e wD ⟨rb, rc, rfl, hgD⟩; have hlD : wC.heap.size < wD.heap.size := (by have h := hgD.size; simp at h; omega); have k0 := hgD.keep (b := wC.heap.size) (o := 0) (v := .int .i64 2024) (by first | (simp; done) | (simp; omega)) (by simp [go_sem]); have k1 := hgD.keep (b := wC.heap.size) (o := 1) (v := .int .i64 4) (by first | (simp; done) | (simp; omega)) (by simp [go_sem]); have k2 := hgD.keep (b := wC.heap.size) (o := 2) (v := .int .i64 23) (by first | (simp; done) | (simp; omega)) (by simp [go_sem])))
  go_ret
  exact ⟨rfl, (by repeat (first | exact Gr.refl _ | refine Gr.setCell ?_ _ _ (by first | exact Nat.le_refl _ | (simp; omega) | (simp; done)) | refine Gr.grown ?_ _ _ | refine Gr.drewN ?_ _ | refine Gr.drew ?_ | refine Gr.alloc ?_ _ | refine Gr.grow ?_ _ | (refine Gr.trans ?_ (by assumption))))⟩
end Go.Proofs.YtegkbjpcgelomaaGreatDoor.Walks
end
