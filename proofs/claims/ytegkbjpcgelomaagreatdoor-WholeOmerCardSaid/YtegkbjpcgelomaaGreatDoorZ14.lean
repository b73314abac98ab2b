/- Plain arithmetic that the pure statements need: quotients and remainders rounded down, wrap-free ranges. -/
import Derived.OpenShut
import Derived.WalkKit
import Derived.Test.YtegkbjpcgelomaaGreatDoorZ8
import Derived.Below
import Derived.KernelRfl
import Derived.Deep.QuietTactic
import Derived.BigQuiet
import Derived.Deep.RegionHeld3
import Derived.Deep.DeepCutAuto
import Derived.Deep.CutBlock
import Derived.Deep.LoopGhost
import Derived.Deep.DeepFit
import Derived.Deep.DeepMust
import Derived.Laws.Rows
import Derived.OwnWalk
import Derived.WideLaws
import Derived.Outline
import Derived.Lib.Hide
import Derived.Shelf.SlSortCmp.QuietGrown
import Derived.Lib.Mul64
import Derived.Laws.Bits64b
set_option linter.unusedVariables false
set_option linter.unusedSimpArgs false
section
namespace Go.Proofs.YtegkbjpcgelomaaGreatDoor.Plain
open Go Go.RowKit

theorem w64 {n : Int} (h0 : -9223372036854775808 ≤ n) (h1 : n ≤ 9223372036854775807) : wrap64 n = n := by
  unfold wrap64
  omega

theorem floor_both (a b : Int) (hb : 0 < b) :
    (if Int.tmod a b < 0 then Int.tdiv a b - 1 else Int.tdiv a b) = a / b ∧ (if Int.tmod a b < 0 then Int.tmod a b + b else Int.tmod a b) = a % b := by
  have e := Int.tmod_add_mul_tdiv a b
  have h1 := Int.tmod_lt_of_pos a hb
  have h2 := Int.lt_tmod_of_pos a hb
  split
  · rename_i h
    have u := (Int.ediv_emod_unique (a := a) (b := b) (r := Int.tmod a b + b) (q := Int.tdiv a b - 1) hb).2 ⟨by rw [Int.mul_sub]; omega, by omega, by omega⟩
    exact ⟨u.1.symm, u.2.symm⟩
  · rename_i h
    have u := (Int.ediv_emod_unique (a := a) (b := b) (r := Int.tmod a b) (q := Int.tdiv a b) hb).2 ⟨by omega, by omega, by omega⟩
    exact ⟨u.1.symm, u.2.symm⟩

theorem ediv_range (a b : Int) (hb : 0 < b) (h0 : -9223372036854775808 ≤ a) (h1 : a ≤ 9223372036854775807) : -9223372036854775808 ≤ a / b ∧ a / b ≤ 9223372036854775807 := by
  have e := Int.emod_add_mul_ediv a b
  have m0 := Int.emod_nonneg a (b := b) (by omega)
  have m1 := Int.emod_lt_of_pos a hb
  constructor
  · by_cases h : 0 ≤ a
    · have := Int.ediv_nonneg h (Int.le_of_lt hb); omega
    · have : a ≤ a / b := by
        have hq : a / b ≤ 0 := by
          have := Int.ediv_le_ediv hb (show a ≤ 0 by omega)
          simpa using this
        have : b * (a / b) ≤ 1 * (a / b) := by
          have := Int.mul_le_mul_of_nonpos_right (show 1 ≤ b by omega) hq
          omega
        have h3 : b * (a / b) ≤ a := by omega
        by_cases h1 : b = 1
        · subst h1; simp
        · have hb2 : 2 ≤ b := by omega
          have h5 : a < b * (a / b) + b := by omega
          have h6 : b * (a / b + 1) > a := by rw [Int.mul_add]; omega
          by_cases h7 : a / b + 1 ≤ 0
          · have : b * (a / b + 1) ≤ 1 * (a / b + 1) := Int.mul_le_mul_of_nonpos_right (show 1 ≤ b by omega) h7
            omega
          · omega
      omega
  · by_cases h : 0 ≤ a
    · have := Int.ediv_le_self b h; omega
    · have := Int.ediv_le_ediv hb (show a ≤ 0 by omega)
      simp at this; omega

theorem tdiv_range (a b : Int) (hb : 0 < b) (h0 : -9223372036854775808 ≤ a) (h1 : a ≤ 9223372036854775807) : -9223372036854775808 ≤ Int.tdiv a b ∧ Int.tdiv a b ≤ 9223372036854775807 := by
  have e := ediv_range a b hb h0 h1
  have f := (floor_both a b hb).1
  by_cases h : Int.tmod a b < 0
  · rw [if_pos h] at f
    by_cases g : a / b = 9223372036854775807
    · exfalso
      have ha : 0 ≤ a := by
        have := Int.emod_add_mul_ediv a b
        have m0 := Int.emod_nonneg a (b := b) (by omega)
        rw [g] at this
        have : 0 ≤ b * 9223372036854775807 := Int.mul_nonneg (by omega) (by omega)
        omega
      have := Int.tmod_nonneg b ha
      omega
    · omega
  · rw [if_neg h] at f; omega

end Go.Proofs.YtegkbjpcgelomaaGreatDoor.Plain
end
/- Words for the walks: the world has grown: orders have been drawn, blocks have been laid behind; whatever lay there is as it was. -/
section
namespace Go.Proofs.YtegkbjpcgelomaaGreatDoor.Base
open Go Go.RowKit Go.Sort

theorem mixed : Tryq.prog.follows .mixedOrders = true := by kernel_rfl

/-- The world has grown: orders drawn, blocks laid behind. -/
structure Gr (w w' : World) : Prop where mk :: (out : ∃ q os, w' = grow (w.drewN q) os)

theorem drewN_grow (w : World) (os : Array Obj) (n : Nat) : (grow w os).drewN n = grow (w.drewN n) os := rfl
theorem Gr.refl (w : World) : Gr w w := ⟨⟨0, #[], by rw [grow_empty]; rfl⟩⟩
theorem Gr.trans {a b c : World} (h : Gr a b) (k : Gr b c) : Gr a c := by
  obtain ⟨⟨q, os, rfl⟩⟩ := h
  obtain ⟨⟨p, us, rfl⟩⟩ := k
  exact ⟨⟨q + p, os ++ us, by rw [drewN_grow, grow_grow, World.drewN_drewN]⟩⟩
theorem Gr.alloc {a b : World} (h : Gr a b) (o : Obj) : Gr a (b.alloc o) := h.trans ⟨⟨0, #[o], by rw [alloc_eq_grow]; rfl⟩⟩
theorem Gr.drewN {a b : World} (h : Gr a b) (n : Nat) : Gr a (b.drewN n) := h.trans ⟨⟨n, #[], by rw [grow_empty]⟩⟩
theorem Gr.drew {a b : World} (h : Gr a b) : Gr a b.drew := h.trans ⟨⟨1, #[], by rw [grow_empty]; rfl⟩⟩
theorem Gr.grown {a b : World} (h : Gr a b) (n : Nat) (os : Array Obj) : Gr a (grow (b.drewN n) os) := h.trans ⟨⟨n, os, rfl⟩⟩
theorem Gr.grow {a b : World} (h : Gr a b) (os : Array Obj) : Gr a (Go.Sort.grow b os) := h.trans ⟨⟨0, os, rfl⟩⟩
theorem Gr.size {a b : World} (h : Gr a b) : a.heap.size ≤ b.heap.size := by
  obtain ⟨⟨q, os, rfl⟩⟩ := h
  rw [size_grow]
  show a.heap.size ≤ a.heap.size + os.size
  omega
theorem Gr.setCell {a b : World} (h : Gr a b) (p : Addr) (v : Value) (hp : a.heap.size ≤ p.block) : Gr a (b.setCell p v) := by
  obtain ⟨⟨q, os, rfl⟩⟩ := h
  refine ⟨⟨q, os.modify (p.block - a.heap.size) fun | .cells c e f => .cells (if p.spot.isSome then c else c.setIfInBounds p.off v) e f | o => o, ?_⟩⟩
  unfold World.setCell Go.Sort.grow
  simp only
  congr 1
  exact modify_append_right _ _ _ _ hp
theorem Gr.below {a b : World} (h : Gr a b) : Below a.heap.size a b := by
  obtain ⟨⟨q, os, rfl⟩⟩ := h
  exact ⟨rfl, rfl, rfl, by rw [size_grow]; show a.heap.size ≤ a.heap.size + os.size; omega, fun k hk => heap_grow_old _ _ hk⟩
theorem gcell {W w1 : World} (h : Gr W w1) : (∀ b o, b < W.heap.size → w1.cell? ⟨b, o, none⟩ = W.cell? ⟨b, o, none⟩) ∧ (∀ b o, b < W.heap.size → w1.frozen? ⟨b, o, none⟩ = W.frozen? ⟨b, o, none⟩) ∧ W.heap.size ≤ w1.heap.size :=
  ⟨fun b o hb => h.below.cell (p := ⟨b, o, none⟩) hb, fun b o hb => h.below.frozen (p := ⟨b, o, none⟩) hb, h.size⟩

theorem Gr.keep {W w1 : World} (h : Gr W w1) {b o : Nat} {v : Value} (hb : b < W.heap.size) (c : W.cell? ⟨b, o, none⟩ = some v) : w1.cell? ⟨b, o, none⟩ = some v := (h.below.cell (p := ⟨b, o, none⟩) hb).trans c
theorem Gr.thaw {W w1 : World} (h : Gr W w1) {b o : Nat} {v : Bool} (hb : b < W.heap.size) (c : W.frozen? ⟨b, o, none⟩ = v) : w1.frozen? ⟨b, o, none⟩ = v := (h.below.frozen (p := ⟨b, o, none⟩) hb).trans c
theorem Gr.lt {W w1 : World} (h : Gr W w1) {b : Nat} (hb : b < W.heap.size) : b < w1.heap.size := Nat.lt_of_lt_of_le hb h.size

/-- A callee's contract, met in a world of the class of grown worlds. -/
theorem gr_of {P : Program} {f : FuncId} {args : Array Value} {w : World} {n : Nat} {os : Array Obj} {v : Value}
    (h : Calls P f args (grow (w.drewN n) os) fun e w' => e = .returned v ∧ Gr (grow (w.drewN n) os) w') : Calls P f args (grow (w.drewN n) os) fun e w'' => e = .returned v ∧ ∃ p : GrownBy, w'' = grow (w.drewN p.n) p.os :=
  Calls.grown_of (h.mono fun _ _ ⟨he, hg⟩ => ⟨he, hg.out⟩)
/-- The cell of a block that was there, in every grown world. -/
theorem gcell_in {w : World} {b o : Nat} {v : Value} (hb : b < w.heap.size) (h : w.cell? ⟨b, o, none⟩ = some v) : ∀ n os, (grow (w.drewN n) os).cell? ⟨b, o, none⟩ = some v := fun n os => cell_grown hb h n os

theorem ret1 {k : IntKind} {a b : Int} (h : a = b) : Ending.returned (.int k a) = .returned (.int k b) := by rw [h]
theorem ret2 {k l : IntKind} {a b c d : Int} (h : a = b) (g : c = d) : Ending.returned (.tuple #[.int k a, .int l c]) = .returned (.tuple #[.int k b, .int l d]) := by rw [h, g]
theorem retb {a b : Bool} (h : a = b) : Ending.returned (.bool a) = .returned (.bool b) := by rw [h]
theorem retb2 {l : IntKind} {a b : Bool} {c d : Int} (h : a = b) (g : c = d) : Ending.returned (.tuple #[.bool a, .int l c]) = .returned (.tuple #[.bool b, .int l d]) := by rw [h, g]

end Go.Proofs.YtegkbjpcgelomaaGreatDoor.Base
end
/- Walks of package exact: what its functions answer, for whole numbers of 64 bits. -/
section
namespace Go.Proofs.YtegkbjpcgelomaaGreatDoor.Walks
open Go Go.RowKit Go.Sort Go.Proofs.YtegkbjpcgelomaaGreatDoor.Base Go.Proofs.YtegkbjpcgelomaaGreatDoor.Plain

set_option maxHeartbeats 1000000 in
theorem both_c (a b : Int) (w : World) (hb : 0 < b) (h0 : -9223372036854775808 ≤ a) (h1 : a ≤ 9223372036854775807) (hb1 : b ≤ 9223372036854775807) :
    Calls Tryq.prog 85 #[.int .i64 a, .int .i64 b] w fun e w' => e = .returned (.tuple #[.int .i64 (a / b), .int .i64 (a % b)]) ∧ Gr w w' := by
  have f := floor_both a b hb
  have m0 := Int.emod_nonneg a (b := b) (by omega)
  have m1 := Int.emod_lt_of_pos a hb
  have m2 := ediv_range a b hb h0 h1
  have m3 := tdiv_range a b hb h0 h1
  have z : (b == 0) = false := beq_eq_false_iff_ne.2 (by omega)
  by_cases h : Int.tmod a b < 0
  · rw [if_pos h, if_pos h] at f
    have e1 : wrap64 (Int.tdiv a b - 1) = a / b := by rw [f.1, w64 m2.1 m2.2]
    have e2 : wrap64 (Int.tmod a b + b) = a % b := by rw [f.2, w64 (by omega) (by omega)]
    have E1 := Lib.hid e1
    have E2 := Lib.hid e2
    have hd : decide (Int.tmod a b < 0) = true := decide_eq_true h
    clear e1 e2 f m0 m1 m2 m3 h
    go_enter Tryq.func85, Tryq.ntmps85
    go_wp2
    go_quiet (fail)
    go_wp2
    go_ret2
    exact ⟨ret2 E1.out E2.out, (by repeat (first | exact Gr.refl _ | refine Gr.setCell ?_ _ _ (by first | exact Nat.le_refl _ | (simp; omega) | (simp; done)) | refine Gr.grown ?_ _ _ | refine Gr.drewN ?_ _ | refine Gr.drew ?_ | refine Gr.alloc ?_ _ | refine Gr.grow ?_ _ | (refine Gr.trans ?_ (by assumption))))⟩
  · rw [if_neg h, if_neg h] at f
    have e1 : Int.tdiv a b = a / b := f.1
    have e2 : Int.tmod a b = a % b := f.2
    have E1 := Lib.hid e1
    have E2 := Lib.hid e2
    have hd : decide (Int.tmod a b < 0) = false := decide_eq_false h
    clear e1 e2 f m0 m1 m2 m3 h
    go_enter Tryq.func85, Tryq.ntmps85
    go_wp2
    go_quiet (fail)
    go_wp2
    go_ret2
    exact ⟨ret2 E1.out E2.out, (by repeat (first | exact Gr.refl _ | refine Gr.setCell ?_ _ _ (by first | exact Nat.le_refl _ | (simp; omega) | (simp; done)) | refine Gr.grown ?_ _ _ | refine Gr.drewN ?_ _ | refine Gr.drew ?_ | refine Gr.alloc ?_ _ | refine Gr.grow ?_ _ | (refine Gr.trans ?_ (by assumption))))⟩

theorem div_c (a b : Int) (w : World) (hb : 0 < b) (h0 : -9223372036854775808 ≤ a) (h1 : a ≤ 9223372036854775807) (hb1 : b ≤ 9223372036854775807) :
    Calls Tryq.prog 73 #[.int .i64 a, .int .i64 b] w fun e w' => e = .returned (.tuple #[.int .i64 (a / b), .int .i64 0]) ∧ Gr w w' := by
  have hd : decide (b < 1) = false := decide_eq_false (by omega)
  go_enter Tryq.func73, Tryq.ntmps73
  go_wp2_with (go_at_call 85; (with_reducible refine (both_c a b _ hb h0 h1 hb1).mono ?_); rintro e w1 ⟨rfl, hg⟩)
  go_ret2
  exact ⟨rfl, (by repeat (first | exact Gr.refl _ | refine Gr.setCell ?_ _ _ (by first | exact Nat.le_refl _ | (simp; omega) | (simp; done)) | refine Gr.grown ?_ _ _ | refine Gr.drewN ?_ _ | refine Gr.drew ?_ | refine Gr.alloc ?_ _ | refine Gr.grow ?_ _ | (refine Gr.trans ?_ (by assumption))))⟩
theorem mod_c (a b : Int) (w : World) (hb : 0 < b) (h0 : -9223372036854775808 ≤ a) (h1 : a ≤ 9223372036854775807) (hb1 : b ≤ 9223372036854775807) :
    Calls Tryq.prog 44 #[.int .i64 a, .int .i64 b] w fun e w' => e = .returned (.tuple #[.int .i64 (a % b), .int .i64 0]) ∧ Gr w w' := by
  have hd : decide (b < 1) = false := decide_eq_false (by omega)
  go_enter Tryq.func44, Tryq.ntmps44
  go_wp2_with (go_at_call 85; (with_reducible refine (both_c a b _ hb h0 h1 hb1).mono ?_); rintro e w1 ⟨rfl, hg⟩)
  go_ret2
  exact ⟨rfl, (by repeat (first | exact Gr.refl _ | refine Gr.setCell ?_ _ _ (by first | exact Nat.le_refl _ | (simp; omega) | (simp; done)) | refine Gr.grown ?_ _ _ | refine Gr.drewN ?_ _ | refine Gr.drew ?_ | refine Gr.alloc ?_ _ | refine Gr.grow ?_ _ | (refine Gr.trans ?_ (by assumption))))⟩

/-! ### products -/
theorem maskN (a : Nat) (ha : a < 18446744073709551616) : bits .and .u64 (a : Int) 4294967295 = ((a % 4294967296 : Nat) : Int) := by
  have h := bits_and_u64_nat a 4294967295 ha (by omega)
  have e : a &&& 4294967295 = a % 4294967296 := Nat.and_two_pow_sub_one_eq_mod a 32
  rw [e] at h
  exact h
theorem divN (a : Nat) : (a : Int) / 4294967296 = ((a / 4294967296 : Nat) : Int) := by omega
theorem mulN (a b : Nat) : (a : Int) * (b : Int) = ((a * b : Nat) : Int) := (Int.natCast_mul a b).symm
theorem addN (a b : Nat) : (a : Int) + (b : Int) = ((a + b : Nat) : Int) := (Int.natCast_add a b).symm
theorem wrapN (a : Nat) (ha : a < 18446744073709551616) : IntKind.u64.wrap (a : Int) = (a : Int) := by rw [IntKind.wrap_u64]; omega
theorem wrapM (a : Nat) : IntKind.u64.wrap (a : Int) = ((a % 18446744073709551616 : Nat) : Int) := by rw [IntKind.wrap_u64]; omega

set_option maxHeartbeats 1000000 in
theorem mul64_c (x y : Nat) (w : World) (hx : x < 18446744073709551616) (hy : y < 18446744073709551616) :
    Calls Tryq.prog 123 #[.int .u64 x, .int .u64 y] w fun e w' => e = .returned (.tuple #[.int .u64 ((x * y / 18446744073709551616 : Nat) : Int), .int .u64 ((x * y % 18446744073709551616 : Nat) : Int)]) ∧ Gr w w' := by
  obtain ⟨bd, bt, bw, hhi⟩ := Lib.mul64_hi x y hx hy
  have ba := Lib.half_mul_le (a := x / 4294967296) (b := y / 4294967296) (by omega) (by omega)
  have bb := Lib.half_mul_le (a := x / 4294967296) (b := y % 4294967296) (by omega) (by omega)
  have bc := Lib.half_mul_le (a := x % 4294967296) (b := y / 4294967296) (by omega) (by omega)
  have ba' : x / 4294967296 * (y / 4294967296) < 18446744073709551616 := by omega
  have bb' : x / 4294967296 * (y % 4294967296) < 18446744073709551616 := by omega
  have bc' : x % 4294967296 * (y / 4294967296) < 18446744073709551616 := by omega
  have bh1 : x / 4294967296 * (y / 4294967296) + (x / 4294967296 * (y % 4294967296) + x % 4294967296 * (y % 4294967296) / 4294967296) / 4294967296 < 18446744073709551616 := by omega
  have bh : x / 4294967296 * (y / 4294967296) + (x / 4294967296 * (y % 4294967296) + x % 4294967296 * (y % 4294967296) / 4294967296) / 4294967296 + ((x / 4294967296 * (y % 4294967296) + x % 4294967296 * (y % 4294967296) / 4294967296) % 4294967296 + x % 4294967296 * (y / 4294967296)) / 4294967296 < 18446744073709551616 := by omega
  go_enter Tryq.func123, Tryq.ntmps123
  go_wp2
  simp only [maskN x hx, maskN y hy, divN, mulN, addN, wrapN _ bd, wrapN _ bb', wrapN _ bt, maskN _ bt, wrapN _ bc', wrapN _ bw, wrapN _ ba', wrapN _ bh1, wrapN _ bh, wrapM (x * y)]
  rw [hhi]
  go_ret2
  exact ⟨rfl, (by repeat (first | exact Gr.refl _ | refine Gr.setCell ?_ _ _ (by first | exact Nat.le_refl _ | (simp; omega) | (simp; done)) | refine Gr.grown ?_ _ _ | refine Gr.drewN ?_ _ | refine Gr.drew ?_ | refine Gr.alloc ?_ _ | refine Gr.grow ?_ _ | (refine Gr.trans ?_ (by assumption))))⟩

theorem size_c (a : Int) (w : World) (h0 : -9223372036854775808 ≤ a) (h1 : a ≤ 9223372036854775807) :
    Calls Tryq.prog 124 #[.int .i64 a] w fun e w' => e = .returned (.int .u64 ((a.natAbs : Nat) : Int)) ∧ Gr w w' := by
  by_cases h : a < 0
  · have e : IntKind.u64.wrap (-(IntKind.u64.wrap a)) = ((a.natAbs : Nat) : Int) := by rw [IntKind.wrap_u64, IntKind.wrap_u64]; omega
    have E := Lib.hid e
    clear e
    go_enter Tryq.func124, Tryq.ntmps124
    go_wp2
    go_ret
    exact ⟨ret1 E.out, (by repeat (first | exact Gr.refl _ | refine Gr.setCell ?_ _ _ (by first | exact Nat.le_refl _ | (simp; omega) | (simp; done)) | refine Gr.grown ?_ _ _ | refine Gr.drewN ?_ _ | refine Gr.drew ?_ | refine Gr.alloc ?_ _ | refine Gr.grow ?_ _ | (refine Gr.trans ?_ (by assumption))))⟩
  · have e : a = ((a.natAbs : Nat) : Int) := by omega
    have E := Lib.hid e
    clear e
    go_enter Tryq.func124, Tryq.ntmps124
    go_wp2
    go_ret
    exact ⟨ret1 E.out, (by repeat (first | exact Gr.refl _ | refine Gr.setCell ?_ _ _ (by first | exact Nat.le_refl _ | (simp; omega) | (simp; done)) | refine Gr.grown ?_ _ _ | refine Gr.drewN ?_ _ | refine Gr.drew ?_ | refine Gr.alloc ?_ _ | refine Gr.grow ?_ _ | (refine Gr.trans ?_ (by assumption))))⟩

theorem mul64_small (x y p : Nat) (w : World) (hx : x < 18446744073709551616) (hy : y < 18446744073709551616) (hp : x * y = p) (h : p < 18446744073709551616) :
    Calls Tryq.prog 123 #[.int .u64 x, .int .u64 y] w fun e w' => e = .returned (.tuple #[.int .u64 0, .int .u64 (p : Int)]) ∧ Gr w w' := by
  refine (mul64_c x y w hx hy).mono ?_
  rintro e w1 ⟨rfl, hg⟩
  exact ⟨ret2 (by rw [hp]; omega) (by rw [hp]; omega), hg⟩

theorem neg_low (p : Nat) (h : p ≤ 9223372036854775808) : wrap64 (IntKind.u64.wrap (-(p : Int))) = -(p : Int) := by
  rw [IntKind.wrap_u64]; unfold wrap64; omega

set_option maxHeartbeats 4000000 in
/-- A product that fits. -/
theorem mul_c (a b : Int) (w : World) (a0 : -9223372036854775808 ≤ a) (a1 : a ≤ 9223372036854775807) (b0 : -9223372036854775808 ≤ b) (b1 : b ≤ 9223372036854775807)
    (p0 : -9223372036854775808 ≤ a * b) (p1 : a * b ≤ 9223372036854775807) :
    Calls Tryq.prog 107 #[.int .i64 a, .int .i64 b] w fun e w' => e = .returned (.tuple #[.int .i64 (a * b), .int .i64 0]) ∧ Gr w w' := by
  obtain ⟨p, hp⟩ : ∃ p, a.natAbs * b.natAbs = p := ⟨_, rfl⟩
  have hq : (a * b).natAbs = p := by rw [Int.natAbs_mul, hp]
  have hx : a.natAbs < 18446744073709551616 := by omega
  have hy : b.natAbs < 18446744073709551616 := by omega
  have hp2 : p < 18446744073709551616 := by omega
  have HP := Lib.hid hp
  clear hp
  by_cases ha : a < 0 <;> by_cases hb : b < 0
  · have hs : 0 ≤ a * b := Int.mul_nonneg_of_nonpos_of_nonpos (by omega) (by omega)
    have E : RowKit.Hid ((p : Int) = a * b) := Lib.hid (by omega)
    have l1 : (p : Int) ≤ 9223372036854775807 := by omega
    clear hs hq p0 p1
    have ha2 : decide (a < 0) = true := decide_eq_true ha
    have hb2 : decide (b < 0) = true := decide_eq_true hb
    clear ha hb
    go_enter Tryq.func107, Tryq.ntmps107
    go_wp2_with (first | (go_at_call 124; (with_reducible refine (size_c a _ a0 a1).mono ?_); rintro e w1 ⟨rfl, hg⟩) | (go_at_call 124; (with_reducible refine (size_c b _ b0 b1).mono ?_); rintro e w1 ⟨rfl, hg⟩) | (go_at_call 123; (with_reducible refine (mul64_small _ _ p _ hx hy HP.out hp2).mono ?_); rintro e w1 ⟨rfl, hg⟩))
    go_ret2
    exact ⟨ret2 E.out rfl, (by repeat (first | exact Gr.refl _ | refine Gr.setCell ?_ _ _ (by first | exact Nat.le_refl _ | (simp; omega) | (simp; done)) | refine Gr.grown ?_ _ _ | refine Gr.drewN ?_ _ | refine Gr.drew ?_ | refine Gr.alloc ?_ _ | refine Gr.grow ?_ _ | (refine Gr.trans ?_ (by assumption))))⟩
  · have hs : a * b ≤ 0 := Int.mul_nonpos_of_nonpos_of_nonneg (by omega) (by omega)
    have E : RowKit.Hid (wrap64 (IntKind.u64.wrap (-(p : Int))) = a * b) := Lib.hid (by rw [neg_low p (by omega)]; omega)
    have l1 : (p : Int) ≤ 9223372036854775808 := by omega
    clear hs hq p0 p1
    have ha2 : decide (a < 0) = true := decide_eq_true ha
    have hb2 : decide (b < 0) = false := decide_eq_false hb
    clear ha hb
    go_enter Tryq.func107, Tryq.ntmps107
    go_wp2_with (first | (go_at_call 124; (with_reducible refine (size_c a _ a0 a1).mono ?_); rintro e w1 ⟨rfl, hg⟩) | (go_at_call 124; (with_reducible refine (size_c b _ b0 b1).mono ?_); rintro e w1 ⟨rfl, hg⟩) | (go_at_call 123; (with_reducible refine (mul64_small _ _ p _ hx hy HP.out hp2).mono ?_); rintro e w1 ⟨rfl, hg⟩))
    go_ret2
    exact ⟨ret2 E.out rfl, (by repeat (first | exact Gr.refl _ | refine Gr.setCell ?_ _ _ (by first | exact Nat.le_refl _ | (simp; omega) | (simp; done)) | refine Gr.grown ?_ _ _ | refine Gr.drewN ?_ _ | refine Gr.drew ?_ | refine Gr.alloc ?_ _ | refine Gr.grow ?_ _ | (refine Gr.trans ?_ (by assumption))))⟩
  · have hs : a * b ≤ 0 := Int.mul_nonpos_of_nonneg_of_nonpos (by omega) (by omega)
    have E : RowKit.Hid (wrap64 (IntKind.u64.wrap (-(p : Int))) = a * b) := Lib.hid (by rw [neg_low p (by omega)]; omega)
    have l1 : (p : Int) ≤ 9223372036854775808 := by omega
    clear hs hq p0 p1
    have ha2 : decide (a < 0) = false := decide_eq_false ha
    have hb2 : decide (b < 0) = true := decide_eq_true hb
    clear ha hb
    go_enter Tryq.func107, Tryq.ntmps107
    go_wp2_with (first | (go_at_call 124; (with_reducible refine (size_c a _ a0 a1).mono ?_); rintro e w1 ⟨rfl, hg⟩) | (go_at_call 124; (with_reducible refine (size_c b _ b0 b1).mono ?_); rintro e w1 ⟨rfl, hg⟩) | (go_at_call 123; (with_reducible refine (mul64_small _ _ p _ hx hy HP.out hp2).mono ?_); rintro e w1 ⟨rfl, hg⟩))
    go_ret2
    exact ⟨ret2 E.out rfl, (by repeat (first | exact Gr.refl _ | refine Gr.setCell ?_ _ _ (by first | exact Nat.le_refl _ | (simp; omega) | (simp; done)) | refine Gr.grown ?_ _ _ | refine Gr.drewN ?_ _ | refine Gr.drew ?_ | refine Gr.alloc ?_ _ | refine Gr.grow ?_ _ | (refine Gr.trans ?_ (by assumption))))⟩
  · have hs : 0 ≤ a * b := Int.mul_nonneg (by omega) (by omega)
    have E : RowKit.Hid ((p : Int) = a * b) := Lib.hid (by omega)
    have l1 : (p : Int) ≤ 9223372036854775807 := by omega
    clear hs hq p0 p1
    have ha2 : decide (a < 0) = false := decide_eq_false ha
    have hb2 : decide (b < 0) = false := decide_eq_false hb
    clear ha hb
    go_enter Tryq.func107, Tryq.ntmps107
    go_wp2_with (first | (go_at_call 124; (with_reducible refine (size_c a _ a0 a1).mono ?_); rintro e w1 ⟨rfl, hg⟩) | (go_at_call 124; (with_reducible refine (size_c b _ b0 b1).mono ?_); rintro e w1 ⟨rfl, hg⟩) | (go_at_call 123; (with_reducible refine (mul64_small _ _ p _ hx hy HP.out hp2).mono ?_); rintro e w1 ⟨rfl, hg⟩))
    go_ret2
    exact ⟨ret2 E.out rfl, (by repeat (first | exact Gr.refl _ | refine Gr.setCell ?_ _ _ (by first | exact Nat.le_refl _ | (simp; omega) | (simp; done)) | refine Gr.grown ?_ _ _ | refine Gr.drewN ?_ _ | refine Gr.drew ?_ | refine Gr.alloc ?_ _ | refine Gr.grow ?_ _ | (refine Gr.trans ?_ (by assumption))))⟩

end Go.Proofs.YtegkbjpcgelomaaGreatDoor.Walks
end
/- The calendar in plain numbers: no program in sight. -/
section
namespace Go.Proofs.YtegkbjpcgelomaaGreatDoor.Math
open Go Go.RowKit Go.Proofs.YtegkbjpcgelomaaGreatDoor.Plain

/-- Is a year a leap year? -/
def lp (y : Int) : Bool := decide ((7 * y + 1) % 19 < 7)
/-- The months ahead of a year. -/
def bf (y : Int) : Int := (235 * y - 234) / 19
/-- Is a year reckoned? -/
def yr (y : Int) : Bool := decide (0 ≤ y ∧ y ≤ 10001)
def yE (y : Int) : Int := if yr y = true then 0 else 2
def lpN (y : Int) : Bool := yr y && lp y
def ml (y : Int) : Int := if lp y = true then 13 else 12
def inN (y : Int) : Int := if yr y = true then ml y else 0
def bfN (y : Int) : Int := if yr y = true then bf y else 0

theorem yr_in {y : Int} (h0 : 0 ≤ y) (h1 : y ≤ 10001) : yr y = true := decide_eq_true ⟨h0, h1⟩
theorem yr_out {y : Int} (h : y < 0 ∨ 10001 < y) : yr y = false := decide_eq_false (by omega)
theorem yE_in {y : Int} (h0 : 0 ≤ y) (h1 : y ≤ 10001) : yE y = 0 := by unfold yE; rw [yr_in h0 h1, if_pos rfl]
theorem yE_out {y : Int} (h : y < 0 ∨ 10001 < y) : yE y = 2 := by unfold yE; rw [yr_out h, if_neg (by decide)]
theorem lpN_in {y : Int} (h0 : 0 ≤ y) (h1 : y ≤ 10001) : lpN y = lp y := by unfold lpN; rw [yr_in h0 h1, Bool.true_and]
theorem lpN_out {y : Int} (h : y < 0 ∨ 10001 < y) : lpN y = false := by unfold lpN; rw [yr_out h, Bool.false_and]
theorem inN_in {y : Int} (h0 : 0 ≤ y) (h1 : y ≤ 10001) : inN y = ml y := by unfold inN; rw [yr_in h0 h1, if_pos rfl]
theorem inN_out {y : Int} (h : y < 0 ∨ 10001 < y) : inN y = 0 := by unfold inN; rw [yr_out h, if_neg (by decide)]
theorem bfN_in {y : Int} (h0 : 0 ≤ y) (h1 : y ≤ 10001) : bfN y = bf y := by unfold bfN; rw [yr_in h0 h1, if_pos rfl]
theorem bfN_out {y : Int} (h : y < 0 ∨ 10001 < y) : bfN y = 0 := by unfold bfN; rw [yr_out h, if_neg (by decide)]
theorem ml_range (y : Int) : 12 ≤ ml y ∧ ml y ≤ 13 := by unfold ml; split <;> omega
theorem bf_range {y : Int} (h0 : 0 ≤ y) (h1 : y ≤ 10001) : -13 ≤ bf y ∧ bf y ≤ 123688 := by unfold bf; omega

/-- The moment of the new moon number n. -/
def moD (n : Int) : Int := (5604 + 765433 * n) / 25920 - 1373427
def moP (n : Int) : Int := (5604 + 765433 * n) % 25920
theorem moD_range {n : Int} (h0 : -200000 ≤ n) (h1 : n ≤ 200000) : -7300000 ≤ moD n ∧ moD n ≤ 4540000 := by unfold moD; omega

/-- May no year begin on a weekday? -/
def bad (w : Int) : Bool := w == 0 || w == 3 || w == 5
/-- Is a moment late? -/
def late (d p : Int) (leap after : Bool) : Bool := decide (19440 ≤ p) || (d % 7 == 2 && decide (9924 ≤ p) && !leap) || (d % 7 == 1 && decide (16789 ≤ p) && after)
/-- By how many days a year is put off. -/
def dly (d p : Int) (leap after : Bool) : Int := if late d p leap after = true then (if bad ((d + 1) % 7) = true then 2 else 1) else if bad (d % 7) = true then 1 else 0
theorem dly_range (d p : Int) (leap after : Bool) : 0 ≤ dly d p leap after ∧ dly d p leap after ≤ 2 := by unfold dly; split <;> split <;> omega
/-- A year's first day. -/
def fy (y : Int) : Int := moD (bf y) + dly (moD (bf y)) (moP (bf y)) (lp y) (lp (y - 1))
def fyN (y : Int) : Int := if yr y = true then fy y else 0
theorem fyN_in {y : Int} (h0 : 0 ≤ y) (h1 : y ≤ 10001) : fyN y = fy y := by unfold fyN; rw [yr_in h0 h1, if_pos rfl]
theorem fyN_out {y : Int} (h : y < 0 ∨ 10001 < y) : fyN y = 0 := by unfold fyN; rw [yr_out h, if_neg (by decide)]

end Go.Proofs.YtegkbjpcgelomaaGreatDoor.Math
end
/- Walks of package cycle and of its reference. -/
section
namespace Go.Proofs.YtegkbjpcgelomaaGreatDoor.Walks
open Go Go.RowKit Go.Sort Go.Proofs.YtegkbjpcgelomaaGreatDoor.Base Go.Proofs.YtegkbjpcgelomaaGreatDoor.Plain Go.Proofs.YtegkbjpcgelomaaGreatDoor.Math

theorem check_c (y : Int) (w : World) : Calls Tryq.prog 43 #[.int .i64 y] w fun e w' => e = .returned (.int .i64 (yE y)) ∧ Gr w w' := by
  by_cases h : y < 0
  · have E := Lib.hid (yE_out (y := y) (Or.inl h))
    go_enter Tryq.func43, Tryq.ntmps43
    go_wp2
    go_ret
    exact ⟨ret1 E.out.symm, (by repeat (first | exact Gr.refl _ | refine Gr.setCell ?_ _ _ (by first | exact Nat.le_refl _ | (simp; omega) | (simp; done)) | refine Gr.grown ?_ _ _ | refine Gr.drewN ?_ _ | refine Gr.drew ?_ | refine Gr.alloc ?_ _ | refine Gr.grow ?_ _ | (refine Gr.trans ?_ (by assumption))))⟩
  · by_cases g : 10001 < y
    · have E := Lib.hid (yE_out (y := y) (Or.inr g))
      go_enter Tryq.func43, Tryq.ntmps43
      go_wp2
      go_ret
      exact ⟨ret1 E.out.symm, (by repeat (first | exact Gr.refl _ | refine Gr.setCell ?_ _ _ (by first | exact Nat.le_refl _ | (simp; omega) | (simp; done)) | refine Gr.grown ?_ _ _ | refine Gr.drewN ?_ _ | refine Gr.drew ?_ | refine Gr.alloc ?_ _ | refine Gr.grow ?_ _ | (refine Gr.trans ?_ (by assumption))))⟩
    · have E := Lib.hid (yE_in (y := y) (by omega) (by omega))
      go_enter Tryq.func43, Tryq.ntmps43
      go_wp2
      go_ret
      exact ⟨ret1 E.out.symm, (by repeat (first | exact Gr.refl _ | refine Gr.setCell ?_ _ _ (by first | exact Nat.le_refl _ | (simp; omega) | (simp; done)) | refine Gr.grown ?_ _ _ | refine Gr.drewN ?_ _ | refine Gr.drew ?_ | refine Gr.alloc ?_ _ | refine Gr.grow ?_ _ | (refine Gr.trans ?_ (by assumption))))⟩

theorem leap_cases (y : Int) : y % 19 = 0 ∨ y % 19 = 1 ∨ y % 19 = 2 ∨ y % 19 = 3 ∨ y % 19 = 4 ∨ y % 19 = 5 ∨ y % 19 = 6 ∨ y % 19 = 7 ∨ y % 19 = 8 ∨ y % 19 = 9 ∨ y % 19 = 10 ∨ y % 19 = 11 ∨ y % 19 = 12 ∨ y % 19 = 13 ∨ y % 19 = 14 ∨ y % 19 = 15 ∨ y % 19 = 16 ∨ y % 19 = 17 ∨ y % 19 = 18 := by omega
theorem lp_is {y : Int} (h : y % 19 = 0 ∨ y % 19 = 3 ∨ y % 19 = 6 ∨ y % 19 = 8 ∨ y % 19 = 11 ∨ y % 19 = 14 ∨ y % 19 = 17) : lp y = true := by
  unfold lp
  have e : (7 * y + 1) % 19 = (7 * (y % 19) + 1) % 19 := by omega
  rw [e]
  generalize y % 19 = r at h
  rcases h with rfl | rfl | rfl | rfl | rfl | rfl | rfl <;> decide
theorem lp_not {y : Int} (h0 : y % 19 ≠ 0) (h1 : y % 19 ≠ 3) (h2 : y % 19 ≠ 6) (h3 : y % 19 ≠ 8) (h4 : y % 19 ≠ 11) (h5 : y % 19 ≠ 14) (h6 : y % 19 ≠ 17) : lp y = false := by
  unfold lp
  have e : (7 * y + 1) % 19 = (7 * (y % 19) + 1) % 19 := by omega
  rw [e]
  have := leap_cases y
  generalize y % 19 = r at *
  rcases this with rfl | rfl | rfl | rfl | rfl | rfl | rfl | rfl | rfl | rfl | rfl | rfl | rfl | rfl | rfl | rfl | rfl | rfl | rfl <;> first | decide | omega

set_option maxHeartbeats 1000000 in
theorem leap_in (y : Int) (w : World) (h0 : 0 ≤ y) (h1 : y ≤ 10001) : Calls Tryq.prog 18 #[.int .i64 y] w fun e w' => e = .returned (.tuple #[.bool (lp y), .int .i64 0]) ∧ Gr w w' := by
  have e0 := yE_in h0 h1
  go_enter Tryq.func18, Tryq.ntmps18
  go_wp2_with (go_at_call 43; (with_reducible refine (check_c y _).mono ?_); rintro e w1 ⟨rfl, hg⟩)
  all_goals go_ret2
  all_goals (refine ⟨?_, (by repeat (first | exact Gr.refl _ | refine Gr.setCell ?_ _ _ (by first | exact Nat.le_refl _ | (simp; omega) | (simp; done)) | refine Gr.grown ?_ _ _ | refine Gr.drewN ?_ _ | refine Gr.drew ?_ | refine Gr.alloc ?_ _ | refine Gr.grow ?_ _ | (refine Gr.trans ?_ (by assumption))))⟩; simp only [beq_iff_eq, beq_eq_false_iff_ne] at *; exact retb2 (by first | exact (lp_is (by omega)).symm | exact (lp_not (by omega) (by omega) (by omega) (by omega) (by omega) (by omega) (by omega)).symm) rfl)
theorem leap_out (y : Int) (w : World) (h : y < 0 ∨ 10001 < y) : Calls Tryq.prog 18 #[.int .i64 y] w fun e w' => e = .returned (.tuple #[.bool false, .int .i64 2]) ∧ Gr w w' := by
  have e0 := yE_out h
  clear h
  go_enter Tryq.func18, Tryq.ntmps18
  go_wp2_with (go_at_call 43; (with_reducible refine (check_c y _).mono ?_); rintro e w1 ⟨rfl, hg⟩)
  go_ret2
  exact ⟨rfl, (by repeat (first | exact Gr.refl _ | refine Gr.setCell ?_ _ _ (by first | exact Nat.le_refl _ | (simp; omega) | (simp; done)) | refine Gr.grown ?_ _ _ | refine Gr.drewN ?_ _ | refine Gr.drew ?_ | refine Gr.alloc ?_ _ | refine Gr.grow ?_ _ | (refine Gr.trans ?_ (by assumption))))⟩
theorem leap_c (y : Int) (w : World) : Calls Tryq.prog 18 #[.int .i64 y] w fun e w' => e = .returned (.tuple #[.bool (lpN y), .int .i64 (yE y)]) ∧ Gr w w' := by
  by_cases h : 0 ≤ y ∧ y ≤ 10001
  · rw [lpN_in h.1 h.2, yE_in h.1 h.2]; exact leap_in y w h.1 h.2
  · rw [lpN_out (by omega), yE_out (by omega)]; exact leap_out y w (by omega)

theorem in_c (y : Int) (w : World) : Calls Tryq.prog 36 #[.int .i64 y] w fun e w' => e = .returned (.tuple #[.int .i64 (inN y), .int .i64 (yE y)]) ∧ Gr w w' := by
  by_cases h : 0 ≤ y ∧ y ≤ 10001
  · obtain ⟨h0, h1⟩ := h
    rw [inN_in h0 h1, yE_in h0 h1]
    unfold ml
    cases hl : lp y
    · go_enter Tryq.func36, Tryq.ntmps36
      go_wp2_with (go_at_call 18; (with_reducible refine (leap_in y _ h0 h1).mono ?_); rintro e w1 ⟨rfl, hg⟩)
      go_ret2
      exact ⟨rfl, (by repeat (first | exact Gr.refl _ | refine Gr.setCell ?_ _ _ (by first | exact Nat.le_refl _ | (simp; omega) | (simp; done)) | refine Gr.grown ?_ _ _ | refine Gr.drewN ?_ _ | refine Gr.drew ?_ | refine Gr.alloc ?_ _ | refine Gr.grow ?_ _ | (refine Gr.trans ?_ (by assumption))))⟩
    · go_enter Tryq.func36, Tryq.ntmps36
      go_wp2_with (go_at_call 18; (with_reducible refine (leap_in y _ h0 h1).mono ?_); rintro e w1 ⟨rfl, hg⟩)
      go_ret2
      exact ⟨rfl, (by repeat (first | exact Gr.refl _ | refine Gr.setCell ?_ _ _ (by first | exact Nat.le_refl _ | (simp; omega) | (simp; done)) | refine Gr.grown ?_ _ _ | refine Gr.drewN ?_ _ | refine Gr.drew ?_ | refine Gr.alloc ?_ _ | refine Gr.grow ?_ _ | (refine Gr.trans ?_ (by assumption))))⟩
  · have h' : y < 0 ∨ 10001 < y := by omega
    rw [inN_out h', yE_out h']
    clear h
    have H := Lib.hid h'
    clear h'
    go_enter Tryq.func36, Tryq.ntmps36
    go_wp2_with (go_at_call 18; (with_reducible refine (leap_out y _ H.out).mono ?_); rintro e w1 ⟨rfl, hg⟩)
    go_ret2
    exact ⟨rfl, (by repeat (first | exact Gr.refl _ | refine Gr.setCell ?_ _ _ (by first | exact Nat.le_refl _ | (simp; omega) | (simp; done)) | refine Gr.grown ?_ _ _ | refine Gr.drewN ?_ _ | refine Gr.drew ?_ | refine Gr.alloc ?_ _ | refine Gr.grow ?_ _ | (refine Gr.trans ?_ (by assumption))))⟩

theorem before_c (y : Int) (w : World) : Calls Tryq.prog 37 #[.int .i64 y] w fun e w' => e = .returned (.tuple #[.int .i64 (bfN y), .int .i64 (yE y)]) ∧ Gr w w' := by
  by_cases h : 0 ≤ y ∧ y ≤ 10001
  · obtain ⟨h0, h1⟩ := h
    have e0 := yE_in h0 h1
    have E : RowKit.Hid ((235 * (y - 1) + 1) / 19 = bfN y) := Lib.hid (by rw [bfN_in h0 h1]; unfold bf; omega)
    rw [e0]
    go_enter Tryq.func37, Tryq.ntmps37
    go_wp2_with (first | (go_at_call 43; (with_reducible refine (check_c y _).mono ?_); rintro e w1 ⟨rfl, hg⟩) | (go_at_call 73; (with_reducible refine (div_c _ 19 _ (by omega) (by omega) (by omega) (by omega)).mono ?_); rintro e w1 ⟨rfl, hg⟩))
    go_ret2
    exact ⟨ret2 E.out rfl, (by repeat (first | exact Gr.refl _ | refine Gr.setCell ?_ _ _ (by first | exact Nat.le_refl _ | (simp; omega) | (simp; done)) | refine Gr.grown ?_ _ _ | refine Gr.drewN ?_ _ | refine Gr.drew ?_ | refine Gr.alloc ?_ _ | refine Gr.grow ?_ _ | (refine Gr.trans ?_ (by assumption))))⟩
  · have h' : y < 0 ∨ 10001 < y := by omega
    have e0 := yE_out h'
    rw [bfN_out h', e0]
    clear h h'
    go_enter Tryq.func37, Tryq.ntmps37
    go_wp2_with (go_at_call 43; (with_reducible refine (check_c y _).mono ?_); rintro e w1 ⟨rfl, hg⟩)
    go_ret2
    exact ⟨rfl, (by repeat (first | exact Gr.refl _ | refine Gr.setCell ?_ _ _ (by first | exact Nat.le_refl _ | (simp; omega) | (simp; done)) | refine Gr.grown ?_ _ _ | refine Gr.drewN ?_ _ | refine Gr.drew ?_ | refine Gr.alloc ?_ _ | refine Gr.grow ?_ _ | (refine Gr.trans ?_ (by assumption))))⟩

/-! ### the reference -/

end Go.Proofs.YtegkbjpcgelomaaGreatDoor.Walks
end
/- Walks of package molad, of what it uses of package halak, and of their references. -/
section
namespace Go.Proofs.YtegkbjpcgelomaaGreatDoor.Walks
open Go Go.RowKit Go.Sort Go.Proofs.YtegkbjpcgelomaaGreatDoor.Base Go.Proofs.YtegkbjpcgelomaaGreatDoor.Plain Go.Proofs.YtegkbjpcgelomaaGreatDoor.Math

theorem wd_c (d : Int) (w : World) (h0 : -9223372036854775808 ≤ d) (h1 : d ≤ 9223372036854775807) : Calls Tryq.prog 19 #[.int .i64 d] w fun e w' => e = .returned (.int .i64 (d % 7)) ∧ Gr w w' := by
  go_enter Tryq.func19, Tryq.ntmps19
  go_wp2_with (go_at_call 44; (with_reducible refine (mod_c d 7 _ (by omega) h0 h1 (by omega)).mono ?_); rintro e w1 ⟨rfl, hg⟩)
  go_ret
  exact ⟨rfl, (by repeat (first | exact Gr.refl _ | refine Gr.setCell ?_ _ _ (by first | exact Nat.le_refl _ | (simp; omega) | (simp; done)) | refine Gr.grown ?_ _ _ | refine Gr.drewN ?_ _ | refine Gr.drew ?_ | refine Gr.alloc ?_ _ | refine Gr.grow ?_ _ | (refine Gr.trans ?_ (by assumption))))⟩
theorem split_c (n : Int) (w : World) (h0 : -9223372036854775808 ≤ n) (h1 : n ≤ 9223372036854775807) : Calls Tryq.prog 75 #[.int .i64 n] w fun e w' => e = .returned (.agg #[.int .i64 (n / 25920), .int .i64 (n % 25920)]) ∧ Gr w w' := by
  go_enter Tryq.func75, Tryq.ntmps75
  go_wp2_with (first | (go_at_call 73; (with_reducible refine (div_c n 25920 _ (by omega) h0 h1 (by omega)).mono ?_); rintro e w1 ⟨rfl, hg⟩; obtain ⟨hcl, hfz, hsz⟩ := gcell hg; clear hsz; have hz0 : w.heap.size < w1.heap.size := (by have hq := hg.size; (try simp at hq); omega)) | (go_at_call 44; (with_reducible refine (mod_c n 25920 _ (by omega) h0 h1 (by omega)).mono ?_); rintro e w1 ⟨rfl, hg⟩; obtain ⟨hcl, hfz, hsz⟩ := gcell hg; clear hsz; have hz0 : w.heap.size < w1.heap.size := (by have hq := hg.size; (try simp at hq); omega)))
  exact bodyPost_ret (v := .agg #[.int .i64 (n / 25920), .int .i64 (n % 25920)]) (by simp [results, Tryz.results75, go_sem, *]) rfl ⟨rfl, (by repeat (first | exact Gr.refl _ | refine Gr.setCell ?_ _ _ (by first | exact Nat.le_refl _ | (simp; omega) | (simp; done)) | refine Gr.grown ?_ _ _ | refine Gr.drewN ?_ _ | refine Gr.drew ?_ | refine Gr.alloc ?_ _ | refine Gr.grow ?_ _ | (refine Gr.trans ?_ (by assumption))))⟩

theorem moons_c (n : Int) (w : World) (h0 : -200000 ≤ n) (h1 : n ≤ 200000) : Calls Tryq.prog 74 #[.int .i64 n] w fun e w' => e = .returned (.tuple #[.int .i64 (n * 765433), .int .i64 0]) ∧ Gr w w' := by
  go_enter Tryq.func74, Tryq.ntmps74
  go_wp2_with (go_at_call 107; (with_reducible refine (mul_c n 765433 _ (by omega) (by omega) (by omega) (by omega) (by omega) (by omega)).mono ?_); rintro e w1 ⟨rfl, hg⟩)
  go_ret2
  exact ⟨rfl, (by repeat (first | exact Gr.refl _ | refine Gr.setCell ?_ _ _ (by first | exact Nat.le_refl _ | (simp; omega) | (simp; done)) | refine Gr.grown ?_ _ _ | refine Gr.drewN ?_ _ | refine Gr.drew ?_ | refine Gr.alloc ?_ _ | refine Gr.grow ?_ _ | (refine Gr.trans ?_ (by assumption))))⟩

theorem moon_in (n : Int) (w : World) (h0 : -200000 ≤ n) (h1 : n ≤ 200000) : Calls Tryq.prog 38 #[.int .i64 n] w fun e w' => e = .returned (.tuple #[.agg #[.int .i64 (moD n), .int .i64 (moP n)], .int .i64 0]) ∧ Gr w w' := by
  have e1 : (n * 765433 + 5604) / 25920 + -1373427 = moD n := by unfold moD; omega
  have e2 : (n * 765433 + 5604) % 25920 = moP n := by unfold moP; omega
  have r := moD_range h0 h1
  go_enter Tryq.func38, Tryq.ntmps38
  go_wp2_with (first | (go_at_call 74; (with_reducible refine (moons_c n _ h0 h1).mono ?_); rintro e w1 ⟨rfl, hg⟩; obtain ⟨hcl, hfz, hsz⟩ := gcell hg; clear hsz; have hz0 : w.heap.size < w1.heap.size := (by have hq := hg.size; (try simp at hq); omega)) | (go_at_call 75; (with_reducible refine (split_c _ _ (by omega) (by omega)).mono ?_); rintro e w1 ⟨rfl, hg⟩; obtain ⟨hcl, hfz, hsz⟩ := gcell hg; clear hsz; have hz0 : w.heap.size < w1.heap.size := (by have hq := hg.size; (try simp at hq); omega)))
  exact bodyPost_ret (v := .tuple #[.agg #[.int .i64 (moD n), .int .i64 (moP n)], .int .i64 0]) (by simp [results, Tryz.results38, go_sem, *]) rfl ⟨rfl, (by repeat (first | exact Gr.refl _ | refine Gr.setCell ?_ _ _ (by first | exact Nat.le_refl _ | (simp; omega) | (simp; done)) | refine Gr.grown ?_ _ _ | refine Gr.drewN ?_ _ | refine Gr.drew ?_ | refine Gr.alloc ?_ _ | refine Gr.grow ?_ _ | (refine Gr.trans ?_ (by assumption))))⟩

theorem of_in (y m : Int) (w : World) (h0 : 0 ≤ y) (h1 : y ≤ 10001) (m0 : 1 ≤ m) (m1 : m ≤ ml y) : Calls Tryq.prog 10 #[.int .i64 y, .int .i64 m] w fun e w' => e = .returned (.tuple #[.agg #[.int .i64 (moD (bf y + m - 1)), .int .i64 (moP (bf y + m - 1))], .int .i64 0]) ∧ Gr w w' := by
  have r := bf_range h0 h1
  have r2 := ml_range y
  have e0 := yE_in h0 h1
  have e1 := inN_in h0 h1
  have e2 := bfN_in h0 h1
  go_enter Tryq.func10, Tryq.ntmps10
  go_wp2_with (first | (go_at_call 36; (with_reducible refine (in_c y _).mono ?_); rintro e w1 ⟨rfl, hg⟩; obtain ⟨hcl, hfz, hsz⟩ := gcell hg; clear hsz; have hz0 : w.heap.size < w1.heap.size := (by have hq := hg.size; (try simp at hq); omega)) | (go_at_call 37; (with_reducible refine (before_c y _).mono ?_); rintro e w1 ⟨rfl, hg⟩; obtain ⟨hcl, hfz, hsz⟩ := gcell hg; clear hsz; have hz0 : w.heap.size < w1.heap.size := (by have hq := hg.size; (try simp at hq); omega)) | (go_at_call 38; (with_reducible refine (moon_in _ _ (by omega) (by omega)).mono ?_); rintro e w1 ⟨rfl, hg⟩; obtain ⟨hcl, hfz, hsz⟩ := gcell hg; clear hsz; have hz0 : w.heap.size < w1.heap.size := (by have hq := hg.size; (try simp at hq); omega)))
  exact bodyPost_ret (v := .tuple #[.agg #[.int .i64 (moD (bf y + m - 1)), .int .i64 (moP (bf y + m - 1))], .int .i64 0]) (by simp [results, Tryz.results10, go_sem, *]) rfl ⟨rfl, (by repeat (first | exact Gr.refl _ | refine Gr.setCell ?_ _ _ (by first | exact Nat.le_refl _ | (simp; omega) | (simp; done)) | refine Gr.grown ?_ _ _ | refine Gr.drewN ?_ _ | refine Gr.drew ?_ | refine Gr.alloc ?_ _ | refine Gr.grow ?_ _ | (refine Gr.trans ?_ (by assumption))))⟩
theorem of_y (y m : Int) (w : World) (h : y < 0 ∨ 10001 < y) : Calls Tryq.prog 10 #[.int .i64 y, .int .i64 m] w fun e w' => e = .returned (.tuple #[.agg #[.int .i64 0, .int .i64 0], .int .i64 2]) ∧ Gr w w' := by
  have e0 := yE_out h
  clear h
  go_enter Tryq.func10, Tryq.ntmps10
  go_wp2_with (first | (go_at_call 36; (with_reducible refine (in_c y _).mono ?_); rintro e w1 ⟨rfl, hg⟩; obtain ⟨hcl, hfz, hsz⟩ := gcell hg; clear hsz; have hz0 : w.heap.size < w1.heap.size := (by have hq := hg.size; (try simp at hq); omega)))
  exact bodyPost_ret (v := .tuple #[.agg #[.int .i64 0, .int .i64 0], .int .i64 2]) (by simp [results, Tryz.results10, go_sem, *]) rfl ⟨rfl, (by repeat (first | exact Gr.refl _ | refine Gr.setCell ?_ _ _ (by first | exact Nat.le_refl _ | (simp; omega) | (simp; done)) | refine Gr.grown ?_ _ _ | refine Gr.drewN ?_ _ | refine Gr.drew ?_ | refine Gr.alloc ?_ _ | refine Gr.grow ?_ _ | (refine Gr.trans ?_ (by assumption))))⟩

/-! ### the references -/

end Go.Proofs.YtegkbjpcgelomaaGreatDoor.Walks
end
/- Walks of package newyear and of its reference. -/
section
namespace Go.Proofs.YtegkbjpcgelomaaGreatDoor.Walks
open Go Go.RowKit Go.Sort Go.Proofs.YtegkbjpcgelomaaGreatDoor.Base Go.Proofs.YtegkbjpcgelomaaGreatDoor.Plain Go.Proofs.YtegkbjpcgelomaaGreatDoor.Math

theorem dly_late {d p : Int} {leap after : Bool} (h : late d p leap after = true) : dly d p leap after = if bad ((d + 1) % 7) = true then 2 else 1 := by unfold dly; rw [if_pos h]
theorem dly_not {d p : Int} {leap after : Bool} (h : late d p leap after = false) : dly d p leap after = if bad (d % 7) = true then 1 else 0 := by unfold dly; rw [if_neg (by rw [h]; decide)]

theorem bad_c (v : Int) (w : World) : Calls Tryq.prog 83 #[.int .i64 v] w fun e w' => e = .returned (.bool (bad v)) ∧ Gr w w' := by
  by_cases h0 : v = 0
  · subst h0
    go_enter Tryq.func83, Tryq.ntmps83
    go_wp2
    go_ret
    exact ⟨rfl, (by repeat (first | exact Gr.refl _ | refine Gr.setCell ?_ _ _ (by first | exact Nat.le_refl _ | (simp; omega) | (simp; done)) | refine Gr.grown ?_ _ _ | refine Gr.drewN ?_ _ | refine Gr.drew ?_ | refine Gr.alloc ?_ _ | refine Gr.grow ?_ _ | (refine Gr.trans ?_ (by assumption))))⟩
  by_cases h3 : v = 3
  · subst h3
    go_enter Tryq.func83, Tryq.ntmps83
    go_wp2
    go_ret
    exact ⟨rfl, (by repeat (first | exact Gr.refl _ | refine Gr.setCell ?_ _ _ (by first | exact Nat.le_refl _ | (simp; omega) | (simp; done)) | refine Gr.grown ?_ _ _ | refine Gr.drewN ?_ _ | refine Gr.drew ?_ | refine Gr.alloc ?_ _ | refine Gr.grow ?_ _ | (refine Gr.trans ?_ (by assumption))))⟩
  by_cases h5 : v = 5
  · subst h5
    go_enter Tryq.func83, Tryq.ntmps83
    go_wp2
    go_ret
    exact ⟨rfl, (by repeat (first | exact Gr.refl _ | refine Gr.setCell ?_ _ _ (by first | exact Nat.le_refl _ | (simp; omega) | (simp; done)) | refine Gr.grown ?_ _ _ | refine Gr.drewN ?_ _ | refine Gr.drew ?_ | refine Gr.alloc ?_ _ | refine Gr.grow ?_ _ | (refine Gr.trans ?_ (by assumption))))⟩
  have e0 : (v == 0) = false := beq_eq_false_iff_ne.2 h0
  have e3 : (v == 3) = false := beq_eq_false_iff_ne.2 h3
  have e5 : (v == 5) = false := beq_eq_false_iff_ne.2 h5
  have E : RowKit.Hid (false = bad v) := Lib.hid (by unfold bad; rw [e0, e3, e5]; rfl)
  clear h0 h3 h5
  go_enter Tryq.func83, Tryq.ntmps83
  go_wp2
  go_ret
  exact ⟨retb E.out, (by repeat (first | exact Gr.refl _ | refine Gr.setCell ?_ _ _ (by first | exact Nat.le_refl _ | (simp; omega) | (simp; done)) | refine Gr.grown ?_ _ _ | refine Gr.drewN ?_ _ | refine Gr.drew ?_ | refine Gr.alloc ?_ _ | refine Gr.grow ?_ _ | (refine Gr.trans ?_ (by assumption))))⟩

set_option maxHeartbeats 4000000 in
theorem delay_c (d p : Int) (leap after : Bool) (w : World) (d0 : -9223372036854775808 ≤ d) (d1 : d ≤ 9223372036854775807) :
    Calls Tryq.prog 41 #[.agg #[.int .i64 d, .int .i64 p], .bool leap, .bool after] w fun e w' => e = .returned (.int .i64 (dly d p leap after)) ∧ Gr w w' := by
  by_cases p1 : 19440 ≤ p
  · have E := Lib.hid (dly_late (d := d) (p := p) (leap := leap) (after := after) (by unfold late; rw [decide_eq_true p1]; rfl))
    cases hb : bad ((d + 1) % 7)
    · have HB := Lib.hid hb
      go_enter Tryq.func41, Tryq.ntmps41
      go_wp2_with (first | (go_at_call 19; (with_reducible refine (wd_c d _ (by omega) (by omega)).mono ?_); rintro e w1 ⟨rfl, hg⟩; obtain ⟨hcl, hfz, hsz⟩ := gcell hg; clear hsz; have hz0 : w.heap.size < w1.heap.size := (by have hq := hg.size; (try simp at hq); omega)) | (go_at_call 83; (with_reducible refine (bad_c _ _).mono ?_); rintro e w1 ⟨rfl, hg⟩; obtain ⟨hcl, hfz, hsz⟩ := gcell hg; clear hsz; have hz0 : w.heap.size < w1.heap.size := (by have hq := hg.size; (try simp at hq); omega)))
      go_ret
      exact ⟨ret1 (by rw [E.out, HB.out]; rfl), (by repeat (first | exact Gr.refl _ | refine Gr.setCell ?_ _ _ (by first | exact Nat.le_refl _ | (simp; omega) | (simp; done)) | refine Gr.grown ?_ _ _ | refine Gr.drewN ?_ _ | refine Gr.drew ?_ | refine Gr.alloc ?_ _ | refine Gr.grow ?_ _ | (refine Gr.trans ?_ (by assumption))))⟩
    · have HB := Lib.hid hb
      go_enter Tryq.func41, Tryq.ntmps41
      go_wp2_with (first | (go_at_call 19; (with_reducible refine (wd_c d _ (by omega) (by omega)).mono ?_); rintro e w1 ⟨rfl, hg⟩; obtain ⟨hcl, hfz, hsz⟩ := gcell hg; clear hsz; have hz0 : w.heap.size < w1.heap.size := (by have hq := hg.size; (try simp at hq); omega)) | (go_at_call 83; (with_reducible refine (bad_c _ _).mono ?_); rintro e w1 ⟨rfl, hg⟩; obtain ⟨hcl, hfz, hsz⟩ := gcell hg; clear hsz; have hz0 : w.heap.size < w1.heap.size := (by have hq := hg.size; (try simp at hq); omega)))
      go_ret
      exact ⟨ret1 (by rw [E.out, HB.out]; rfl), (by repeat (first | exact Gr.refl _ | refine Gr.setCell ?_ _ _ (by first | exact Nat.le_refl _ | (simp; omega) | (simp; done)) | refine Gr.grown ?_ _ _ | refine Gr.drewN ?_ _ | refine Gr.drew ?_ | refine Gr.alloc ?_ _ | refine Gr.grow ?_ _ | (refine Gr.trans ?_ (by assumption))))⟩
  by_cases v2 : d % 7 = 2
  · have b2 : (d % 7 == 2) = true := beq_iff_eq.2 v2
    have b1 : (d % 7 == 1) = false := beq_eq_false_iff_ne.2 (by omega)
    have V : RowKit.Hid (d % 7 = 2) := Lib.hid v2
    clear v2
    by_cases p2 : 9924 ≤ p
    · cases leap
      · have E := Lib.hid (dly_late (d := d) (p := p) (leap := false) (after := after) (by unfold late; rw [decide_eq_false p1, decide_eq_true p2, b2]; rfl))
        have g0 : ((d + 1) % 7 == 0) = false := beq_eq_false_iff_ne.2 (by have := V.out; omega)
        have g3 : ((d + 1) % 7 == 3) = true := beq_iff_eq.2 (by have := V.out; omega)
        have HB : RowKit.Hid (bad ((d + 1) % 7) = true) := Lib.hid (by unfold bad; rw [g0, g3]; rfl)
        have gb := HB.out
        clear g0 g3
        clear V
        go_enter Tryq.func41, Tryq.ntmps41
        go_wp2_with (first | (go_at_call 19; (with_reducible refine (wd_c d _ (by omega) (by omega)).mono ?_); rintro e w1 ⟨rfl, hg⟩; obtain ⟨hcl, hfz, hsz⟩ := gcell hg; clear hsz; have hz0 : w.heap.size < w1.heap.size := (by have hq := hg.size; (try simp at hq); omega)) | (go_at_call 83; (with_reducible refine (bad_c _ _).mono ?_); rintro e w1 ⟨rfl, hg⟩; obtain ⟨hcl, hfz, hsz⟩ := gcell hg; clear hsz; have hz0 : w.heap.size < w1.heap.size := (by have hq := hg.size; (try simp at hq); omega)))
        all_goals go_ret
        all_goals exact ⟨ret1 (by rw [E.out, HB.out]; rfl), (by repeat (first | exact Gr.refl _ | refine Gr.setCell ?_ _ _ (by first | exact Nat.le_refl _ | (simp; omega) | (simp; done)) | refine Gr.grown ?_ _ _ | refine Gr.drewN ?_ _ | refine Gr.drew ?_ | refine Gr.alloc ?_ _ | refine Gr.grow ?_ _ | (refine Gr.trans ?_ (by assumption))))⟩
      · have E := Lib.hid (dly_not (d := d) (p := p) (leap := true) (after := after) (by unfold late; rw [decide_eq_false p1, decide_eq_true p2, b2, b1]; rfl))
        have g0 : (d % 7 == 0) = false := beq_eq_false_iff_ne.2 (by have := V.out; omega)
        have g3 : (d % 7 == 3) = false := beq_eq_false_iff_ne.2 (by have := V.out; omega)
        have g5 : (d % 7 == 5) = false := beq_eq_false_iff_ne.2 (by have := V.out; omega)
        have HB : RowKit.Hid (bad (d % 7) = false) := Lib.hid (by unfold bad; rw [g0, g3, g5]; rfl)
        have gb := HB.out
        clear g0 g3 g5
        clear V
        go_enter Tryq.func41, Tryq.ntmps41
        go_wp2_with (first | (go_at_call 19; (with_reducible refine (wd_c d _ (by omega) (by omega)).mono ?_); rintro e w1 ⟨rfl, hg⟩; obtain ⟨hcl, hfz, hsz⟩ := gcell hg; clear hsz; have hz0 : w.heap.size < w1.heap.size := (by have hq := hg.size; (try simp at hq); omega)) | (go_at_call 83; (with_reducible refine (bad_c _ _).mono ?_); rintro e w1 ⟨rfl, hg⟩; obtain ⟨hcl, hfz, hsz⟩ := gcell hg; clear hsz; have hz0 : w.heap.size < w1.heap.size := (by have hq := hg.size; (try simp at hq); omega)))
        all_goals go_ret
        all_goals exact ⟨ret1 (by rw [E.out, HB.out]; rfl), (by repeat (first | exact Gr.refl _ | refine Gr.setCell ?_ _ _ (by first | exact Nat.le_refl _ | (simp; omega) | (simp; done)) | refine Gr.grown ?_ _ _ | refine Gr.drewN ?_ _ | refine Gr.drew ?_ | refine Gr.alloc ?_ _ | refine Gr.grow ?_ _ | (refine Gr.trans ?_ (by assumption))))⟩
    · have E := Lib.hid (dly_not (d := d) (p := p) (leap := leap) (after := after) (by unfold late; rw [decide_eq_false p1, decide_eq_false p2, b2, b1]; rfl))
      have g0 : (d % 7 == 0) = false := beq_eq_false_iff_ne.2 (by have := V.out; omega)
      have g3 : (d % 7 == 3) = false := beq_eq_false_iff_ne.2 (by have := V.out; omega)
      have g5 : (d % 7 == 5) = false := beq_eq_false_iff_ne.2 (by have := V.out; omega)
      have HB : RowKit.Hid (bad (d % 7) = false) := Lib.hid (by unfold bad; rw [g0, g3, g5]; rfl)
      have gb := HB.out
      clear g0 g3 g5
      clear V
      go_enter Tryq.func41, Tryq.ntmps41
      go_wp2_with (first | (go_at_call 19; (with_reducible refine (wd_c d _ (by omega) (by omega)).mono ?_); rintro e w1 ⟨rfl, hg⟩; obtain ⟨hcl, hfz, hsz⟩ := gcell hg; clear hsz; have hz0 : w.heap.size < w1.heap.size := (by have hq := hg.size; (try simp at hq); omega)) | (go_at_call 83; (with_reducible refine (bad_c _ _).mono ?_); rintro e w1 ⟨rfl, hg⟩; obtain ⟨hcl, hfz, hsz⟩ := gcell hg; clear hsz; have hz0 : w.heap.size < w1.heap.size := (by have hq := hg.size; (try simp at hq); omega)))
      all_goals go_ret
      all_goals exact ⟨ret1 (by rw [E.out, HB.out]; rfl), (by repeat (first | exact Gr.refl _ | refine Gr.setCell ?_ _ _ (by first | exact Nat.le_refl _ | (simp; omega) | (simp; done)) | refine Gr.grown ?_ _ _ | refine Gr.drewN ?_ _ | refine Gr.drew ?_ | refine Gr.alloc ?_ _ | refine Gr.grow ?_ _ | (refine Gr.trans ?_ (by assumption))))⟩
  by_cases v1 : d % 7 = 1
  · have b1 : (d % 7 == 1) = true := beq_iff_eq.2 v1
    have b2 : (d % 7 == 2) = false := beq_eq_false_iff_ne.2 v2
    have V : RowKit.Hid (d % 7 = 1) := Lib.hid v1
    clear v1 v2
    by_cases p3 : 16789 ≤ p
    · cases after
      · have E := Lib.hid (dly_not (d := d) (p := p) (leap := leap) (after := false) (by unfold late; rw [decide_eq_false p1, b2, decide_eq_true p3, b1]; simp))
        have g0 : (d % 7 == 0) = false := beq_eq_false_iff_ne.2 (by have := V.out; omega)
        have g3 : (d % 7 == 3) = false := beq_eq_false_iff_ne.2 (by have := V.out; omega)
        have g5 : (d % 7 == 5) = false := beq_eq_false_iff_ne.2 (by have := V.out; omega)
        have HB : RowKit.Hid (bad (d % 7) = false) := Lib.hid (by unfold bad; rw [g0, g3, g5]; rfl)
        have gb := HB.out
        clear g0 g3 g5
        clear V
        go_enter Tryq.func41, Tryq.ntmps41
        go_wp2_with (first | (go_at_call 19; (with_reducible refine (wd_c d _ (by omega) (by omega)).mono ?_); rintro e w1 ⟨rfl, hg⟩; obtain ⟨hcl, hfz, hsz⟩ := gcell hg; clear hsz; have hz0 : w.heap.size < w1.heap.size := (by have hq := hg.size; (try simp at hq); omega)) | (go_at_call 83; (with_reducible refine (bad_c _ _).mono ?_); rintro e w1 ⟨rfl, hg⟩; obtain ⟨hcl, hfz, hsz⟩ := gcell hg; clear hsz; have hz0 : w.heap.size < w1.heap.size := (by have hq := hg.size; (try simp at hq); omega)))
        all_goals go_ret
        all_goals exact ⟨ret1 (by rw [E.out, HB.out]; rfl), (by repeat (first | exact Gr.refl _ | refine Gr.setCell ?_ _ _ (by first | exact Nat.le_refl _ | (simp; omega) | (simp; done)) | refine Gr.grown ?_ _ _ | refine Gr.drewN ?_ _ | refine Gr.drew ?_ | refine Gr.alloc ?_ _ | refine Gr.grow ?_ _ | (refine Gr.trans ?_ (by assumption))))⟩
      · have E := Lib.hid (dly_late (d := d) (p := p) (leap := leap) (after := true) (by unfold late; rw [decide_eq_false p1, b2, decide_eq_true p3, b1]; rfl))
        have g0 : ((d + 1) % 7 == 0) = false := beq_eq_false_iff_ne.2 (by have := V.out; omega)
        have g3 : ((d + 1) % 7 == 3) = false := beq_eq_false_iff_ne.2 (by have := V.out; omega)
        have g5 : ((d + 1) % 7 == 5) = false := beq_eq_false_iff_ne.2 (by have := V.out; omega)
        have HB : RowKit.Hid (bad ((d + 1) % 7) = false) := Lib.hid (by unfold bad; rw [g0, g3, g5]; rfl)
        have gb := HB.out
        clear g0 g3 g5
        clear V
        go_enter Tryq.func41, Tryq.ntmps41
        go_wp2_with (first | (go_at_call 19; (with_reducible refine (wd_c d _ (by omega) (by omega)).mono ?_); rintro e w1 ⟨rfl, hg⟩; obtain ⟨hcl, hfz, hsz⟩ := gcell hg; clear hsz; have hz0 : w.heap.size < w1.heap.size := (by have hq := hg.size; (try simp at hq); omega)) | (go_at_call 83; (with_reducible refine (bad_c _ _).mono ?_); rintro e w1 ⟨rfl, hg⟩; obtain ⟨hcl, hfz, hsz⟩ := gcell hg; clear hsz; have hz0 : w.heap.size < w1.heap.size := (by have hq := hg.size; (try simp at hq); omega)))
        all_goals go_ret
        all_goals exact ⟨ret1 (by rw [E.out, HB.out]; rfl), (by repeat (first | exact Gr.refl _ | refine Gr.setCell ?_ _ _ (by first | exact Nat.le_refl _ | (simp; omega) | (simp; done)) | refine Gr.grown ?_ _ _ | refine Gr.drewN ?_ _ | refine Gr.drew ?_ | refine Gr.alloc ?_ _ | refine Gr.grow ?_ _ | (refine Gr.trans ?_ (by assumption))))⟩
    · have E := Lib.hid (dly_not (d := d) (p := p) (leap := leap) (after := after) (by unfold late; rw [decide_eq_false p1, b2, decide_eq_false p3, b1]; rfl))
      have g0 : (d % 7 == 0) = false := beq_eq_false_iff_ne.2 (by have := V.out; omega)
      have g3 : (d % 7 == 3) = false := beq_eq_false_iff_ne.2 (by have := V.out; omega)
      have g5 : (d % 7 == 5) = false := beq_eq_false_iff_ne.2 (by have := V.out; omega)
      have HB : RowKit.Hid (bad (d % 7) = false) := Lib.hid (by unfold bad; rw [g0, g3, g5]; rfl)
      have gb := HB.out
      clear g0 g3 g5
      clear V
      go_enter Tryq.func41, Tryq.ntmps41
      go_wp2_with (first | (go_at_call 19; (with_reducible refine (wd_c d _ (by omega) (by omega)).mono ?_); rintro e w1 ⟨rfl, hg⟩; obtain ⟨hcl, hfz, hsz⟩ := gcell hg; clear hsz; have hz0 : w.heap.size < w1.heap.size := (by have hq := hg.size; (try simp at hq); omega)) | (go_at_call 83; (with_reducible refine (bad_c _ _).mono ?_); rintro e w1 ⟨rfl, hg⟩; obtain ⟨hcl, hfz, hsz⟩ := gcell hg; clear hsz; have hz0 : w.heap.size < w1.heap.size := (by have hq := hg.size; (try simp at hq); omega)))
      all_goals go_ret
      all_goals exact ⟨ret1 (by rw [E.out, HB.out]; rfl), (by repeat (first | exact Gr.refl _ | refine Gr.setCell ?_ _ _ (by first | exact Nat.le_refl _ | (simp; omega) | (simp; done)) | refine Gr.grown ?_ _ _ | refine Gr.drewN ?_ _ | refine Gr.drew ?_ | refine Gr.alloc ?_ _ | refine Gr.grow ?_ _ | (refine Gr.trans ?_ (by assumption))))⟩
  have b1 : (d % 7 == 1) = false := beq_eq_false_iff_ne.2 v1
  have b2 : (d % 7 == 2) = false := beq_eq_false_iff_ne.2 v2
  clear v1 v2
  have E := Lib.hid (dly_not (d := d) (p := p) (leap := leap) (after := after) (by unfold late; rw [decide_eq_false p1, b2, b1]; rfl))
  cases hb : bad (d % 7)
  · have HB := Lib.hid hb
    go_enter Tryq.func41, Tryq.ntmps41
    go_wp2_with (first | (go_at_call 19; (with_reducible refine (wd_c d _ (by omega) (by omega)).mono ?_); rintro e w1 ⟨rfl, hg⟩; obtain ⟨hcl, hfz, hsz⟩ := gcell hg; clear hsz; have hz0 : w.heap.size < w1.heap.size := (by have hq := hg.size; (try simp at hq); omega)) | (go_at_call 83; (with_reducible refine (bad_c _ _).mono ?_); rintro e w1 ⟨rfl, hg⟩; obtain ⟨hcl, hfz, hsz⟩ := gcell hg; clear hsz; have hz0 : w.heap.size < w1.heap.size := (by have hq := hg.size; (try simp at hq); omega)))
    go_ret
    exact ⟨ret1 (by rw [E.out, HB.out]; rfl), (by repeat (first | exact Gr.refl _ | refine Gr.setCell ?_ _ _ (by first | exact Nat.le_refl _ | (simp; omega) | (simp; done)) | refine Gr.grown ?_ _ _ | refine Gr.drewN ?_ _ | refine Gr.drew ?_ | refine Gr.alloc ?_ _ | refine Gr.grow ?_ _ | (refine Gr.trans ?_ (by assumption))))⟩
  · have HB := Lib.hid hb
    go_enter Tryq.func41, Tryq.ntmps41
    go_wp2_with (first | (go_at_call 19; (with_reducible refine (wd_c d _ (by omega) (by omega)).mono ?_); rintro e w1 ⟨rfl, hg⟩; obtain ⟨hcl, hfz, hsz⟩ := gcell hg; clear hsz; have hz0 : w.heap.size < w1.heap.size := (by have hq := hg.size; (try simp at hq); omega)) | (go_at_call 83; (with_reducible refine (bad_c _ _).mono ?_); rintro e w1 ⟨rfl, hg⟩; obtain ⟨hcl, hfz, hsz⟩ := gcell hg; clear hsz; have hz0 : w.heap.size < w1.heap.size := (by have hq := hg.size; (try simp at hq); omega)))
    go_ret
    exact ⟨ret1 (by rw [E.out, HB.out]; rfl), (by repeat (first | exact Gr.refl _ | refine Gr.setCell ?_ _ _ (by first | exact Nat.le_refl _ | (simp; omega) | (simp; done)) | refine Gr.grown ?_ _ _ | refine Gr.drewN ?_ _ | refine Gr.drew ?_ | refine Gr.alloc ?_ _ | refine Gr.grow ?_ _ | (refine Gr.trans ?_ (by assumption))))⟩

end Go.Proofs.YtegkbjpcgelomaaGreatDoor.Walks
end
/- Walks of newyear.First and of its reference: a year's first day. -/
section
namespace Go.Proofs.YtegkbjpcgelomaaGreatDoor.Walks
open Go Go.RowKit Go.Sort Go.Proofs.YtegkbjpcgelomaaGreatDoor.Base Go.Proofs.YtegkbjpcgelomaaGreatDoor.Plain Go.Proofs.YtegkbjpcgelomaaGreatDoor.Math

set_option maxHeartbeats 1000000 in
theorem first_in (y : Int) (w : World) (h0 : 0 ≤ y) (h1 : y ≤ 10001) : Calls Tryq.prog 15 #[.int .i64 y] w fun e w' => e = .returned (.tuple #[.int .i64 (fy y), .int .i64 0]) ∧ Gr w w' := by
  have r := bf_range h0 h1
  have rm := ml_range y
  obtain ⟨D, hD⟩ : ∃ D, moD (bf y) = D := ⟨_, rfl⟩
  obtain ⟨P, hP⟩ : ∃ P, moP (bf y) = P := ⟨_, rfl⟩
  have rd : -7300000 ≤ D ∧ D ≤ 4540000 := by rw [← hD]; exact moD_range (by omega) (by omega)
  have r1 := rd.1
  have r2 := rd.2
  have co : ∀ w, Calls Tryq.prog 10 #[.int .i64 y, .int .i64 1] w fun e w' => e = .returned (.tuple #[.agg #[.int .i64 D, .int .i64 P], .int .i64 0]) ∧ Gr w w' := by
    intro w
    have := of_in y 1 w h0 h1 (by omega) (by omega)
    rwa [show bf y + 1 - 1 = bf y from by omega, hD, hP] at this
  have CO := Lib.hid co
  have E : RowKit.Hid (D + dly D P (lp y) (lpN (y - 1)) = fy y) := Lib.hid (by
    unfold fy
    rw [hD, hP]
    by_cases g : y = 0
    · subst g; rw [lpN_out (by omega)]; rfl
    · rw [lpN_in (by omega) (by omega)])
  have dr := dly_range D P (lp y) (lpN (y - 1))
  have dr1 := dr.1
  have dr2 := dr.2
  clear hD hP rd co dr r rm
  go_enter Tryq.func15, Tryq.ntmps15
  go_wp2_with (first | (go_at_call 10; (with_reducible refine (CO.out _).mono ?_); rintro e wA ⟨rfl, hgwA⟩) | (go_at_call 18; (with_reducible refine (leap_in y _ h0 h1).mono ?_); rintro e wB ⟨rfl, hgwB⟩) | (go_at_call 18; (with_reducible refine (leap_c (y - 1) _).mono ?_); rintro e wC ⟨rfl, hgwC⟩))
  have hb1 : wA.heap.size < wB.heap.size := by have := hgwB.size; simp at this; omega
  have hb2 : wA.heap.size < wC.heap.size := hgwC.lt hb1
  have k0 := gcell_in hb2 (hgwC.keep hb1 (hgwB.keep (o := 0) (v := .int .i64 D) (by simp) (by simp [go_sem])))
  have k1 := gcell_in hb2 (hgwC.keep hb1 (hgwB.keep (o := 1) (v := .int .i64 P) (by simp) (by simp [go_sem])))
  (refine wp_region_quiet_grown mixed (by kernel_rfl) ?_; (repeat (first | go_big_quiet_step ((first | (go_at_call 41; exact gr_of (delay_c _ _ _ _ _ (by omega) (by omega))))) | quiet_step ((first | (go_at_call 41; exact gr_of (delay_c _ _ _ _ _ (by omega) (by omega))))))); refine wpQuiet_nil ?_; intro _ hw'; obtain ⟨⟨nq, osq⟩, hw''⟩ := hw'; subst hw'')
  go_wp2
  go_ret2
  exact ⟨ret2 E.out rfl, (by repeat (first | exact Gr.refl _ | refine Gr.setCell ?_ _ _ (by first | exact Nat.le_refl _ | (simp; omega) | (simp; done)) | refine Gr.grown ?_ _ _ | refine Gr.drewN ?_ _ | refine Gr.drew ?_ | refine Gr.alloc ?_ _ | refine Gr.grow ?_ _ | (refine Gr.trans ?_ (by assumption))))⟩

theorem first_out (y : Int) (w : World) (h : y < 0 ∨ 10001 < y) : Calls Tryq.prog 15 #[.int .i64 y] w fun e w' => e = .returned (.tuple #[.int .i64 0, .int .i64 2]) ∧ Gr w w' := by
  have H := Lib.hid h
  clear h
  go_enter Tryq.func15, Tryq.ntmps15
  go_wp2_with (first | (go_at_call 10; (with_reducible refine (of_y y 1 _ H.out).mono ?_); rintro e wA ⟨rfl, hgwA⟩))
  go_ret2
  exact ⟨rfl, (by repeat (first | exact Gr.refl _ | refine Gr.setCell ?_ _ _ (by first | exact Nat.le_refl _ | (simp; omega) | (simp; done)) | refine Gr.grown ?_ _ _ | refine Gr.drewN ?_ _ | refine Gr.drew ?_ | refine Gr.alloc ?_ _ | refine Gr.grow ?_ _ | (refine Gr.trans ?_ (by assumption))))⟩
theorem first_c (y : Int) (w : World) : Calls Tryq.prog 15 #[.int .i64 y] w fun e w' => e = .returned (.tuple #[.int .i64 (fyN y), .int .i64 (yE y)]) ∧ Gr w w' := by
  by_cases h : 0 ≤ y ∧ y ≤ 10001
  · rw [fyN_in h.1 h.2, yE_in h.1 h.2]; exact first_in y w h.1 h.2
  · rw [fyN_out (by omega), yE_out (by omega)]; exact first_out y w (by omega)

end Go.Proofs.YtegkbjpcgelomaaGreatDoor.Walks
end
/- Facts of all years by the kernel's own reckoning: their lengths and weekdays, and that both ways tell the same first day. -/
section
namespace Go.Proofs.YtegkbjpcgelomaaGreatDoor.Math
open Go Go.RowKit Go.Proofs.YtegkbjpcgelomaaGreatDoor.Plain

/-- Does a fact hold of 0, 1, .., n - 1? -/
def allB (f : Nat → Bool) : Nat → Bool
  | 0 => true
  | n + 1 => f n && allB f n
theorem allB_at {f : Nat → Bool} {n : Nat} (h : allB f n = true) : ∀ k, k < n → f k = true := by
  induction n with
  | zero => intro k hk; omega
  | succ n ih =>
    intro k hk
    simp only [allB, Bool.and_eq_true] at h
    by_cases e : k = n
    · rw [e]; exact h.1
    · exact ih h.2 k (by omega)

def yearOk (k : Nat) : Bool :=
  let a := fy k
  let b := fy (k + 1)
  let n := b - a
  let w := a % 7
  let m := if lp k = true then n - 30 else n
  decide (353 ≤ m) && decide (m ≤ 355) && !(w == 0) && !(w == 3) && !(w == 5)

set_option maxRecDepth 100000 in
theorem years_all : allB yearOk 10001 = true := by decide +kernel

/-- The days ahead of a year, nearly, and its first day out of these. -/
def ym (y : Int) : Int := 29 * bf y + (12084 + 13753 * bf y) / 25920
def yn (y : Int) : Int := if (3 * (ym y + 1)) % 7 < 3 then ym y + 1 else ym y
def cf (y : Int) : Int := (if yn (y + 1) - yn y = 356 then yn y + 2 else if yn y - yn (y - 1) = 382 then yn y + 1 else yn y) - 1373427
set_option maxRecDepth 100000 in
theorem closed_all : allB (fun k => cf k == fy k) 10002 = true := by decide +kernel

end Go.Proofs.YtegkbjpcgelomaaGreatDoor.Math
end
/- The lengths of years and their weekdays; the year of a day. -/
section
namespace Go.Proofs.YtegkbjpcgelomaaGreatDoor.Math
open Go Go.RowKit Go.Proofs.YtegkbjpcgelomaaGreatDoor.Plain

theorem year_facts (k : Nat) (hk : k < 10001) :
    (if lp k = true then 383 else 353) ≤ fy ((k : Int) + 1) - fy k ∧ fy ((k : Int) + 1) - fy k ≤ (if lp k = true then 385 else 355) ∧ (fy k % 7 == 0) = false ∧ (fy k % 7 == 3) = false ∧ (fy k % 7 == 5) = false := by
  have h := allB_at years_all k hk
  simp only [yearOk, Bool.and_eq_true, decide_eq_true_eq, Bool.not_eq_true'] at h
  obtain ⟨⟨⟨⟨h1, h2⟩, h3⟩, h4⟩, h5⟩ := h
  refine ⟨?_, ?_, h3, h4, h5⟩
  · cases hl : lp k <;> simp only [hl, Bool.false_eq_true, if_false, if_true] at h1 ⊢ <;> omega
  · cases hl : lp k <;> simp only [hl, Bool.false_eq_true, if_false, if_true] at h2 ⊢ <;> omega
theorem fy_range {y : Int} (h0 : 0 ≤ y) (h1 : y ≤ 10001) : -7300000 ≤ fy y ∧ fy y ≤ 4540000 := by
  have b := bf_range h0 h1
  have d := dly_range (moD (bf y)) (moP (bf y)) (lp y) (lp (y - 1))
  unfold fy
  have m : -1500000 ≤ moD (bf y) ∧ moD (bf y) ≤ 2400000 := by unfold moD; omega
  omega

theorem cf_fy {y : Int} (h0 : 0 ≤ y) (h1 : y ≤ 10001) : cf y = fy y := by
  have h := allB_at closed_all y.toNat (by omega)
  rw [show ((y.toNat : Nat) : Int) = y from by omega] at h
  exact beq_iff_eq.1 h
theorem ym_range {y : Int} (h0 : -1 ≤ y) (h1 : y ≤ 10002) : -1000 ≤ ym y ∧ ym y ≤ 4000000 := by unfold ym bf; omega
theorem yn_range {y : Int} (h0 : -1 ≤ y) (h1 : y ≤ 10002) : -1000 ≤ yn y ∧ yn y ≤ 4000001 := by have := ym_range h0 h1; unfold yn; split <;> omega

/-! ### years follow one another -/
theorem fy_step {y : Int} (h0 : 0 ≤ y) (h1 : y ≤ 10000) : fy y + 353 ≤ fy (y + 1) ∧ fy (y + 1) ≤ fy y + 385 := by
  have h := year_facts y.toNat (by omega)
  rw [show ((y.toNat : Nat) : Int) = y from by omega] at h
  obtain ⟨h1, h2, -⟩ := h
  split at h1 <;> simp_all <;> omega
theorem fy_mono_nat (a : Nat) : ∀ d : Nat, a + d ≤ 10001 → fy (a : Int) + 353 * d ≤ fy ((a + d : Nat) : Int) := by
  intro d
  induction d with
  | zero => intro _; simp
  | succ d ih =>
    intro h
    have h2 := fy_step (y := ((a + d : Nat) : Int)) (by omega) (by omega)
    have h3 := ih (by omega)
    rw [show ((a + d : Nat) : Int) + 1 = ((a + (d + 1) : Nat) : Int) from by omega] at h2
    omega
theorem fy_mono {a b : Int} (h0 : 0 ≤ a) (h : a ≤ b) (h1 : b ≤ 10001) : fy a + 353 * (b - a) ≤ fy b := by
  have := fy_mono_nat a.toNat (b - a).toNat (by omega)
  rw [show ((a.toNat : Nat) : Int) = a from by omega, show ((a.toNat + (b - a).toNat : Nat) : Int) = b from by omega, show (((b - a).toNat : Nat) : Int) = b - a from by omega] at this
  exact this
/-- The year of a day. -/
theorem year_of {n : Int} (h0 : fy 1 ≤ n) (h1 : n < fy 10000) : ∃ y : Int, 1 ≤ y ∧ y ≤ 9999 ∧ fy y ≤ n ∧ n < fy (y + 1) := by
  have key : ∀ d : Nat, d ≤ 9999 → n < fy ((d : Int) + 1) → ∃ y : Int, 1 ≤ y ∧ y ≤ 9999 ∧ fy y ≤ n ∧ n < fy (y + 1) := by
    intro d
    induction d with
    | zero => intro _ h; exact absurd h (by simp; omega)
    | succ d ih =>
      intro hd h
      by_cases c : n < fy ((d : Int) + 1)
      · exact ih (by omega) c
      · exact ⟨(d : Int) + 1, by omega, by omega, by omega, by rw [show ((d : Int) + 1 + 1) = (((d + 1 : Nat) : Int) + 1) from by omega]; exact h⟩
  exact key 9999 (Nat.le_refl _) h1
theorem fy_1 : fy 1 = -1373427 := by decide +kernel
def lastD : Int := fy 10000 - 1
theorem lastD_is : lastD = 2278650 := by decide +kernel

end Go.Proofs.YtegkbjpcgelomaaGreatDoor.Math
end
