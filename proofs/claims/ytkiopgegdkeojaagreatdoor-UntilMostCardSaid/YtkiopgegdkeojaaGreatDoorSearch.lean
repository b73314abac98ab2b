/- The walk of sort.Search, for a closure that draws and lays blocks: the first place at which it is true. -/
import Derived.Test.YtkiopgegdkeojaaGreatDoorBase
import Derived.Shelf.SlSorted.Search
set_option linter.unusedVariables false
set_option linter.unusedSimpArgs false
namespace Go.Proofs.YtkiopgegdkeojaaGreatDoor.Walks
open Go Go.RowKit Go.Sort Go.Proofs.YtkiopgegdkeojaaGreatDoor.Base Go.Proofs.YtkiopgegdkeojaaGreatDoor.Plain

set_option maxHeartbeats 4000000 in
set_option maxRecDepth 100000 in
theorem search_c (g : Nat) (cb : Array Value) (n K : Nat) (w : World) (eg : ∀ args w, (callFunc g args).run Tryz.prog w = .ok (.enter g args) w) (hn : n < 1000000000) (hK : K ≤ n)
    (hf : ∀ (W : World) (i : Nat), Gr w W → i < n → Calls Tryz.prog g (#[.int .i64 i] ++ cb) W fun e w' => e = .returned (.bool (decide (K ≤ i))) ∧ Gr W w') :
    Calls Tryz.prog 57 #[.int .i64 n, .func (.func g) #[] cb] w fun e w' => e = .returned (.int .i64 (K : Int)) ∧ Gr w w' := by
  have HF := Lib.hid hf
  clear hf
  go_enter Tryz.func57, Tryz.ntmps57
  go_wp2
  go_loopg [5, 6] n (fun kx s5 s6 wr => ∃ (lo hi : Nat), s5 = .int .i64 lo ∧ s6 = .int .i64 hi ∧ lo ≤ K ∧ K ≤ hi ∧ hi ≤ n ∧ hi - lo ≤ kx ∧ Gr w wr)
  case atStart => exact ⟨0, n, rfl, rfl, Nat.zero_le _, hK, Nat.le_refl _, by omega, Gr.refl _⟩
  case round =>
    obtain ⟨lo, hi, rfl, rfl, h1, h2, h3, h4, hg0⟩ := hrel
    by_cases hlt : lo < hi
    · have hc := HF.out _ ((lo + hi) / 2) hg0 (by omega)
      rw [show (((lo + hi) / 2 : Nat) : Int) = ((lo : Int) + (hi : Int)) / 2 by omega] at hc
      by_cases hp : K ≤ (lo + hi) / 2
      · rw [decide_eq_true hp] at hc
        have HC := Lib.hid hc
        clear hc
        go_wp2_with (go_at_fn g; refine HC.out.mono ?_; rintro e w1 ⟨rfl, hg1⟩)
        go_roundg ((lo + hi) / 2 - lo)
        case measure => omega
        case rel => exact ⟨lo, (lo + hi) / 2, rfl, by rw [show ((lo : Int) + (hi : Int)) / 2 = (((lo + hi) / 2 : Nat) : Int) by omega], h1, hp, by omega, Nat.le_refl _, hg0.trans hg1⟩
      · rw [decide_eq_false hp] at hc
        have HC := Lib.hid hc
        clear hc
        go_wp2_with (go_at_fn g; refine HC.out.mono ?_; rintro e w1 ⟨rfl, hg1⟩)
        go_roundg (hi - ((lo + hi) / 2 + 1))
        case measure => omega
        case rel => exact ⟨(lo + hi) / 2 + 1, hi, by rw [show ((lo : Int) + (hi : Int)) / 2 + 1 = (((lo + hi) / 2 + 1 : Nat) : Int) by omega], rfl, by omega, h2, h3, Nat.le_refl _, hg0.trans hg1⟩
    · obtain rfl : lo = K := by omega
      go_wp2
      go_ret
      exact ⟨rfl, hg0⟩
/-- The same, the numbers spelled as whole numbers. -/
theorem search_v (g : Nat) (cb : Array Value) (N R : Int) (n K : Nat) (w : World) (eg : ∀ args w, (callFunc g args).run Tryz.prog w = .ok (.enter g args) w) (hn : n < 1000000000) (hK : K ≤ n) (hN : (n : Int) = N) (hR : (K : Int) = R)
    (hf : ∀ (W : World) (i : Nat), Gr w W → i < n → Calls Tryz.prog g (#[.int .i64 i] ++ cb) W fun e w' => e = .returned (.bool (decide (K ≤ i))) ∧ Gr W w') :
    Calls Tryz.prog 57 #[.int .i64 N, .func (.func g) #[] cb] w fun e w' => e = .returned (.int .i64 R) ∧ Gr w w' := by
  subst hN hR; exact search_c g cb n K w eg hn hK hf

end Go.Proofs.YtkiopgegdkeojaaGreatDoor.Walks
