/- Walks of package exact and of its reference, each function under one name for all numbers; the law's fixed example. -/
import Derived.Test.YtiadghpepnpbgaaSums
import Derived.Test.YtiadghpepnpbgaaRef01
set_option linter.unusedVariables false
set_option linter.unusedSimpArgs false
namespace Go.Proofs.Ytiadghpepnpbgaa.Walks
open Go Go.RowKit Go.Sort Go.Proofs.Ytiadghpepnpbgaa.Base Go.Proofs.Ytiadghpepnpbgaa.Plain

/-- Does a number fit into 64 bits? -/
def fits (n : Int) : Prop := -9223372036854775808 ≤ n ∧ n ≤ 9223372036854775807
instance (n : Int) : Decidable (fits n) := inferInstanceAs (Decidable (_ ∧ _))
def okN (n : Int) : Int := if fits n then n else 0
def okE (n : Int) : Int := if fits n then 0 else 6
theorem okN_of {n : Int} (h : fits n) : okN n = n := by unfold okN; rw [if_pos h]
theorem okE_of {n : Int} (h : fits n) : okE n = 0 := by unfold okE; rw [if_pos h]
theorem okN_no {n : Int} (h : ¬ fits n) : okN n = 0 := by unfold okN; rw [if_neg h]
theorem okE_no {n : Int} (h : ¬ fits n) : okE n = 6 := by unfold okE; rw [if_neg h]
def dvN (a b : Int) : Int := if 0 < b then a / b else 0
def mdN (a b : Int) : Int := if 0 < b then a % b else 0
def dvE (b : Int) : Int := if 0 < b then 0 else 1

theorem add_u (a b : Int) (w : World) (ha : fits a) (hb : fits b) :
    Calls Try.prog 67 #[.int .i64 a, .int .i64 b] w fun e w' => e = .returned (.tuple #[.int .i64 (okN (a + b)), .int .i64 (okE (a + b))]) ∧ Gr w w' := by
  unfold okN okE
  by_cases h : fits (a + b)
  · rw [if_pos h, if_pos h]; exact add_c a b w ha.1 ha.2 hb.1 hb.2 h.1 h.2
  · rw [if_neg h, if_neg h]; exact add_no a b w ha.1 ha.2 hb.1 hb.2 (by unfold fits at h; omega)
theorem mul_u (a b : Int) (w : World) (ha : fits a) (hb : fits b) :
    Calls Try.prog 54 #[.int .i64 a, .int .i64 b] w fun e w' => e = .returned (.tuple #[.int .i64 (okN (a * b)), .int .i64 (okE (a * b))]) ∧ Gr w w' := by
  unfold okN okE
  by_cases h : fits (a * b)
  · rw [if_pos h, if_pos h]; exact mul_c a b w ha.1 ha.2 hb.1 hb.2 h.1 h.2
  · rw [if_neg h, if_neg h]; exact mul_no a b w ha.1 ha.2 hb.1 hb.2 (by unfold fits at h; omega)
theorem div_u (a b : Int) (w : World) (ha : fits a) (hb : fits b) :
    Calls Try.prog 50 #[.int .i64 a, .int .i64 b] w fun e w' => e = .returned (.tuple #[.int .i64 (dvN a b), .int .i64 (dvE b)]) ∧ Gr w w' := by
  unfold dvN dvE
  by_cases h : 0 < b
  · rw [if_pos h, if_pos h]; exact div_c a b w h ha.1 ha.2 hb.2
  · rw [if_neg h, if_neg h]; exact div_no a b w (by omega)
theorem mod_u (a b : Int) (w : World) (ha : fits a) (hb : fits b) :
    Calls Try.prog 51 #[.int .i64 a, .int .i64 b] w fun e w' => e = .returned (.tuple #[.int .i64 (mdN a b), .int .i64 (dvE b)]) ∧ Gr w w' := by
  unfold mdN dvE
  by_cases h : 0 < b
  · rw [if_pos h, if_pos h]; exact mod_c a b w h ha.1 ha.2 hb.2
  · rw [if_neg h, if_neg h]; exact mod_no a b w (by omega)
theorem radd_u (a b : Int) (w : World) (ha : fits a) (hb : fits b) :
    Calls Try.prog 53 #[.int .i64 a, .int .i64 b] w fun e w' => e = .returned (.tuple #[.int .i64 (okN (a + b)), .int .i64 (okE (a + b))]) ∧ Gr w w' := by
  unfold okN okE
  by_cases h : fits (a + b)
  · rw [if_pos h, if_pos h]; exact radd_c a b w ha.1 ha.2 hb.1 hb.2 h.1 h.2
  · rw [if_neg h, if_neg h]; exact radd_no a b w ha.1 ha.2 hb.1 hb.2 (by unfold fits at h; omega)
theorem rmul_u (a b : Int) (w : World) (ha : fits a) (hb : fits b) :
    Calls Try.prog 52 #[.int .i64 a, .int .i64 b] w fun e w' => e = .returned (.tuple #[.int .i64 (okN (a * b)), .int .i64 (okE (a * b))]) ∧ Gr w w' := by
  unfold okN okE
  by_cases h : fits (a * b)
  · rw [if_pos h, if_pos h]; exact rmul_c a b w ha.1 ha.2 hb.1 hb.2 h.1 h.2
  · rw [if_neg h, if_neg h]; exact rmul_no a b w ha.1 ha.2 hb.1 hb.2 (by unfold fits at h; omega)


end Go.Proofs.Ytiadghpepnpbgaa.Walks
