/- .. append. No program of ours in sight. -/
import Derived.Test.YtegkbjpcgelomaaGreatDoorZ2
import Derived.Test.YtegkbjpcgelomaaGreatDoorProg
import Derived.Conc.FxGenDone
import Derived.Conc.FxGenWait
import Derived.Conc.FxGenLone
import Derived.Conc.BesideWords
import Derived.Conc.CompanyDraw
import Derived.KernelRfl
import Derived.Conc.CompanyWords
set_option linter.unusedVariables false
set_option linter.unusedSimpArgs false
set_option linter.unusedSectionVars false
section
set_option maxHeartbeats 2000000
namespace Go.Sim
open Go Go.Conc
/-- It looks at shapes and at what is frozen, and does nothing else. -/
def RO {α : Type} : Sem α → Prop
  | .pure _ => True
  | .shape _ k => ∀ x, RO (k x)
  | .frozen _ k => ∀ x, RO (k x)
  | _ => False
theorem RO.bind {α β : Type} {s : Sem α} (h : RO s) {f : α → Sem β} (hf : ∀ a, RO (f a)) : RO (s.bind f) := by
  induction s with
  | pure a => exact hf a
  | shape r k ih => exact fun x => ih x (h x)
  | frozen r k ih => exact fun x => ih x (h x)
  | _ => exact h.elim
theorem RO.doomed {Q : Program} {α β : Type} {s : Sem α} (h : RO s) {f : α → Sem β} (hf : ∀ a, Doomed Q (f a)) : Doomed Q (s.bind f) := by
  induction s with
  | pure a => exact hf a
  | shape r k ih => exact fun v hv => ih (v.shape? r) (h _) v hv
  | frozen r k ih => exact fun v hv => ih (v.frozen? r) (h _) v hv
  | _ => exact h.elim
section
variable {P : Program} {fs : Array Func} {M N : Nat → Prop} {α β γ : Type}
theorem RO.fine {s : Sem α} (h : RO s) {f : α → Sem β} (hf : ∀ a (M N : Nat → Prop), Fine (wf P fs) P M N (f a)) (hd : ∀ a, Doomed (wf P fs) (f a)) : ∀ (M N : Nat → Prop), Fine (wf P fs) P M N (s.bind f) := by
  induction s with
  | pure a => exact fun M N => hf a M N
  | shape r k ih => exact fun M N => ⟨fun t n => ih _ (h _) _ _, ih _ (h _) _ _, .inr (.inr fun t n => .inr (.inl (((h none).doomed hd).n r)))⟩
  | frozen r k ih => exact fun M N b => ih b (h b) M N
  | _ => exact h.elim
theorem ro_holds (a : Addr) (n : Nat) : RO (Builtin.holdsCells a n) := fun x => by
  cases x <;> trivial
theorem ro_mayShare (s l n : Nat) (b : Option Addr) (x : Value) : RO (Builtin.mayShare s l n b x) := by
  unfold Builtin.mayShare
  have go : ∀ there : Bool, RO (if (!there) = true then pure true
      else
        match x with
        | Value.slice (some b_1) len cap => do
          let __do_lift ← Builtin.holdsCells b_1 (n * s)
          pure (!__do_lift || Option.any (fun x => x.block == b_1.block) b)
        | x => pure false : Sem Bool) := fun there => by
    split
    · trivial
    · split
      · exact RO.bind (ro_holds _ _) fun _ => trivial
      · trivial
  cases b with
  | none => exact go true
  | some a => exact RO.bind (ro_holds _ _) fun _ => RO.bind (s := frozen (a.add (l / 2 * s))) (fun _ => trivial) fun _ => go _
theorem fine_share {s l n : Nat} {b : Option Addr} {x : Value} {f : Bool → Sem α} (hf : ∀ a (M N : Nat → Prop), Fine (wf P fs) P M N (f a)) (hd : ∀ a, Doomed (wf P fs) (f a)) : Fine (wf P fs) P M N (Builtin.mayShare s l n b x >>= f) := RO.fine (ro_mayShare s l n b x) hf hd M N
theorem doomed_unsup {u : Unsupported} {f : α → Sem β} (h : okU u = true) : Doomed (wf P fs) (unsupported u >>= f) := fun v _ => ⟨_, v, rfl, by cases u <;> first | trivial | cases h⟩
theorem doomed_unsup0 {u : Unsupported} (h : okU u = true) : Doomed (wf P fs) (unsupported u : Sem α) := fun v _ => ⟨_, v, rfl, by cases u <;> first | trivial | cases h⟩
theorem doomed_mark {m : Mark} {f : Unit → Sem β} (h : Doomed (wf P fs) (f ())) : Doomed (wf P fs) (mark m >>= f) := fun v hv => h v hv
theorem doomed_ite {c : Prop} [Decidable c] {a b : Sem α} (h : Doomed (wf P fs) a) (k : Doomed (wf P fs) b) : Doomed (wf P fs) (if c then a else b) := by split <;> assumption
theorem fine_append (a : Array TypeId) (t : TypeId) (x : Array Value) : Fine (wf P fs) P M N (Builtin.append_ a t x) := by
  unfold Builtin.append_
  (repeat' (first | ((with_reducible refine fine_share (fun _ _ _ => ?_) (fun _ => ?_)); rotate_left; ((refine doomed_ite (doomed_mark ?_) ?_) <;> (first | exact doomed_unsup rfl | exact doomed_unsup0 rfl))) | with_reducible refine fine_ite ?_ ?_ | with_reducible exact fine_lenOf _ | with_reducible exact fine_first _ _ _ | with_reducible exact fine_int _ | with_reducible exact fine_rtPanic _ | with_reducible exact fine_askRoom _ | with_reducible exact fine_row _ _ | with_reducible exact fine_stores _ _ _ | with_reducible exact fine_zero _ | with_reducible exact fine_size _ | with_reducible exact fine_info _ | with_reducible exact fine_under _ | with_reducible exact fine_pure _ | with_reducible exact fine_stuck _ | with_reducible exact fine_choose _ | with_reducible exact fine_noRoom | ((with_reducible refine fine_unsup _ ?_); rfl) | (with_reducible refine fine_bind ?_ (fun _ => ?_)) | split))
end
end Go.Sim
end
/- .. operators on pointers and complex numbers, conversions. No program of ours in sight. -/
section
set_option maxHeartbeats 2000000
namespace Go.Sim
open Go Go.Conc
section
variable {P : Program} {fs : Array Func} {M N : Nat → Prop} {α β γ : Type}

theorem fine_twoPlaces (a b : Addr) : Fine (wf P fs) P M N (Op.twoPlaces a b) := by
  unfold Op.twoPlaces
  (repeat' (first | with_reducible refine fine_ite ?_ ?_ | with_reducible exact fine_byteOf _ | with_reducible exact fine_pure _ | ((with_reducible refine fine_unsup _ ?_); rfl) | ((with_reducible refine fine_prog ?_ ?_); rfl) | (with_reducible refine fine_bind ?_ (fun _ => ?_))))
theorem fine_addrSub (k : IntKind) (a b : Addr) : Fine (wf P fs) P M N (Op.addrSub k a b) := by
  unfold Op.addrSub
  (repeat' (first | with_reducible exact fine_twoPlaces _ _ | with_reducible exact fine_pure _ | (with_reducible refine fine_bind ?_ (fun _ => ?_))))
theorem fine_addrCmp (op : BinOp) (a b : Addr) : Fine (wf P fs) P M N (Op.addrCmp op a b) := by
  unfold Op.addrCmp
  (repeat' (first | with_reducible exact fine_twoPlaces _ _ | with_reducible exact fine_pure _ | ((with_reducible refine fine_unsup _ ?_); rfl) | (with_reducible refine fine_bind ?_ (fun _ => ?_)) | split))
theorem fine_addrMod (k : IntKind) (a : Addr) (n : Int) : Fine (wf P fs) P M N (Op.addrMod k a n) := by
  unfold Op.addrMod
  refine fine_shape (fun t n => ?_) (fine_unsup _ rfl) (doomed_unsup0 rfl)
  (repeat' (first | with_reducible refine fine_ite ?_ ?_ | with_reducible exact fine_byteOf _ | with_reducible exact fine_info _ | with_reducible exact fine_pure _ | ((with_reducible refine fine_unsup _ ?_); rfl) | (with_reducible refine fine_bind ?_ (fun _ => ?_))))
end
end Go.Sim
end
/- .. operators. No program of ours in sight. -/
section
set_option maxHeartbeats 4000000
namespace Go.Sim
open Go Go.Conc
section
variable {P : Program} {fs : Array Func} {M N : Nat → Prop} {α β γ : Type}

theorem cells_wf (t : TypeId) : (wf P fs).cellsOf t = P.cellsOf t := rfl
theorem bytes_wf (t : TypeId) : (wf P fs).bytesOf t = P.bytesOf t := rfl
theorem sameLayout_wf : ∀ d t u, sameLayout (wf P fs) d t u = sameLayout P d t u
  | 0, t, u => rfl
  | d + 1, t, u => by
    unfold sameLayout
    simp only [underId_wf, under_wf, stoodInHeld_wf, sameLayout_wf d]
    try rfl
theorem rowAt_wf (fits : TypeId → Bool) : ∀ d e c o n, rowAt (wf P fs) fits d e c o n = rowAt P fits d e c o n
  | 0, e, c, o, n => rfl
  | d + 1, e, c, o, n => by
    unfold rowAt
    simp only [cells_wf, under_wf, stoodInHeld_wf, rowAt_wf fits d]
    try rfl
theorem liesAt_wf : ∀ d e c o u n, liesAt (wf P fs) d e c o u n = liesAt P d e c o u n
  | 0, e, c, o, u, n => rfl
  | d + 1, e, c, o, u, n => by
    unfold liesAt
    simp only [depth_wf, sameLayout_wf, rowAt_wf, under_wf, liesAt_wf d]
    try rfl
theorem cellOfByte_wf : ∀ d t b, cellOfByte (wf P fs) d t b = cellOfByte P d t b
  | 0, t, b => rfl
  | d + 1, t, b => by
    unfold cellOfByte
    simp only [cells_wf, bytes_wf, under_wf, cellOfByte_wf d]
    try rfl
theorem cellAtBytes_wf (d : Nat) (e : TypeId) (c o : Nat) (b : Int) : cellAtBytes (wf P fs) d e c o b = cellAtBytes P d e c o b := by
  unfold cellAtBytes
  simp only [cells_wf, bytes_wf, byteOfCell_wf, cellOfByte_wf]
  try rfl
theorem cellHolding_wf : ∀ d t b, cellHolding (wf P fs) d t b = cellHolding P d t b
  | 0, t, b => rfl
  | d + 1, t, b => by
    unfold cellHolding
    simp only [cells_wf, bytes_wf, under_wf, cellHolding_wf d]
    try rfl
theorem plainCell_wf : ∀ d t b, plainCell (wf P fs) d t b = plainCell P d t b
  | 0, t, b => rfl
  | d + 1, t, b => by
    unfold plainCell
    simp only [cells_wf, under_wf, plainCell_wf d]
    try rfl
theorem tight_wf : ∀ d t, tight (wf P fs) d t = tight P d t
  | 0, t => rfl
  | d + 1, t => by
    unfold tight
    simp only [bytes_wf, under_wf, tight_wf d]
    try rfl
theorem seenCells_wf (c : Array Value) (e : TypeId) : ∀ f x s, seenCells (wf P fs) c e f x s = seenCells P c e f x s
  | 0, x, s => rfl
  | f + 1, x, s => by
    unfold seenCells
    simp only [cells_wf, bytes_wf, depth_wf, cellHolding_wf, seenCells_wf c e f]
    try rfl
theorem lay_wf : SameLay (wf P fs) P := by
  constructor
  · intro w a u k b
    unfold World.seen
    simp only [cells_wf, bytes_wf, depth_wf, byteOfCell_wf, plainCell_wf, seenCells_wf]
    try rfl
  · intro u
    rw [tight_wf]
    rfl

end
end Go.Sim
end
/- .. operators. No program of ours in sight. -/
section
set_option maxHeartbeats 4000000
namespace Go.Sim
open Go Go.Conc
section
variable {P : Program} {fs : Array Func} {M N : Nat → Prop} {α β γ : Type}

theorem fine_unsafeAdd (a : Array TypeId) (t : TypeId) (x : Array Value) : Fine (wf P fs) P M N (Builtin.unsafeAdd_ a t x) := by
  have pos : ∀ (p : Option Addr) (n : Int), Fine (wf P fs) P M N (match p with
      | some a => do
        let some (e, cells) ← shape a.block | unsupported (.unsafePointer "Add")
        let p ← program
        match cellAtBytes p p.depth e (cells / p.cellsOf e) a.off n with
        | some off => pure (.pointer (some { a with off }))
        | none => unsupported (.unsafePointer "Add")
      | none => unsupported (.unsafePointer "Add") : Sem Value) := fun p n => by
    cases p with
    | none => exact fine_unsup _ rfl
    | some a =>
      refine fine_shape (fun t n => ?_) (fine_unsup _ rfl) (doomed_unsup0 rfl)
      refine fine_prog ?_ ?_
      · simp only [cells_wf, depth_wf, cellAtBytes_wf]
      · split <;> first | exact fine_pure _ | exact fine_unsup _ rfl
  have main : ∀ (p : Option Addr) (l : Value), Fine (wf P fs) P M N (Builtin.unsafeAdd_ a t #[.pointer p, l]) := fun p l => by
    unfold Builtin.unsafeAdd_
    refine fine_bind (fine_int _) fun n => ?_
    refine fine_ite ?_ (fine_ite (fine_bind (fine_unsup _ rfl) fun _ => ?_) ?_)
    · cases p with
      | none => exact fine_unsup _ rfl
      | some a =>
        refine fine_bind (fine_view _) fun b => ?_
        (repeat' (first | with_reducible refine fine_ite ?_ ?_ | with_reducible exact fine_pure _ | ((with_reducible refine fine_unsup _ ?_); rfl) | (with_reducible refine fine_bind ?_ (fun _ => ?_))))
    · have := pos p n
      cases p <;> exact this
    · have := pos p n
      cases p <;> exact this
  rcases x with ⟨_ | ⟨y, _ | ⟨z, _ | ⟨u, l⟩⟩⟩⟩
  · exact fine_stuck _
  · cases y <;> exact fine_stuck _
  · cases y
    case pointer p => exact main p z
    all_goals exact fine_stuck _
  · cases y <;> exact fine_stuck _
theorem fine_asNumber (a : Addr) (b : Bool) : Fine (wf P fs) P M N (asNumber a b) := by
  unfold asNumber
  (repeat' (first | with_reducible exact fine_pure _ | ((with_reducible refine fine_new _ ?_); rfl) | (with_reducible refine fine_bind ?_ (fun _ => ?_))))
theorem fine_movedNumber (t : TypeId) (x y : Value) : Fine (wf P fs) P M N (movedNumber t x y) := by
  unfold movedNumber
  refine fine_bind (fine_under _) fun u => ?_
  have h := fine_unsafeAdd (P := P) (fs := fs) (M := M) (N := N) #[] t
  have k := fine_asNumber (P := P) (fs := fs) (M := M) (N := N)
  have go : ∀ n, Fine (wf P fs) P M N (do
        let (a, lost) ← behindNumber n
        match ← Builtin.unsafeAdd_ #[] t #[.pointer (some a), y] with
        | .pointer (some b) => asNumber b lost
        | v => pure v : Sem Value) := fun n => by
    refine fine_bind (fine_behind _) fun p => ?_
    dsimp only
    refine fine_bind (h _) fun z => ?_
    split
    · exact k _ _
    · exact fine_pure _
  cases x
  case pointer a =>
    cases a with
    | none => exact fine_ite (fine_bind (fine_unsup _ rfl) fun _ => h _) (h _)
    | some n => exact fine_ite (fine_bind (fine_unsup _ rfl) fun _ => go n) (go n)
  all_goals exact fine_ite (fine_bind (fine_unsup _ rfl) fun _ => h _) (h _)
theorem fine_movedPointer (t : TypeId) (x y : Value) : Fine (wf P fs) P M N (movedPointer t x y) := by
  unfold movedPointer
  have h := fine_unsafeAdd (P := P) (fs := fs) (M := M) (N := N) #[] t #[x, y]
  split
  · refine fine_bind (fine_number _) fun b => ?_
    split
    · exact fine_bind (fine_unsup _ rfl) fun _ => h
    · exact h
  · exact h
theorem fine_arith (op : BinOp) (k : FloatKind) (x y : Nat) : Fine (wf P fs) P M N (Op.Complex.arith op k x y) := by
  unfold Op.Complex.arith
  refine fine_bind (fine_floatArith _ _ _ _) fun v => ?_
  split <;> first | exact fine_pure _ | exact fine_stuck _
theorem fine_cmp (op : BinOp) (k : FloatKind) (x y : Nat) : Fine (wf P fs) P M N (Op.Complex.cmp op k x y) := by
  unfold Op.Complex.cmp
  exact fine_bind (fine_floatCmp _ _ _ _) fun v => fine_bool _
theorem fine_floatToFloat (s : FloatKind) (b : Nat) (d : FloatKind) : Fine (wf P fs) P M N (Conv.floatToFloat s b d) := by
  unfold Conv.floatToFloat
  (repeat' (first | with_reducible refine fine_ite ?_ ?_ | with_reducible exact fine_pure _ | with_reducible exact fine_choose _ | (with_reducible refine fine_bind ?_ (fun _ => ?_)) | split))
theorem fine_conv (s : FloatKind) (x : Nat) (d : FloatKind) : Fine (wf P fs) P M N (Op.Complex.conv s x d) := by
  unfold Op.Complex.conv
  split
  · exact fine_pure _
  · refine fine_bind (fine_floatToFloat _ _ _) fun v => ?_
    split <;> first | exact fine_pure _ | exact fine_stuck _
theorem fine_cadd (x y : Nat) : Fine (wf P fs) P M N (Op.Complex.add x y) := fine_arith _ _ _ _
theorem fine_csub (x y : Nat) : Fine (wf P fs) P M N (Op.Complex.sub x y) := fine_arith _ _ _ _
theorem fine_cmul (x y : Nat) : Fine (wf P fs) P M N (Op.Complex.mul x y) := fine_arith _ _ _ _
theorem fine_cquo (x y : Nat) : Fine (wf P fs) P M N (Op.Complex.quo x y) := fine_arith _ _ _ _
theorem fine_product (a b c d : Nat) : Fine (wf P fs) P M N (Op.Complex.product a b c d) := by
  unfold Op.Complex.product
  (repeat' (first | with_reducible exact fine_cadd _ _ | with_reducible exact fine_csub _ _ | with_reducible exact fine_cmul _ _ | with_reducible exact fine_pure _ | (with_reducible refine fine_bind ?_ (fun _ => ?_))))
theorem fine_corrected (s a b c d : Nat) : Fine (wf P fs) P M N (Op.Complex.corrected s a b c d) := by
  unfold Op.Complex.corrected
  (repeat' (first | with_reducible exact fine_cadd _ _ | with_reducible exact fine_csub _ _ | with_reducible exact fine_cmul _ _ | with_reducible exact fine_pure _ | (with_reducible refine fine_bind ?_ (fun _ => ?_))))
theorem fine_quotient (a b c d : Nat) : Fine (wf P fs) P M N (Op.Complex.quotient a b c d) := by
  unfold Op.Complex.quotient
  (repeat' (first | with_reducible exact fine_corrected _ _ _ _ _ | with_reducible exact fine_cmp _ _ _ _ | with_reducible exact fine_cadd _ _ | with_reducible exact fine_csub _ _ | with_reducible exact fine_cmul _ _ | with_reducible exact fine_cquo _ _ | with_reducible refine fine_ite ?_ ?_ | with_reducible exact fine_pure _ | (with_reducible refine fine_bind ?_ (fun _ => ?_))))
theorem fine_complexOp (op : BinOp) (k : FloatKind) (a b c d : Nat) : Fine (wf P fs) P M N (Op.complexOp op k a b c d) := by
  unfold Op.complexOp
  cases op <;> (dsimp only; (repeat' (first | with_reducible exact fine_quotient _ _ _ _ | with_reducible exact fine_product _ _ _ _ | with_reducible exact fine_arith _ _ _ _ | with_reducible exact fine_cmp _ _ _ _ | with_reducible exact fine_conv _ _ _ | with_reducible refine fine_ite ?_ ?_ | with_reducible exact fine_pure _ | with_reducible exact fine_stuck _ | (with_reducible refine fine_bind ?_ (fun _ => ?_)))))
theorem fine_eqGuardIn : ∀ (d : Nat) (t : TypeId) (x y : Value), Fine (wf P fs) P M N (Op.eqGuardIn d t x y)
  | 0, t, x, y => trivial
  | d + 1, t, x, y => by
    have ih := fine_eqGuardIn d
    unfold Op.eqGuardIn
    refine fine_bind (fine_under t) fun u => ?_
    cases u
    case struct fds =>
      cases x <;> first | exact fine_pure _ | (cases y <;> first | exact fine_pure _ | skip)
      dsimp only
      (repeat' (first | with_reducible refine fine_ite ?_ ?_ | (with_reducible refine fine_forArray (fun _ _ => ?_) _ _) | with_reducible exact fine_part _ _ _ | with_reducible exact fine_pure _ | (with_reducible refine fine_bind ?_ (fun _ => ?_)) | split))
      all_goals (exact ih _ _ _)
    case array len e =>
      cases x <;> first | exact fine_pure _ | (cases y <;> first | exact fine_pure _ | skip)
      dsimp only
      (repeat' (first | with_reducible refine fine_ite ?_ ?_ | (with_reducible refine fine_forRange (fun _ _ => ?_) _ _) | with_reducible exact fine_part _ _ _ | with_reducible exact fine_size _ | with_reducible exact fine_pure _ | (with_reducible refine fine_bind ?_ (fun _ => ?_)) | split))
      all_goals (exact ih _ _ _)
    all_goals (cases x <;> first | exact fine_pure _ | (cases y <;> exact fine_pure _))
theorem fine_eqGuard (op : BinOp) (t : TypeId) (x y : Operand) (a b : Value) : Fine (wf P fs) P M N (eqGuard op t x y a b) := by
  unfold eqGuard
  have h := fine_eqGuardIn (P := P) (fs := fs) (M := M) (N := N)
  refine fine_ite (fine_pure _) ?_
  split
  · refine fine_ite (fine_pure _) (fine_bind (h _ _ _ _) fun b => ?_)
    exact fine_ite (fine_unsup _ rfl) (fine_pure _)
  · refine fine_prog (by simp only [eqGuardType_wf]) ?_
    refine fine_prog (ite_congr (by rw [eqGuardType_wf, depth_wf]) (fun _ => rfl) (fun _ => rfl)) (fine_ite (fine_pure _) (fine_bind (h _ _ _ _) fun b => fine_ite (fine_unsup _ rfl) (fine_pure _)))
  · exact fine_pure _
end
end Go.Sim
end
/- .. operators and methods. No program of ours in sight. -/
section
set_option maxHeartbeats 4000000
namespace Go.Sim
open Go Go.Conc
section
variable {P : Program} {fs : Array Func} {M N : Nat → Prop} {α β γ : Type}

theorem fine_binOp (op : BinOp) (t : TypeId) (x y : Value) : Fine (wf P fs) P M N (binOp op t x y) := by
  have e : ∀ (x y : Value), Fine (wf P fs) P M N (do pure (.bool (← Op.equal t x y)) : Sem Value) := fun x y => fine_bind (fine_equal _ _ _) fun _ => fine_pure _
  have n : ∀ (x y : Value), Fine (wf P fs) P M N (do pure (.bool (!(← Op.equal t x y))) : Sem Value) := fun x y => fine_bind (fine_equal _ _ _) fun _ => fine_pure _
  have a1 : ∀ (x y : Value), Fine (wf P fs) P M N (do if (← underlying t) matches .unsafePointer then movedPointer t x y else movedNumber t x y : Sem Value) := fun x y => fine_bind (fine_under _) fun u => fine_ite (fine_movedPointer _ _ _) (fine_movedNumber _ _ _)
  have s1 : ∀ a b : Addr, Fine (wf P fs) P M N (do Op.addrSub .u64 (← behindNumber a).1 (← behindNumber b).1 : Sem Value) := fun a b => fine_bind (fine_behind _) fun _ => fine_bind (fine_behind _) fun _ => fine_addrSub _ _ _
  have c1 : ∀ (op : BinOp) (a b : Addr), Fine (wf P fs) P M N (do Op.addrCmp op (← behindNumber a).1 (← behindNumber b).1 : Sem Value) := fun op a b => fine_bind (fine_behind _) fun _ => fine_bind (fine_behind _) fun _ => fine_addrCmp _ _ _
  have m1 : ∀ (k : IntKind) (a : Addr) (n : Int), Fine (wf P fs) P M N (do Op.addrMod k (← behindNumber a).1 n : Sem Value) := fun k a n => fine_bind (fine_behind _) fun _ => fine_addrMod _ _ _
  unfold binOp
  split
  · exact fine_shift _ _ _ _ _
  · exact fine_shift _ _ _ _ _
  · refine fine_ite (fine_stuck _) ?_
    split <;> first | exact fine_intArith _ _ _ _ | exact fine_intDiv _ _ _ _ | exact fine_intBits _ _ _ _ | exact fine_intCmp _ _ _
  · refine fine_ite (fine_stuck _) ?_
    split <;> first | exact fine_floatArith _ _ _ _ | exact fine_floatCmp _ _ _ _
  · exact fine_ite (fine_stuck _) (fine_complexOp _ _ _ _ _ _)
  · exact fine_stringOp _ _ _
  · exact e _ _
  · exact n _ _
  · exact a1 _ _
  · exact fine_movedNumber _ _ _
  · exact fine_movedNumber _ _ _
  · exact s1 _ _
  all_goals first | exact c1 _ _ _ | exact m1 _ _ _ | exact fine_unsup _ rfl | exact fine_stuck _
theorem fine_floatToInt (s : FloatKind) (b : Nat) (d : IntKind) : Fine (wf P fs) P M N (Conv.floatToInt s b d) := by
  unfold Conv.floatToInt
  (repeat' (first | with_reducible refine fine_ite ?_ ?_ | with_reducible exact fine_pure _ | with_reducible exact fine_choose _ | (with_reducible refine fine_bind ?_ (fun _ => ?_)) | split))
theorem fine_at {t : TypeId} {u : TypeDesc} (h : P.underlying t = some u) {f : TypeDesc → Sem α} (hf : Fine (wf P fs) P M N (f u)) : Fine (wf P fs) P M N (underlying t >>= f) := by
  unfold underlying
  refine ⟨rfl, ?_⟩
  show Fine (wf P fs) P M N ((match P.underlying t with | some d => pure d | none => stuck "no such type" : Sem TypeDesc) >>= f)
  rw [h]
  exact hf
theorem fine_convInt {s d : TypeId} {k j : IntKind} (hs : P.underlying s = some (.int k)) (hd : P.underlying d = some (.int j)) (x : Value) : Fine (wf P fs) P M N (convert s d x) := by
  unfold convert
  refine fine_at hs (fine_at hd ?_)
  cases x
  case pointer a => cases a <;> exact fine_unsup _ rfl
  case int => exact fine_pure _
  case float => exact fine_floatToInt _ _ _
  all_goals exact fine_unsup _ rfl
theorem fine_bytesToString (x : Value) : Fine (wf P fs) P M N (Conv.bytesToString x) := by
  unfold Conv.bytesToString
  (repeat' (first | (with_reducible refine fine_forArray (fun _ _ => ?_) _ _) | with_reducible exact fine_loads _ _ | with_reducible exact fine_pure _ | with_reducible exact fine_stuck _ | (with_reducible refine fine_bind ?_ (fun _ => ?_)) | split))
theorem fine_convString {s d e : TypeId} (hs : P.underlying s = some (.slice e)) (he : P.underlying e = some (.int .u8)) (hd : P.underlying d = some .string) (x : Value) : Fine (wf P fs) P M N (convert s d x) := by
  unfold convert
  refine fine_at hs (fine_at hd ?_)
  cases x
  case int => exact fine_pure _
  case string => exact fine_pure _
  all_goals (refine fine_at he ?_; exact fine_bytesToString _)
theorem fine_loadBytes : ∀ (n : Nat) (a : Addr) (acc : ByteArray), Fine (wf P fs) P M N (loadBytes a acc n)
  | 0, a, acc => trivial
  | n + 1, a, acc => by
    unfold loadBytes
    refine fine_bind (fine_load _ _) fun v => ?_
    split
    · exact fine_loadBytes n _ _
    · exact fine_stuck _
theorem fine_vars {a : Addr} {u : TypeId} {n : Nat} {f : Bool → Sem α} (hf : ∀ b, Fine (wf P fs) P (add M a.block) N (f b)) (h0 : Fine (wf P fs) P M N (f false)) (hd : DoomedN (wf P fs) a.block (f false)) : Fine (wf P fs) P M N (variablesAt a u n >>= f) := by
  unfold variablesAt
  refine ⟨?_, ?_⟩
  · refine congrArg (fun g => (Sem.bind (shape a.block) g).bind f) (funext fun x => ?_)
    rcases x with _ | ⟨e, c⟩
    · rfl
    · exact congrArg Sem.pure (liesAt_wf _ _ _ _ _ _)
  · refine ⟨fun t m => hf _, h0.mono (fun _ y => y) (add_sub _ _), .inr (.inr fun t m => .inr (.inl hd))⟩
theorem holdsStoodIn_wf : ∀ d t, (wf P fs).holdsStoodIn d t = P.holdsStoodIn d t
  | 0, t => rfl
  | d + 1, t => by
    unfold Program.holdsStoodIn
    simp only [under_wf, stoodInHeld_wf, holdsStoodIn_wf d]
/-- As fine_vars, where the answer is not used. -/
theorem fine_varsK {a : Addr} {u : TypeId} {n : Nat} {f : Bool → Sem α} (h : ∀ b, f b = f false) (h0 : Fine (wf P fs) P M N (f false)) : Fine (wf P fs) P M N (variablesAt a u n >>= f) := by
  unfold variablesAt
  refine ⟨?_, ?_⟩
  · refine congrArg (fun g => (Sem.bind (shape a.block) g).bind f) (funext fun x => ?_)
    rcases x with _ | ⟨e, c⟩
    · rfl
    · exact congrArg Sem.pure (liesAt_wf _ _ _ _ _ _)
  · refine ⟨fun t m => ?_, h0.mono (fun _ y => y) (add_sub _ _), .inr (.inr fun t m => .inl ⟨h0, ?_⟩)⟩
    · show Fine _ _ _ _ (f _)
      rw [h]
      exact h0.mono (add_sub _ _) fun _ y => y
    · show f _ = f _
      exact (h _).symm
theorem fine_seenAt (a : Addr) : Fine (wf P fs) P M N (Conv.seenAt a) := by
  unfold Conv.seenAt
  refine fine_bind (fine_view _) fun o => ?_
  cases o with
  | none => exact fine_pure _
  | some p =>
    obtain ⟨s, u⟩ := p
    have rest : Fine (wf P fs) P M N (do
        let p ← program
        let some β := byteOfCell p p.depth u a.off | unsupported (.unsafePointer "a place inside memory seen as another type, where no seen variable begins")
        let some (e, cells) ← shape s.block | unsupported (.unsafePointer "a place inside memory seen as another type, where no seen variable begins")
        if p.cellsOf e = 0 then unsupported (.unsafePointer "a place inside memory seen as another type, where no seen variable begins")
        let some c := cellAtBytes p p.depth e (cells / p.cellsOf e) s.off β | unsupported (.unsafePointer "a place inside memory seen as another type, where no seen variable begins")
        pure { s with off := c } : Sem Addr) := by
      refine fine_prog ?_ ?_
      · simp only [cells_wf, depth_wf, byteOfCell_wf, cellAtBytes_wf]
      · split
        · refine fine_shape (fun t n => ?_) (fine_unsup _ rfl) (doomed_unsup0 rfl)
          refine fine_ite (fine_bind (fine_unsup _ rfl) fun _ => ?_) ?_
          all_goals (split <;> first | exact fine_pure _ | exact fine_unsup _ rfl)
        · exact fine_unsup _ rfl
    refine fine_ite (fine_pure _) (fine_ite (fine_bind (fine_unsup _ rfl) fun _ => rest) rest)
theorem fine_convPtr {s d u : TypeId} (hs : P.underlying s = some .unsafePointer) (hd : P.underlying d = some (.pointer u)) (x : Value) : Fine (wf P fs) P M N (convert s d x) := by
  have main : Fine (wf P fs) P M N (Conv.unsafePointer s d x) := by
    unfold Conv.unsafePointer
    refine fine_at hs (fine_at hd ?_)
    cases x
    case pointer a =>
      cases a with
      | none => exact fine_pure _
      | some a =>
        refine fine_bind (fine_seenAt _) fun a => fine_bind (fine_size _) fun z => ?_
        have rest : ∀ (M N : Nat → Prop), Fine (wf P fs) P M N (do
            match ← shape a.block with
            | some (e, _) =>
              if (← program).holdsStoodIn (← program).depth e then unsupported (.unsafePointer "memory that holds a struct of a package that the model stands in for, seen as another type")
            | none => unsupported (.unsafePointer "memory that has no shape (a package-level variable that still waits for its initialiser), seen as another type")
            pure (.pointer (some ⟨← newObj (.view a u), 0, none⟩)) : Sem Value) := fun M N => by
          refine fine_shape (fun t n => ?_) (fine_bind (fine_unsup _ rfl) fun _ => fine_bind (fine_new _ rfl) fun _ => fine_pure _) (doomed_unsup rfl)
          refine fine_prog (by simp only [holdsStoodIn_wf]) (fine_prog (ite_congr (by rw [show (wf P fs).depth = P.depth from rfl]) (fun _ => rfl) (fun _ => rfl)) ?_)
          exact fine_ite (fine_bind (fine_unsup _ rfl) fun _ => fine_bind (fine_new _ rfl) fun _ => fine_pure _) (fine_bind (fine_new _ rfl) fun _ => fine_pure _)
        by_cases hz : z = 0
        · refine fine_varsK (fun b => ?_) ?_
          · simp only [hz, decide_true, Bool.true_or]
          · simp only [hz, decide_true, Bool.true_or, if_true]
            exact fine_pure _
        · refine fine_vars (fun b => ?_) ?_ ?_
          · simp only [hz, decide_false, Bool.false_or]
            exact fine_ite (fine_pure _) (rest _ _)
          · simp only [hz, decide_false, Bool.false_or, Bool.false_eq_true, if_false]
            exact rest _ _
          · simp only [hz, decide_false, Bool.false_or, Bool.false_eq_true, if_false]
            intro v hv hn
            refine ⟨.unsupported (.unsafePointer "memory that has no shape (a package-level variable that still waits for its initialiser), seen as another type"), v, ?_, trivial⟩
            show (Sem.shape a.block _).run _ v = _
            simp only [Sem.run, hn]
            rfl
    all_goals exact fine_stuck _
  unfold convert
  refine fine_at hs (fine_at hd ?_)
  cases x <;> exact main
theorem fine_unsafeString (a : Array TypeId) (t : TypeId) (x : Array Value) : Fine (wf P fs) P M N (Builtin.unsafeString_ a t x) := by
  have main : ∀ (p : Option Addr) (l : Value), Fine (wf P fs) P M N (Builtin.unsafeString_ a t #[.pointer p, l]) := fun p l => by
    unfold Builtin.unsafeString_
    refine fine_bind (fine_int _) fun n => ?_
    cases a[0]? with
    | none => exact fine_stuck _
    | some pt =>
      refine fine_ite (fine_bind (fine_rtPanic _) fun _ => fine_ite (fine_bind (fine_unsup _ rfl) fun _ => ?_) ?_) (fine_ite (fine_bind (fine_unsup _ rfl) fun _ => ?_) ?_)
      all_goals
        cases p with
        | none => exact fine_ite (fine_pure _) (fine_rtPanic _)
        | some b =>
          refine fine_ite (fine_pure _) (fine_bind (fine_elem _) fun e => fine_vars (fun b => ?_) (fine_unsup _ rfl) ((doomed_unsup0 rfl).n _))
          refine fine_ite (fine_bind (fine_loadBytes _ _ _) fun s => ?_) (fine_unsup _ rfl)
          exact ⟨.inr rfl, trivial⟩
  rcases x with ⟨_ | ⟨y, _ | ⟨z, _ | ⟨u, l⟩⟩⟩⟩
  · exact fine_stuck _
  · cases y <;> exact fine_stuck _
  · cases y
    case pointer p => exact main p z
    all_goals exact fine_stuck _
  · cases y <;> exact fine_stuck _
theorem fine_sliceData (a : Array TypeId) (t : TypeId) (x : Array Value) : Fine (wf P fs) P M N (Builtin.unsafeSliceData_ a t x) := by
  have main : ∀ (p : Option Addr) (l c : Nat), Fine (wf P fs) P M N (Builtin.unsafeSliceData_ a t #[.slice p l c]) := fun p l c => by
    unfold Builtin.unsafeSliceData_
    cases p with
    | none => exact fine_pure _
    | some b =>
      refine fine_ite (fine_pure _) (fine_bind (fine_view _) fun v => fine_ite (fine_pure _) ?_)
      (repeat' (first | with_reducible exact fine_elem _ | with_reducible exact fine_pure _ | ((with_reducible refine fine_new _ ?_); rfl) | (with_reducible refine fine_bind ?_ (fun _ => ?_))))
  rcases x with ⟨_ | ⟨y, _ | ⟨z, l⟩⟩⟩
  · exact fine_stuck _
  · cases y
    case slice p l c => exact main p l c
    all_goals exact fine_stuck _
  · cases y <;> exact fine_stuck _
theorem fine_get (t : TypeId) (x : Place) : Fine (wf P fs) P M N (x.get t) := by
  cases x
  · exact fine_pure _
  · exact fine_loadVar _ _
theorem fine_follow : ∀ (l : List FieldStep) (t : TypeId) (x : Place), Fine (wf P fs) P M N (follow l t x)
  | [], t, x => trivial
  | s :: rest, t, x => by
    have ih := fine_follow rest
    unfold follow
    (repeat' (first | with_reducible exact fine_get _ _ | with_reducible refine fine_ite ?_ ?_ | with_reducible exact fine_asAddr _ | with_reducible exact fine_fieldPlace _ _ | with_reducible exact fine_part _ _ _ | with_reducible exact fine_under _ | with_reducible exact fine_stuck _ | (with_reducible refine fine_bind ?_ (fun _ => ?_)) | split))
    all_goals (exact ih _ _)
theorem fine_wrap (a : Array TypeId) (t : TypeId) (x : Array Value) : Fine (wf P fs) P M N (Builtin.ssaWrapNilChk_ a t x) := by
  have main : ∀ (p : Value) (l m : ByteArray), Fine (wf P fs) P M N (Builtin.ssaWrapNilChk_ a t #[p, .string l, .string m]) := fun p l m => by
    unfold Builtin.ssaWrapNilChk_
    cases a[0]? with
    | none =>
      cases p
      case pointer o =>
        cases o
        · exact fine_bind (fine_choose _) fun n => fine_ite (fine_bind (fine_rtPanic _) fun _ => fine_stuck _) (fine_stuck _)
        · exact fine_pure _
      all_goals exact fine_stuck _
    | some pt =>
      cases p
      case pointer o =>
        cases o
        · refine fine_bind (fine_choose _) fun n => fine_ite (fine_bind (fine_rtPanic _) fun _ => fine_bind (fine_under _) fun u => ?_) (fine_bind (fine_under _) fun u => ?_)
          all_goals (repeat' (first | with_reducible exact fine_rtPanic _ | with_reducible exact fine_info _ | with_reducible exact fine_stuck _ | ((with_reducible refine fine_unsup _ ?_); rfl) | (with_reducible refine fine_bind ?_ (fun _ => ?_)) | split | dsimp only))
        · exact fine_pure _
      all_goals exact fine_stuck _
  rcases x with ⟨_ | ⟨y, _ | ⟨z, _ | ⟨u, _ | ⟨k, l⟩⟩⟩⟩⟩
  · exact fine_stuck _
  · exact fine_stuck _
  · exact fine_stuck _
  · cases z
    case string b =>
      cases u
      case string c => exact main y b c
      all_goals exact fine_stuck _
    all_goals exact fine_stuck _
  · exact fine_stuck _
theorem fine_receiverAt (t : TypeId) (x : Place) (b : Bool) (w : Option String) : Fine (wf P fs) P M N (receiverAt t x b w) := by
  unfold receiverAt
  (repeat' (first | with_reducible exact fine_wrap _ _ _ | with_reducible exact fine_get _ _ | with_reducible exact fine_asAddr _ | with_reducible exact fine_loadVar _ _ | with_reducible exact fine_under _ | with_reducible exact fine_pure _ | with_reducible exact fine_stuck _ | (with_reducible refine fine_bind ?_ (fun _ => ?_)) | split))
theorem fine_receiverVia (t : TypeId) (v : Value) (p : Array FieldStep) (b : Bool) : Fine (wf P fs) P M N (receiverVia t v p b) := by
  unfold receiverVia
  (repeat' (first | with_reducible exact fine_receiverAt _ _ _ _ | with_reducible exact fine_follow _ _ _ | (with_reducible refine fine_bind ?_ (fun _ => ?_))))
theorem fine_method : ∀ (d : Nat) (t : TypeId) (v : Value) (n : String), Fine (wf P fs) P M N (method d t v n)
  | 0, t, v, n => trivial
  | d + 1, t, v, n => by
    have ih := fine_method d
    unfold method
    (repeat' (first | with_reducible exact fine_receiverAt _ _ _ _ | with_reducible exact fine_follow _ _ _ | with_reducible exact fine_get _ _ | with_reducible exact fine_rtPanic _ | with_reducible exact fine_info _ | with_reducible exact fine_pure _ | with_reducible exact fine_stuck _ | (with_reducible refine fine_bind ?_ (fun _ => ?_)) | split))
    all_goals (exact ih _ _ _)
theorem fine_followBlind : ∀ (l : List FieldStep) (t : TypeId) (x : Option Value), Fine (wf P fs) P M N (followBlind l t x)
  | [], t, x => trivial
  | s :: rest, t, x => by
    have ih := fine_followBlind rest
    unfold followBlind
    (repeat' (first | with_reducible exact fine_part _ _ _ | with_reducible exact fine_under _ | with_reducible exact fine_pure _ | with_reducible exact fine_stuck _ | (with_reducible refine fine_bind ?_ (fun _ => ?_)) | split))
    all_goals (exact ih _ _)
theorem fine_nilAhead : ∀ (d : Nat) (t : TypeId) (v : Value) (n : String), Fine (wf P fs) P M N (nilAhead d t v n)
  | 0, t, v, n => trivial
  | d + 1, t, v, n => by
    have ih := fine_nilAhead d
    unfold nilAhead
    (repeat' (first | with_reducible exact fine_followBlind _ _ _ | with_reducible exact fine_info _ | with_reducible exact fine_under _ | with_reducible exact fine_pure _ | with_reducible exact fine_stuck _ | (with_reducible refine fine_bind ?_ (fun _ => ?_)) | split))
    all_goals (exact ih _ _ _)
end
end Go.Sim
end
/- Which operations are fit. No program of ours in sight. -/
section
set_option maxHeartbeats 4000000
namespace Go.Sim
open Go Go.Conc
section
variable {P : Program} {fs : Array Func}

theorem Form.v {s : Sem Value} (h : Fine0 (wf P fs) P s) : Form (wf P fs) P (do pure (.value (← s))) := .value s h
theorem Form.u {s : Sem Unit} (h : Fine0 (wf P fs) P s) : Form (wf P fs) P (do s; pure .skip) := .skip s h
theorem Form.pv (x : Value) : Form (wf P fs) P (pure (.value x)) := .value (pure x) trivial
/-- It never comes back. -/
def NoOk {α : Type} (s : Sem α) : Prop := ∀ v a v', s.run (wf P fs) v ≠ .ok a v'
theorem NoOk.bind {α β : Type} {s : Sem α} {f : α → Sem β} (h : ∀ a, NoOk (P := P) (fs := fs) (f a)) : NoOk (P := P) (fs := fs) (s >>= f) := by
  intro v a v' e
  have e' : (s.bind f).run (wf P fs) v = .ok a v' := e
  rw [Sem.run_bind'] at e'
  cases hs : s.run (wf P fs) v with
  | ok b w => rw [hs] at e'; exact h b _ _ _ e'
  | halt x w => rw [hs] at e'; cases e'
theorem noOk_panic {α : Type} (x : Value) : NoOk (P := P) (fs := fs) (goPanic x : Sem α) := fun v a v' e => by cases e
theorem noOk_stuck {α : Type} (x : String) : NoOk (P := P) (fs := fs) (stuck x : Sem α) := fun v a v' e => by cases e
theorem noOk_rtPanic {α : Type} (e : RuntimeError) : NoOk (P := P) (fs := fs) (runtimePanic e : Sem α) := by
  unfold runtimePanic
  refine NoOk.bind fun p => ?_
  cases e <;> first | exact noOk_panic _ | exact NoOk.bind fun _ => NoOk.bind fun _ => noOk_panic _
theorem NoOk.doomed {α : Type} {s : Sem α} (h : NoOk (P := P) (fs := fs) s) (hf : Fine0 (wf P fs) P s) : Doomed (wf P fs) s := by
  intro v hv
  rcases Fine0.lock (SameLay.refl _) (Fine.self hf) v v #[] (hid_refl hv) with ⟨a, v', w', es', r1, -⟩ | h
  · exact absurd r1 (h v a v')
  · exact h
theorem ask_heap {α : Type} : ∀ (a : Ask α) (w : World), (w.ask a).2.heap = w.heap := by
  intro a
  induction a with
  | done a => exact fun w => by simp only [World.ask]
  | ask what range k ih =>
    intro w
    simp only [World.ask]
    split
    · exact ih _ w
    · exact (ih _ _).trans rfl
theorem sys_heap (w : World) (c : Sys) : (w.sys c).2.heap = w.heap := by
  unfold World.sys
  have := ask_heap (Kernel.perform c w.os) w
  split
  · rfl
  · rename_i r os w2 _ e
    rw [e] at this
    exact this
theorem doomed_panic (x : Value) : Doomed (wf P fs) (Instr.panic x) := by
  unfold Instr.panic
  split
  · exact (noOk_panic _).doomed (fine_panic _)
  · intro v hv
    have hv2 : OkWorld (v.sys .env).2 := fun b o e => hv b o (by rw [sys_heap] at e; exact e)
    have h2 : ∀ r : SysRet, Doomed (wf P fs) (do
        let .strings env ← (pure r : Sem SysRet) | stuck "strings expected"
        let key := "GODEBUG=".toUTF8
        let fromEnv := ((env.find? fun s => s.extract 0 key.size == key).map fun s => s.extract key.size s.size).getD .empty
        let k ← (do pure (Instr.readSettings "panicnil" fromEnv (Instr.readSettings "panicnil" (← program).godebug.toUTF8 0)) : Sem Int)
        if k == 1 then goPanic .nilIface else runtimePanic .panicNil : Sem Value) := fun r => by
      refine NoOk.doomed ?_ ?_
      · refine NoOk.bind fun r => ?_
        split
        · refine NoOk.bind fun k => ?_
          split
          · exact noOk_panic _
          · exact noOk_rtPanic _
        · exact noOk_stuck _
      · refine fine_bind (fine_pure _) fun r => ?_
        split
        · refine fine_bind (fine_prog rfl (fine_pure _)) fun k => ?_
          exact fine_ite (fine_panic _) (fine_rtPanic _)
        · exact fine_stuck _
    obtain ⟨h, v', e, d⟩ := h2 (v.sys .env).1 (v.sys .env).2 hv2
    refine ⟨h, v', ?_, d⟩
    rw [← e]
    show (Sem.sys .env _).run (wf P fs) v = _
    simp only [Sem.run]
    cases (v.sys .env).1 <;> rfl
  · exact (noOk_stuck _).doomed (fine_stuck _)
end
end Go.Sim
end
/- .. calls. No program of ours in sight. -/
section
set_option maxHeartbeats 4000000
namespace Go.Sim
open Go Go.Conc
section
variable {P : Program} {fs : Array Func}

theorem Form.cast {s t : Sem Next} (h : Form (wf P fs) P s) (e : s = t) : Form (wf P fs) P t := e ▸ h
theorem form_stuck (w : String) : Form (wf P fs) P (stuck w) := .dead _ ((noOk_stuck w).doomed (fine_stuck w))
theorem form_rtPanic (e : RuntimeError) : Form (wf P fs) P (runtimePanic e) := .dead _ ((noOk_rtPanic e).doomed (fine_rtPanic e))
theorem form_callFunc (f : FuncId) (a : Array Value) : Form (wf P fs) P (callFunc f a) := .call (pure (f, a)) trivial
def mPre (r : Value) (n : String) (a : Array Value) : Sem FA :=
  match r with
  | .iface t v => do
    let p ← program
    let (f, x) ← method (p.types.size + Made.depth) t v n
    pure (f, #[x] ++ a)
  | .nilIface => runtimePanic .nilDeref
  | _ => stuck "invoke: interface value expected"
theorem fine_mPre (r : Value) (n : String) (a : Array Value) : Fine0 (wf P fs) P (mPre r n a) := by
  unfold mPre
  split
  · exact fine_prog rfl (fine_bind (fine_method _ _ _ _) fun x => fine_pure _)
  · exact fine_rtPanic _
  · exact fine_stuck _
theorem callMethod_eq (r : Value) (n : String) (a : Array Value) : (mPre r n a).bind (fun x => callFunc x.1 x.2) = callMethod r n a := by
  unfold callMethod mPre
  cases r
  case iface t v =>
    show (Sem.program _) = (Sem.program _)
    refine congrArg Sem.program (funext fun p => ?_)
    show Sem.bind (Sem.bind (method _ _ _ _) _) _ = Sem.bind (method _ _ _ _) _
    rw [Sem.bind_assoc']
    refine congrArg (Sem.bind _) (funext fun x => ?_)
    rfl
  all_goals rfl
theorem form_callMethod (r : Value) (n : String) (a : Array Value) : Form (wf P fs) P (callMethod r n a) := (Form.call _ (fine_mPre r n a)).cast (callMethod_eq r n a)
theorem doomed_yield (hl : True) (l : Nat) (a : Array Value) : Doomed (wf P fs) (Instr.yield l a) := by
  intro v hv
  unfold Instr.yield Instr.getLoop
  cases e : v.heap[l]? with
  | none => exact ⟨.stuck "getObj: no such block", v, by show (Sem.getObj l _).run (wf P fs) v = _; simp only [Sem.run, e], trivial⟩
  | some o =>
    cases o with
    | loop r => exact absurd (hv _ _ e) (by simp [okObj])
    | cells c t f => exact ⟨.stuck "getObj: a row of cells", v, by show (Sem.getObj l _).run (wf P fs) v = _; simp only [Sem.run, e], trivial⟩
    | _ => exact ⟨.stuck "range over a function: no such loop", v, by show (Sem.getObj l _).run (wf P fs) v = _; simp only [Sem.run, e]; rfl, trivial⟩
theorem form_fn (fn : Fn) (cap : Array Value) (a : Array Value) : Form (wf P fs) P (invoke (.fn fn cap) a) := by
  cases fn with
  | func f => exact form_callFunc _ _
  | method n =>
    unfold invoke
    dsimp only
    cases a[0]?
    · exact form_stuck _
    · exact form_callMethod _ _ _
  | methodOf t n =>
    unfold invoke
    dsimp only
    cases a[0]? with
    | none => exact form_stuck _
    | some r =>
      have h : Fine0 (wf P fs) P (underlying t >>= fun u => mPre (match u with | TypeDesc.interface _ => r | _ => .iface t r) n (a.extract 1 a.size)) := fine_bind (fine_under _) fun u => fine_mPre _ _ _
      refine (Form.call _ h).cast ?_
      show Sem.bind (Sem.bind _ _) _ = Sem.bind _ _
      rw [Sem.bind_assoc']
      exact congrArg (Sem.bind _) (funext fun u => callMethod_eq _ _ _)
  | via t path f p =>
    unfold invoke
    dsimp only
    cases a[0]? with
    | none => exact form_stuck _
    | some x =>
      have h : Fine0 (wf P fs) P (do
          let r ← receiverVia t x path p
          pure (f, #[r] ++ a.extract 1 a.size) : Sem FA) := fine_bind (fine_receiverVia _ _ _ _) fun x => fine_pure _
      refine (Form.call _ h).cast ?_
      show Sem.bind (Sem.bind _ _) _ = Sem.bind _ _
      rw [Sem.bind_assoc']
      rfl
  | yield l => exact .dead _ (doomed_yield trivial l a)
def okB : Builtin → Bool
  | .append | .cap | .copy | .len | .max | .min | .unsafeSliceData | .unsafeString => true
  | _ => false
def okC : Callee → Bool
  | .value _ => true
  | .builtin b => okB b
  | _ => false
theorem form_builtin (b : Builtin) (h : okB b = true) (x : Array TypeId) (t : TypeId) (c : Array Bool) (a : Array Value) : Form (wf P fs) P (invoke (.builtin b x t c) a) := by
  cases b <;> first | cases h | skip
  · exact Form.v (fine_append _ _ _)
  · exact Form.v (fine_cap _ _ _)
  · exact Form.v (fine_copy _ _ _)
  · exact Form.v (fine_len _ _ _)
  · exact Form.v (fine_max _ _ _)
  · exact Form.v (fine_min _ _ _)
  · exact Form.v (fine_sliceData _ _ _)
  · exact Form.v (fine_unsafeString _ _ _)
theorem form_call (c : Call) (h : okC c.callee = true) (t : TypeId) (ρ : Operand → Value) : Form (wf P fs) P (do let d ← resolve ρ c t; invoke d.target d.args) := by
  unfold resolve
  cases hc : c.callee with
  | value f =>
    show Form (wf P fs) P (Deferred.ofValue (ρ f) (c.args.map ρ) >>= fun d => invoke d.target d.args)
    unfold Deferred.ofValue
    cases ρ f
    case func fn a b => exact form_fn _ _ _
    case nilFunc => exact form_rtPanic .nilDeref
    all_goals exact form_stuck _
  | invoke r n => rw [hc] at h; cases h
  | builtin b =>
    rw [hc] at h
    exact form_builtin b h _ _ _ _
end
end Go.Sim
end
/- A test that can be computed: which operations, functions are fit. No program of ours in sight. -/
section
set_option maxHeartbeats 4000000
namespace Go.Sim
open Go Go.Conc
section
variable {P : Program} {fs : Array Func}

def isInt (P : Program) (t : TypeId) : Bool := match P.underlying t with
  | some (.int _) => true
  | _ => false
def isBytes (P : Program) (s d : TypeId) : Bool := match P.underlying s, P.underlying d with
  | some (.slice e), some .string => (match P.underlying e with | some (.int .u8) => true | _ => false)
  | _, _ => false
def isBack (P : Program) (s d : TypeId) : Bool := match P.underlying s, P.underlying d with
  | some .unsafePointer, some (.pointer _) => true
  | _, _ => false
def isText : Operand → Bool
  | .const (.string _) => true
  | _ => false
def okOp (P : Program) (o : Oper) : Bool :=
  match o.op with
  | .move _ | .assign _ | .pick _ _ _ | .alloc _ | .box _ _ | .build _ _ | .buildSlice _ _ _ | .load _ _ | .store _ _ _ | .nilCheck _ | .binOp _ _ _ _ _ | .unOp _ _ _ | .makeInterface _ _ | .makeFunc _ _ _ | .makeMap _ _
  | .makeSlice _ _ _ | .slice _ _ _ _ _ | .fieldAddr _ _ _ | .field _ _ _ | .indexAddr _ _ _ | .index _ _ _ | .lookup _ _ _ _ | .mapUpdate _ _ _ _ | .extract _ _ | .panic _ => true
  | .convert s d _ => (isInt P s && isInt P d) || isBytes P s d || isBack P s d
  | .range _ x => isText x
  | .call c => okC c.callee
  | _ => false
theorem form_nilCheck (x : Value) : Form (wf P fs) P (match x with
    | .pointer none | .nilIface | .nilFunc => runtimePanic .nilDeref
    | .func (.method name) first captured =>
      match (first[0]? : Option Value) with
      | some .nilIface => runtimePanic .nilDeref
      | some (.iface t w) => do
        if (← nilAhead ((← program).types.size + Made.depth) t w name) != some false then
          unsupported (.noEntry "op/nilCheck.the method's receiver behind this interface value is a nil pointer, or cannot be seen to be none, and the arguments act or may panic (ledger 612)")
        pure (.value (.func (.method name) first captured))
      | _ => pure (.value (.func (.method name) first captured))
    | x => pure (.value x) : Sem Next) := by
  cases x
  case pointer a => cases a <;> first | exact form_rtPanic _ | exact Form.pv _
  case nilIface => exact form_rtPanic .nilDeref
  case nilFunc => exact form_rtPanic .nilDeref
  case func fn a b =>
    cases fn
    case method n =>
      dsimp only
      cases a[0]? with
      | none => exact Form.pv _
      | some y =>
        cases y
        case nilIface => exact form_rtPanic .nilDeref
        case iface t w =>
          have h : Fine0 (wf P fs) P (do
              let p ← program
              let z ← nilAhead (p.types.size + Made.depth) t w n
              if z != some false then
                unsupported (.noEntry "op/nilCheck.the method's receiver behind this interface value is a nil pointer, or cannot be seen to be none, and the arguments act or may panic (ledger 612)")
              pure (.func (.method n) a b) : Sem Value) := by
            refine fine_prog rfl (fine_bind (fine_nilAhead _ _ _ _) fun z => ?_)
            exact fine_ite (fine_bind (fine_unsup _ rfl) fun _ => fine_pure _) (fine_pure _)
          refine (Form.value _ h).cast ?_
          show Sem.program _ = Sem.program _
          refine congrArg Sem.program (funext fun p => ?_)
          show Sem.bind (Sem.bind (nilAhead _ _ _ _) _) _ = Sem.bind (nilAhead _ _ _ _) _
          rw [Sem.bind_assoc']
          refine congrArg (Sem.bind _) (funext fun z => ?_)
          dsimp only
          split <;> rfl
        all_goals exact Form.pv _
    all_goals exact Form.pv _
  all_goals exact Form.pv _
theorem fine_range (t : TypeId) (s : ByteArray) : Fine0 (wf P fs) P (Instr.range t (.string s)) := by
  unfold Instr.range
  refine fine_bind (fine_under _) fun u => ?_
  cases u
  case string => exact fine_bind (s := newObj _) (fine_new _ rfl) fun r => fine_pure _
  all_goals exact fine_stuck _
theorem good_of {o : Oper} (h : okOp P o = true) : OpGood (wf P fs) P o := by
  intro ρ hρ
  unfold okOp at h
  unfold execOp
  cases ho : o.op <;> simp only [ho] at h ⊢ <;> first | cases h; done | skip
  case move x => exact Form.pv _
  case assign x => exact Form.pv _
  case pick c a b =>
    have k : Fine0 (wf P fs) P (do pure (if ← asBool (ρ c) then ρ a else ρ b) : Sem Value) := fine_bind (fine_bool _) fun _ => fine_pure _
    refine (Form.value _ k).cast ?_
    show Sem.bind (Sem.bind (asBool _) _) _ = Sem.bind (asBool _) _
    rw [Sem.bind_assoc']
    rfl
  case alloc t => exact Form.v (fine_alloc _ _ _)
  case box t x => exact Form.v (fine_box _ _)
  case build t ps => exact Form.v (fine_build _ _)
  case buildSlice t n ps => exact Form.v (fine_buildSlice _ _ _)
  case load t a => exact Form.v (fine_loadAt _ _)
  case store t a x => exact Form.u (fine_storeAt _ _ _)
  case nilCheck x => exact form_nilCheck _
  case binOp op t x y u =>
    exact Form.v (s := do eqGuard op t x y (ρ x) (ρ y); binOp op t (ρ x) (ρ y)) (fine_bind (fine_eqGuard _ _ _ _ _ _) fun _ => fine_binOp _ _ _ _)
  case unOp op t x => exact Form.v (fine_unary _ _)
  case convert s d x =>
    refine Form.v ?_
    simp only [Bool.or_eq_true, Bool.and_eq_true] at h
    rcases h with (⟨h1, h2⟩ | h1) | h1
    · unfold isInt at h1 h2
      split at h1
      · rename_i k e1
        split at h2
        · rename_i j e2; exact fine_convInt e1 e2 _
        · cases h2
      · cases h1
    · unfold isBytes at h1
      split at h1
      · rename_i e e1 e2
        split at h1
        · rename_i e3; exact fine_convString e1 e3 e2 _
        · cases h1
      · cases h1
    · unfold isBack at h1
      split at h1
      · rename_i u e1 e2; exact fine_convPtr e1 e2 _
      · cases h1
  case makeInterface t x => exact Form.v (fine_makeIface _ _)
  case makeFunc f a b => exact Form.v (fine_makeFunc _ _ _)
  case makeMap t r => exact Form.v (fine_makeMap _ _)
  case makeSlice t l c => exact Form.v (fine_makeSlice _ _ _)
  case slice t x a b c => exact Form.v (fine_sliceAt _ _ _ _ _)
  case fieldAddr t x f => exact Form.v (fine_fieldAt _ _ _)
  case field t x f => exact Form.v (fine_field _ _ _)
  case indexAddr t x i => exact Form.v (fine_indexAt _ _ _)
  case index t x i => exact Form.v (fine_index _ _ _)
  case lookup t x i b => exact Form.v (fine_lookup _ _ _ _)
  case mapUpdate t m k x => exact Form.u (fine_mapUpdate _ _ _ _)
  case range t x =>
    cases x <;> first | cases h; done | skip
    rename_i y
    cases y <;> first | cases h; done | skip
    rw [hρ]
    exact Form.v (fine_range _ _)
  case extract t i => exact Form.v (fine_extract _ _)
  case call c => exact form_call c h _ ρ
  case panic x => exact .dead _ ((doomed_panic _).bind _)
def okCode (P : Program) : Code → Bool
  | .skip | .ret | .label _ | .exit _ | .refuse _ => true
  | .seq a b | .cond _ a b => okCode P a && okCode P b
  | .block _ c | .loop c | .scope c => okCode P c
  | .region _ ops _ => ops.all (okOp P)
  | _ => false
theorem code_of : ∀ {c : Code}, okCode P c = true → codeOk (OpGood (wf P fs) P) c := by
  intro c
  induction c with
  | seq a b iha ihb =>
    intro h
    simp only [okCode, Bool.and_eq_true] at h
    exact ⟨iha h.1, ihb h.2⟩
  | cond c a b iha ihb =>
    intro h
    simp only [okCode, Bool.and_eq_true] at h
    exact ⟨iha h.1, ihb h.2⟩
  | block l c ih => exact fun h => ih h
  | loop c ih => exact fun h => ih h
  | scope c ih => exact fun h => ih h
  | region i ops b =>
    intro h o ho
    simp only [okCode, Array.all_eq_true_iff_forall_mem] at h
    exact good_of (h o ho)
  | _ => intro h; first | trivial | cases h
theorem fine_results (fn : Func) (tmps : Array Value) : Fine0 (wf P fs) P (results fn tmps) := by
  unfold results
  refine fine_bind (fine_mapM (fun r => ?_) _) fun vs => fine_pure _
  split
  · exact fine_pure _
  · exact fine_bind (fine_asAddr _) fun a => fine_loadVar _ _
end
end Go.Sim
end
/- The lone run of a function that is called: steps, and what a tree of it tells. No program of ours in sight. -/
section
namespace Go.Sim
open Go Go.Conc

section
variable {Q P : Program} {up : FuncId → Prop} {T : Frame → List Frame → World → Prop}
theorem deep_not (hG : Goal Q T) {fr c : Frame} {xs : List Frame} {v : World} : ¬ T fr (c :: xs ++ [foot Q]) v := fun h => by
  have := (hG.at_ _ _ _ h).2
  simp at this
theorem Lds.go (hG : Goal Q T) {fr fr1 fr' c : Frame} {xs xs' : List Frame} {v v1 v' : World} {es : Array Event} (h : stepG Q true (G fr (c :: xs ++ [foot Q])) v = .go (G fr1 (c :: xs ++ [foot Q])) v1 es) (k : Lds Q T fr1 (c :: xs) v1 fr' xs' v') : Lds Q T fr (c :: xs) v fr' xs' v' :=
  .head ⟨deep_not hG, v.tape, v.drawn, es, h⟩ k
theorem Lds.re (hG : Goal Q T) {fr fr1 fr' c : Frame} {xs xs' : List Frame} {v v1 v' : World} {es : Array Event} (τ : Nat → Question → Nat) (n : Nat) (h : stepG Q true (G fr (c :: xs ++ [foot Q])) (re v τ n) = .go (G fr1 (c :: xs ++ [foot Q])) v1 es) (k : Lds Q T fr1 (c :: xs) v1 fr' xs' v') : Lds Q T fr (c :: xs) v fr' xs' v' :=
  .head ⟨deep_not hG, τ, n, es, h⟩ k

/-- In a tree no operation is met that ends the run. -/
theorem wf_alive (hG : Goal Q T) {fr : Frame} {xs : List Frame} (hfk : fr.kind = .normal) (hfr : fr.roundOf = none) (hfd : fr.defers = []) (hxs : ∀ x ∈ xs, x.defers = []) {v : World} (hW : Wf Q T fr xs v) (nT : ¬ T fr (xs ++ [foot Q]) v) (hm : fr.mode = .run)
    {ops : Array Oper} {i : Nat} {rest : List Nat} {k : List Item} {o : Oper} (htd : fr.todo = .inRegion ops (i :: rest) :: k) (ho : ops[i]? = some o) (hw : Region.wanted o (yielded ops fr.tmps) = true) {h : Halt} {v' : World} (r1 : (execOp fr.eval o).run Q v = .halt h v') : ¬ Dead h := by
  intro dd
  have hTm : ∀ fr cs v, T fr cs v → fr.mode = .returning := fun fr cs v h => (hG.at_ fr cs v h).1
  obtain ⟨fr1, xs1, v1, esQ, eQ, W1⟩ := wf_next hW nT
  have noEnd : ∀ {o w' es}, stepG Q true (G fr (xs ++ [foot Q])) v ≠ .ended o w' es := fun {o w' es} e => by rw [eQ] at e; cases e
  have rT : ∀ {p : Program} {u : World} {r : Result Next}, (execOp fr.eval o).run p u = r → ∃ es, (execOp fr.eval o).runT p u #[] = (r, es) := fun {p u r} h => ⟨_, by rw [Sem.runT_eq, h]⟩
  obtain ⟨esq, q1⟩ := rT r1
  have sQ : StepIs Q fr (xs ++ [foot Q]) v ((mop Q fr (xs ++ [foot Q]) o).runT Q v #[]) := step_op hm hfr hfk htd ho hw (.inr (.inr (.inr ⟨_, _, r1, dd⟩)))
  unfold mop at sQ
  rw [runT_bind, q1] at sQ
  cases h with
  | panic x =>
    rcases sQ with ⟨es', e2⟩ | ⟨o, w'', es', e2⟩
    · obtain ⟨rfl, rfl, rfl⟩ := go_inj eQ e2
      refine wf_comes W1 (never_panic hTm _ _ [{ v := x, recovered := false }] _ ?_ ?_ fun y hy => hxs y hy)
      · unfold Frame.raise; rw [hm]
      · unfold Frame.raise; rw [hm]; exact hfd
    · exact noEnd e2
  | stuck s => obtain ⟨o, w'', es', e2⟩ := sQ dd; exact noEnd e2
  | unsupported u => obtain ⟨o, w'', es', e2⟩ := sQ dd; exact noEnd e2
  | _ => exact dd.elim
/-- .. nor a stop. -/
theorem wf_no_stop {fr : Frame} {xs : List Frame} {v : World} (hW : Wf Q T fr xs v) (nT : ¬ T fr (xs ++ [foot Q]) v) (hm : fr.mode = .run) {s : String} {k : List Item} (htd : fr.todo = .code (.refuse s) :: k) : False := by
  obtain ⟨fr1, xs1, v1, esQ, eQ, W1⟩ := wf_next hW nT
  rw [stepG_run (by exact hm)] at eQ
  unfold stepG.exec at eQ
  simp only [G, htd] at eQ
  cases eQ
end
end Go.Sim
end
/- Which number each of package sync's functions and types bears in this program. -/
section
namespace Go.Proofs.YtegkbjpcgelomaaGreatDoor.Wk
open Go Go.Proofs Go.Conc Go.Conc.Lib

abbrev link : WgLink := { add := 153, done := 155, wait := 157, relMerge := 168, disable := 169, enable := 170, inBubble := 171, associate := 172, fatal := 173, uOr := 174, uAdd := 175, raceRead := 176, uLoad := 177, uStore := 178, disassociate := 179, semrelease := 180, acquire := 181, isAssociated := 182, uCas := 183, raceWrite := 184, semacquire := 185, orU64 := 191, addU64 := 192, loadU64 := 193, storeU64 := 194, casU64 := 195, tWgP := 226, tUP := 200, tAssoc := 228, tWg := 214, tAU := 212, tU64 := 174, tUint := 171, tU32 := 197, tPU32 := 232, tPAU := 246, tPU64 := 248, tNoCopy := 208, tANoCopy := 209, tAlign64 := 210 }
theorem wgLib : WgLib Tryz.prog link :=
  ⟨Tryz.func153, Tryz.func155, Tryz.func157, Tryz.func168, Tryz.func169, Tryz.func170, Tryz.func171, Tryz.func172, Tryz.func173, Tryz.func174, Tryz.func175, Tryz.func176, Tryz.func177, Tryz.func178, Tryz.func179, Tryz.func180, Tryz.func181, Tryz.func182, Tryz.func183, Tryz.func184, Tryz.func185, Tryz.func191, Tryz.func192, Tryz.func193, Tryz.func194, Tryz.func195, Tryz.underlying226, Tryz.runUnderlying226, Tryz.sizeOf226, Tryz.isAgg226, Tryz.zeroValue226, Tryz.underlying200, Tryz.runUnderlying200, Tryz.sizeOf200, Tryz.isAgg200, Tryz.zeroValue200, Tryz.underlying228, Tryz.runUnderlying228, Tryz.sizeOf228, Tryz.isAgg228, Tryz.zeroValue228, Tryz.underlying214, Tryz.runUnderlying214, Tryz.sizeOf214, Tryz.isAgg214, Tryz.zeroValue214, Tryz.underlying212, Tryz.runUnderlying212, Tryz.sizeOf212, Tryz.isAgg212, Tryz.zeroValue212, Tryz.underlying174, Tryz.runUnderlying174, Tryz.sizeOf174, Tryz.isAgg174, Tryz.zeroValue174, Tryz.underlying171, Tryz.runUnderlying171, Tryz.sizeOf171, Tryz.isAgg171, Tryz.zeroValue171, Tryz.underlying197, Tryz.runUnderlying197, Tryz.sizeOf197, Tryz.isAgg197, Tryz.zeroValue197, Tryz.underlying232, Tryz.runUnderlying232, Tryz.sizeOf232, Tryz.isAgg232, Tryz.zeroValue232, Tryz.underlying246, Tryz.runUnderlying246, Tryz.sizeOf246, Tryz.isAgg246, Tryz.zeroValue246, Tryz.underlying248, Tryz.runUnderlying248, Tryz.sizeOf248, Tryz.isAgg248, Tryz.zeroValue248, Tryz.underlying0, Tryz.runUnderlying0, Tryz.sizeOf0, Tryz.isAgg0, Tryz.zeroValue0, Tryz.underlying3, Tryz.runUnderlying3, Tryz.sizeOf3, Tryz.isAgg3, Tryz.zeroValue3, Tryz.underlying4, Tryz.runUnderlying4, Tryz.sizeOf4, Tryz.isAgg4, Tryz.zeroValue4, Tryz.underlying9, Tryz.runUnderlying9, Tryz.sizeOf9, Tryz.isAgg9, Tryz.zeroValue9, Tryz.underlying20, Tryz.runUnderlying20, Tryz.sizeOf20, Tryz.isAgg20, Tryz.zeroValue20, Tryz.underlying21, Tryz.runUnderlying21, Tryz.sizeOf21, Tryz.isAgg21, Tryz.zeroValue21, by kernel_rfl, by kernel_rfl⟩
end Go.Proofs.YtegkbjpcgelomaaGreatDoor.Wk
end
/- The first Saturday from a day on: week.From in company: within a number of own steps that is one for all days it comes back, the world as it was or as the others have made it. -/
section
namespace Go.Proofs.YtegkbjpcgelomaaGreatDoor.Wk
open Go Go.Proofs Go.Conc Go.RowKit

theorem mixedP : Tryz.prog.follows .mixedOrders = true := by kernel_rfl
/-- The first Saturday from day x on. -/
def sat (x : Int) : Int := x + (6 - x) % 7
section
variable {main : Bool} {R : World → World → Prop} {D : World → World → Array Event → Prop}
theorem Since.draw (T : Terms R D) (hr : ∀ w : World, R w { w with drawn := w.drawn + 1 }) {w w' : World} (h : Since R w w') : Since R w { w' with drawn := w'.drawn + 1 } := h.rely T (hr _)

set_option maxRecDepth 100000 in
set_option maxHeartbeats 4000000 in
theorem both_co (T : Terms R D) (hd : LetsDraw D) (hr : ∀ w : World, R w { w with drawn := w.drawn + 1 }) : ∃ n, ∀ (x : Int) (w : World), -1000000000 ≤ x → x ≤ 1000000000 →
    CallsC Tryz.prog main R D 85 #[.int .i64 x, .int .i64 7] n w fun v w' => (∃ q, v = .tuple #[q, .int .i64 (x % 7)]) ∧ Since R w w' := by
  co_apply Exists.intro
  intro x w h0 h1
  have q1 : IntKind.i64.wrap (Int.tdiv x 7) = Int.tdiv x 7 := by
    have e1 : Int.tdiv x 7 * 7 + Int.tmod x 7 = x := Int.tdiv_mul_add_tmod x 7
    have e2 : -7 < Int.tmod x 7 ∧ Int.tmod x 7 < 7 := ⟨by have := Int.lt_tmod_of_pos x (b := 7) (by omega); omega, Int.tmod_lt_of_pos x (by omega)⟩
    rw [IntKind.wrap_i64]; omega
  have q2 : IntKind.i64.wrap (Int.tmod x 7) = Int.tmod x 7 := by
    have e2 : -7 < Int.tmod x 7 ∧ Int.tmod x 7 < 7 := ⟨by have := Int.lt_tmod_of_pos x (b := 7) (by omega); omega, Int.tmod_lt_of_pos x (by omega)⟩
    rw [IntKind.wrap_i64]; omega
  co_apply callsC_of_wpC Tryz.func85 (by rfl) rfl
  have hF : Since R w w := .refl w
  simp only [Tryz.ntmps85, List.size_toArray, List.length_cons, List.length_nil, Nat.reduceAdd, Nat.reduceSub, Array.replicate_succ, Array.replicate_zero, List.push_toArray, List.append_toArray, List.nil_append, List.cons_append]
  co_apply wpC_seq T
  co_reg T
  co_op (Since.rely T) hF (co_quiet T)
  co_op (Since.rely T) hF (co_quiet T)
  co_apply opsC_nil T
  co_then
  co_apply wpC_seq_mid T (fun a' w' => Since R w w' ∧ a' = { tmps := #[.int .i64 x, .int .i64 7, undef, undef, .int .i64 0, .int .i64 0, .int .i64 (Int.tdiv x 7), .int .i64 (Int.tmod x 7), .int .i64 x, .int .i64 7, .int .i64 (Int.tdiv x 7), .int .i64 x, .int .i64 7, .int .i64 (Int.tmod x 7), undef, undef, undef, undef, undef, undef, undef, undef, undef], defers := [] })
  · co_apply wpC_region_held T hd (S := fun _ => True) mixedP
    intro w₁ h₁
    have hF := Since.draw T hr (Since.rely T hF h₁)
    clear h₁
    refine anyCH_take T (fun _ _ h _ => h) (fun _ _ _ hq r => ⟨hq.1.rely T r, hq.2⟩) (i := 0) rfl (by kernel_rfl) (by kernel_rfl) (by kernel_rfl) (.inl ⟨rfl, fun w _ => ⟨rfl, by co_quiet T⟩⟩) trivial ?_
    try walk_nrm
    refine anyCH_take T (fun _ _ h _ => h) (fun _ _ _ hq r => ⟨hq.1.rely T r, hq.2⟩) (i := 1) rfl (by kernel_rfl) (by kernel_rfl) (by kernel_rfl) (.inl ⟨rfl, fun w _ => ⟨rfl, by co_quiet T⟩⟩) trivial ?_
    try walk_nrm
    refine anyCH_take T (fun _ _ h _ => h) (fun _ _ _ hq r => ⟨hq.1.rely T r, hq.2⟩) (i := 2) (v := .int .i64 (Int.tdiv x 7)) rfl (by kernel_rfl) (by kernel_rfl) (by kernel_rfl) (.inl ⟨rfl, fun w _ => ⟨by go_simp; try simp [q1, q2], by co_quiet T⟩⟩) trivial ?_
    try walk_nrm
    refine anyCH_take T (fun _ _ h _ => h) (fun _ _ _ hq r => ⟨hq.1.rely T r, hq.2⟩) (i := 3) rfl (by kernel_rfl) (by kernel_rfl) (by kernel_rfl) (.inl ⟨rfl, fun w _ => ⟨rfl, by co_quiet T⟩⟩) trivial ?_
    try walk_nrm
    refine anyCH_take T (fun _ _ h _ => h) (fun _ _ _ hq r => ⟨hq.1.rely T r, hq.2⟩) (i := 4) rfl (by kernel_rfl) (by kernel_rfl) (by kernel_rfl) (.inl ⟨rfl, fun w _ => ⟨rfl, by co_quiet T⟩⟩) trivial ?_
    try walk_nrm
    refine anyCH_take T (fun _ _ h _ => h) (fun _ _ _ hq r => ⟨hq.1.rely T r, hq.2⟩) (i := 5) (v := .int .i64 (Int.tmod x 7)) rfl (by kernel_rfl) (by kernel_rfl) (by kernel_rfl) (.inl ⟨rfl, fun w _ => ⟨by go_simp; try simp [q1, q2], by co_quiet T⟩⟩) trivial ?_
    try walk_nrm
    refine anyCH_take T (fun _ _ h _ => h) (fun _ _ _ hq r => ⟨hq.1.rely T r, hq.2⟩) (i := 6) rfl (by kernel_rfl) (by kernel_rfl) (by kernel_rfl) (.inl ⟨rfl, fun w _ => ⟨rfl, by co_quiet T⟩⟩) trivial ?_
    try walk_nrm
    refine anyCH_take T (fun _ _ h _ => h) (fun _ _ _ hq r => ⟨hq.1.rely T r, hq.2⟩) (i := 7) rfl (by kernel_rfl) (by kernel_rfl) (by kernel_rfl) (.inl ⟨rfl, fun w _ => ⟨rfl, by co_quiet T⟩⟩) trivial ?_
    try walk_nrm
    exact anyCH_done (by kernel_rfl) ⟨hF, rfl⟩ _
  · rintro a' w' ⟨hF, rfl⟩
    have e3 : x % 7 = if Int.tmod x 7 < 0 then Int.tmod x 7 + 7 else Int.tmod x 7 := by
      have e1 : Int.tdiv x 7 * 7 + Int.tmod x 7 = x := Int.tdiv_mul_add_tmod x 7
      have e2 : -7 < Int.tmod x 7 ∧ Int.tmod x 7 < 7 := ⟨by have := Int.lt_tmod_of_pos x (b := 7) (by omega); omega, Int.tmod_lt_of_pos x (by omega)⟩
      split <;> omega
    have q3 : IntKind.i64.wrap (Int.tmod x 7 + 7) = Int.tmod x 7 + 7 := by
      have e2 : -7 < Int.tmod x 7 ∧ Int.tmod x 7 < 7 := ⟨by have := Int.lt_tmod_of_pos x (b := 7) (by omega); omega, Int.tmod_lt_of_pos x (by omega)⟩
      rw [IntKind.wrap_i64]; omega
    co_go T (Since.rely T) hF (co_quiet T)
    co_split T (decide (Int.tmod x 7 < 0))
    · intro ht
      have ht := of_decide_eq_true ht
      co_go T (Since.rely T) hF (co_quiet T)
      exact ⟨rfl, _, resultsC_tmp2 (by rfl) _, ⟨_, by rw [e3, if_pos ht, ← q3]; rfl⟩, hF⟩
    · intro ht
      have ht := of_decide_eq_false ht
      co_go T (Since.rely T) hF (co_quiet T)
      exact ⟨rfl, _, resultsC_tmp2 (by rfl) _, ⟨_, by rw [e3, if_neg ht]; rfl⟩, hF⟩

set_option maxRecDepth 100000 in
set_option maxHeartbeats 4000000 in
theorem mod_co (T : Terms R D) (hd : LetsDraw D) (hr : ∀ w : World, R w { w with drawn := w.drawn + 1 }) : ∃ n, ∀ (x : Int) (w : World), -1000000000 ≤ x → x ≤ 1000000000 →
    CallsC Tryz.prog main R D 44 #[.int .i64 x, .int .i64 7] n w fun v w' => v = .tuple #[.int .i64 (x % 7), .int .i64 0] ∧ Since R w w' := by
  obtain ⟨nf, hc⟩ := both_co (main := main) T hd hr
  co_apply Exists.intro
  intro x w h0 h1
  co_apply callsC_of_wpC Tryz.func44 (by rfl) rfl
  have hF : Since R w w := .refl w
  simp only [Tryz.ntmps44, List.size_toArray, List.length_cons, List.length_nil, Nat.reduceAdd, Nat.reduceSub, Array.replicate_succ, Array.replicate_zero, List.push_toArray, List.append_toArray, List.nil_append, List.cons_append]
  co_go T (Since.rely T) hF (co_quiet T)
  co_apply wpC_cond T (t := false)
  focus (simp [Act.eval])
  simp only [Bool.false_eq_true, if_false, ↓reduceIte]
  co_go T (Since.rely T) hF (co_quiet T)
  co_apply opsC_call T rfl (by rfl) rfl
  · walk_nrm
    exact hc x _ h0 h1
  rintro v w' ⟨⟨q, rfl⟩, hs⟩
  have hF : Since R w w' := by
    rcases hs with rfl | hs
    · exact hF
    · exact hF.rely T hs
  walk_nrm
  co_go T (Since.rely T) hF (co_quiet T)
  exact ⟨rfl, _, resultsC_tmp2 (by rfl) _, rfl, hF⟩

set_option maxRecDepth 100000 in
set_option maxHeartbeats 4000000 in
theorem weekday_co (T : Terms R D) (hd : LetsDraw D) (hr : ∀ w : World, R w { w with drawn := w.drawn + 1 }) : ∃ n, ∀ (x : Int) (w : World), -1000000000 ≤ x → x ≤ 1000000000 →
    CallsC Tryz.prog main R D 19 #[.int .i64 x] n w fun v w' => v = .int .i64 (x % 7) ∧ Since R w w' := by
  obtain ⟨nf, hc⟩ := mod_co (main := main) T hd hr
  co_apply Exists.intro
  intro x w h0 h1
  co_apply callsC_of_wpC Tryz.func19 (by rfl) rfl
  have hF : Since R w w := .refl w
  simp only [Tryz.ntmps19, List.size_toArray, List.length_cons, List.length_nil, Nat.reduceAdd, Nat.reduceSub, Array.replicate_succ, Array.replicate_zero, List.push_toArray, List.append_toArray, List.nil_append, List.cons_append]
  co_go T (Since.rely T) hF (co_quiet T)
  co_apply opsC_call T rfl (by rfl) rfl
  · walk_nrm
    exact hc x _ h0 h1
  rintro v w' ⟨rfl, hs⟩
  have hF : Since R w w' := by
    rcases hs with rfl | hs
    · exact hF
    · exact hF.rely T hs
  walk_nrm
  co_go T (Since.rely T) hF (co_quiet T)
  exact ⟨rfl, _, resultsC_tmp (by rfl) _, rfl, hF⟩

set_option maxRecDepth 100000 in
set_option maxHeartbeats 4000000 in
theorem from_co (T : Terms R D) (hd : LetsDraw D) (hr : ∀ w : World, R w { w with drawn := w.drawn + 1 }) : ∃ n, ∀ (x : Int) (w : World), -900000000 ≤ x → x ≤ 900000000 →
    CallsC Tryz.prog main R D 104 #[.int .i64 x, .int .i64 6] n w fun v w' => v = .int .i64 (sat x) ∧ Since R w w' := by
  obtain ⟨nf, hc⟩ := weekday_co (main := main) T hd hr
  co_apply Exists.intro
  intro x w h0 h1
  co_apply callsC_of_wpC Tryz.func104 (by rfl) rfl
  have hF : Since R w w := .refl w
  simp only [Tryz.ntmps104, List.size_toArray, List.length_cons, List.length_nil, Nat.reduceAdd, Nat.reduceSub, Array.replicate_succ, Array.replicate_zero, List.push_toArray, List.append_toArray, List.nil_append, List.cons_append]
  have q1 : IntKind.i64.wrap (6 - x) = 6 - x := by rw [IntKind.wrap_i64]; omega
  have q2 : IntKind.i64.wrap (x + (6 - x) % 7) = sat x := by unfold sat; rw [IntKind.wrap_i64]; omega
  co_go T (Since.rely T) hF (co_quiet T)
  co_apply wpC_cond T (t := false)
  focus (simp [Act.eval])
  simp only [Bool.false_eq_true, if_false, ↓reduceIte]
  co_go T (Since.rely T) hF (co_quiet T)
  try rw [q1]
  co_apply opsC_call T rfl (by rfl) rfl
  · walk_nrm
    exact hc (6 - x) _ (by omega) (by omega)
  rintro v w' ⟨rfl, hs⟩
  have hF : Since R w w' := by
    rcases hs with rfl | hs
    · exact hF
    · exact hF.rely T hs
  walk_nrm
  co_go T (Since.rely T) hF (co_quiet T)
  exact ⟨rfl, _, resultsC_tmp (by rfl) _, by rw [← q2]; rfl, hF⟩
end
end Go.Proofs.YtegkbjpcgelomaaGreatDoor.Wk
end
