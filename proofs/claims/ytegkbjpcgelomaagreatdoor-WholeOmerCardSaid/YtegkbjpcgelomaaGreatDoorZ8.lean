/- Facts of the program that stands beside, in the shapes that the walks' simp asks for. -/
import Derived.Test.YtegkbjpcgelomaaGreatDoorZ7
set_option linter.unusedVariables false
section
namespace Go.Proofs
open Go Go.Sim

namespace QfW
variable (P R : Program) (fs : Array Func) (t : TypeId) (w : World)
theorem bind_run {α β : Type} {s : Sem α} {f : α → Sem β} (h : s.run R w = s.run P w) (k : ∀ a w, (f a).run R w = (f a).run P w) : (s.bind f).run R w = (s.bind f).run P w := by
  have e1 : (s.bind f).run R w = _ := Sem.run_bind' _ _ _ _
  have e2 : (s.bind f).run P w = _ := Sem.run_bind' _ _ _ _
  rw [h] at e1
  refine e1.trans (Eq.trans ?_ e2.symm)
  cases hr : s.run P w with
  | ok d w => simp only [Result.andThen]; exact k d w
  | halt h w => simp only [Result.andThen]
theorem info_run : (typeInfo t).run (wf P fs) w = (typeInfo t).run P w := by
  show (match P.info? t with | some i => pure i | none => stuck "no such type" : Sem TypeInfo).run _ w = (match P.info? t with | some i => pure i | none => stuck "no such type" : Sem TypeInfo).run _ w
  cases P.info? t <;> rfl
theorem under_run : (underlying t).run (wf P fs) w = (underlying t).run P w := by
  show (match P.underlying t with | some i => pure i | none => stuck "no such type" : Sem TypeDesc).run _ w = (match P.underlying t with | some i => pure i | none => stuck "no such type" : Sem TypeDesc).run _ w
  cases P.underlying t <;> rfl
theorem size_run : (sizeOf t).run (wf P fs) w = (sizeOf t).run P w := bind_run P (wf P fs) w (info_run P fs t w) fun _ _ => rfl
def aggOf : TypeDesc → Sem Bool := fun d => match d with
  | .struct _ | .array _ _ => pure true
  | _ => pure false
theorem aggOf_run (d : TypeDesc) : (aggOf d).run R w = (aggOf d).run P w := by
  unfold aggOf
  split <;> rfl
theorem agg_run : (isAgg t).run (wf P fs) w = (isAgg t).run P w := by
  show ((underlying t).bind aggOf).run _ _ = ((underlying t).bind aggOf).run _ _
  exact bind_run P _ w (under_run P fs t w) fun a w => aggOf_run P _ w a
def zeroOf : TypeInfo → Sem Value := fun d => match d.zero with
  | some v => pure v
  | none => unsupported (.resourceLimit "a value of more than 2^22 cells")
theorem zeroOf_run (d : TypeInfo) : (zeroOf d).run R w = (zeroOf d).run P w := by
  unfold zeroOf
  split <;> rfl
theorem zero_run : (zeroValue t).run (wf P fs) w = (zeroValue t).run P w := by
  show ((typeInfo t).bind zeroOf).run _ _ = ((typeInfo t).bind zeroOf).run _ _
  exact bind_run P _ w (info_run P fs t w) fun a w => zeroOf_run P _ w a
end QfW
theorem Tryq.prog_eq : Tryq.prog = wf Tryz.prog Tryq.funcs := by with_unfolding_all rfl
@[simp] theorem Tryq.info_run (t : TypeId) (w : World) : (typeInfo t).run Tryq.prog w = (typeInfo t).run Tryz.prog w := by rw [Tryq.prog_eq]; exact QfW.info_run Tryz.prog Tryq.funcs t w
@[simp] theorem Tryq.under_run (t : TypeId) (w : World) : (underlying t).run Tryq.prog w = (underlying t).run Tryz.prog w := by rw [Tryq.prog_eq]; exact QfW.under_run Tryz.prog Tryq.funcs t w
@[simp] theorem Tryq.under_eq (t : TypeId) : Tryq.prog.underlying t = Tryz.prog.underlying t := by rw [Tryq.prog_eq]; exact under_wf (P := Tryz.prog) (fs := Tryq.funcs) t
@[simp] theorem Tryq.size_run (t : TypeId) (w : World) : (sizeOf t).run Tryq.prog w = (sizeOf t).run Tryz.prog w := by rw [Tryq.prog_eq]; exact QfW.size_run Tryz.prog Tryq.funcs t w
@[simp] theorem Tryq.agg_run (t : TypeId) (w : World) : (isAgg t).run Tryq.prog w = (isAgg t).run Tryz.prog w := by rw [Tryq.prog_eq]; exact QfW.agg_run Tryz.prog Tryq.funcs t w
@[simp] theorem Tryq.zero_run (t : TypeId) (w : World) : (zeroValue t).run Tryq.prog w = (zeroValue t).run Tryz.prog w := by rw [Tryq.prog_eq]; exact QfW.zero_run Tryz.prog Tryq.funcs t w
@[simp] theorem Tryq.guard_eq (d : Nat) (t : TypeId) : Tryq.prog.eqGuardType d t = Tryz.prog.eqGuardType d t := by rw [Tryq.prog_eq]; exact eqGuardType_wf (P := Tryz.prog) (fs := Tryq.funcs) d t
@[simp] theorem Tryq.stood_eq (t : TypeId) : Tryq.prog.stoodInHeld t = Tryz.prog.stoodInHeld t := by rw [Tryq.prog_eq]; exact stoodInHeld_wf (P := Tryz.prog) (fs := Tryq.funcs) t
theorem QfW.depth_eq (P : Program) (fs : Array Func) : (wf P fs).depth = P.depth := rfl
@[simp] theorem Tryq.depth_eq : Tryq.prog.depth = Tryz.prog.depth := by rw [Tryq.prog_eq]; exact QfW.depth_eq _ _
end Go.Proofs
end
/- The types' shapes in the program that stands beside. -/
section
namespace Go.Proofs
open Go
theorem Tryq.underlying0 : Tryq.prog.underlying 0 = some (TypeDesc.tuple #[]) := (Tryq.under_eq 0).trans Tryz.underlying0
theorem Tryq.underlying3 : Tryq.prog.underlying 3 = some (TypeDesc.int IntKind.i64) := (Tryq.under_eq 3).trans Tryz.underlying3
theorem Tryq.underlying4 : Tryq.prog.underlying 4 = some TypeDesc.bool := (Tryq.under_eq 4).trans Tryz.underlying4
theorem Tryq.underlying5 : Tryq.prog.underlying 5 = some (TypeDesc.int IntKind.u8) := (Tryq.under_eq 5).trans Tryz.underlying5
theorem Tryq.underlying9 : Tryq.prog.underlying 9 = some TypeDesc.string := (Tryq.under_eq 9).trans Tryz.underlying9
theorem Tryq.underlying20 : Tryq.prog.underlying 20 = some (TypeDesc.interface #[]) := (Tryq.under_eq 20).trans Tryz.underlying20
theorem Tryq.underlying21 : Tryq.prog.underlying 21 = some (TypeDesc.int IntKind.i32) := (Tryq.under_eq 21).trans Tryz.underlying21
theorem Tryq.underlying22 : Tryq.prog.underlying 22 = some (TypeDesc.int IntKind.u16) := (Tryq.under_eq 22).trans Tryz.underlying22
theorem Tryq.underlying31 : Tryq.prog.underlying 31 = some (TypeDesc.struct #[{ name := "Begins", type := 3, offset := 0, embedded := false, tag := "", pkgPath := "", byteOffset := 0 }, { name := "Kind", type := 3, offset := 1, embedded := false, tag := "", pkgPath := "", byteOffset := 8 }, { name := "Leap", type := 4, offset := 2, embedded := false, tag := "", pkgPath := "", byteOffset := 16 }]) := (Tryq.under_eq 31).trans Tryz.underlying31
theorem Tryq.underlying46 : Tryq.prog.underlying 46 = some (TypeDesc.struct #[{ name := "Num", type := 3, offset := 0, embedded := false, tag := "", pkgPath := "", byteOffset := 0 }, { name := "Leap", type := 4, offset := 1, embedded := false, tag := "", pkgPath := "", byteOffset := 8 }]) := (Tryq.under_eq 46).trans Tryz.underlying46
theorem Tryq.underlying48 : Tryq.prog.underlying 48 = some (TypeDesc.struct #[{ name := "Year", type := 3, offset := 0, embedded := false, tag := "", pkgPath := "", byteOffset := 0 }, { name := "Month", type := 46, offset := 1, embedded := false, tag := "", pkgPath := "", byteOffset := 8 }, { name := "Day", type := 3, offset := 3, embedded := false, tag := "", pkgPath := "", byteOffset := 24 }]) := (Tryq.under_eq 48).trans Tryz.underlying48
theorem Tryq.underlying70 : Tryq.prog.underlying 70 = some (TypeDesc.slice 3) := (Tryq.under_eq 70).trans Tryz.underlying70
theorem Tryq.underlying90 : Tryq.prog.underlying 90 = some (TypeDesc.struct #[{ name := "days", type := 88, offset := 0, embedded := false, tag := "", pkgPath := "almanacker/month", byteOffset := 0 }, { name := "n", type := 3, offset := 13, embedded := false, tag := "", pkgPath := "almanacker/month", byteOffset := 104 }]) := (Tryq.under_eq 90).trans Tryz.underlying90
theorem Tryq.underlying151 : Tryq.prog.underlying 151 = some (TypeDesc.pointer 154) := (Tryq.under_eq 151).trans Tryz.underlying151
theorem Tryq.underlying152 : Tryq.prog.underlying 152 = some (TypeDesc.slice 5) := (Tryq.under_eq 152).trans Tryz.underlying152
theorem Tryq.underlying154 : Tryq.prog.underlying 154 = some (TypeDesc.struct #[{ name := "addr", type := 151, offset := 0, embedded := false, tag := "", pkgPath := "strings", byteOffset := 0 }, { name := "buf", type := 152, offset := 1, embedded := false, tag := "", pkgPath := "strings", byteOffset := 8 }]) := (Tryq.under_eq 154).trans Tryz.underlying154
theorem Tryq.underlying171 : Tryq.prog.underlying 171 = some (TypeDesc.int IntKind.u64) := (Tryq.under_eq 171).trans Tryz.underlying171
theorem Tryq.underlying174 : Tryq.prog.underlying 174 = some (TypeDesc.int IntKind.u64) := (Tryq.under_eq 174).trans Tryz.underlying174
theorem Tryq.underlying178 : Tryq.prog.underlying 178 = some (TypeDesc.pointer 5) := (Tryq.under_eq 178).trans Tryz.underlying178
theorem Tryq.underlying197 : Tryq.prog.underlying 197 = some (TypeDesc.int IntKind.u32) := (Tryq.under_eq 197).trans Tryz.underlying197
theorem Tryq.underlying200 : Tryq.prog.underlying 200 = some TypeDesc.unsafePointer := (Tryq.under_eq 200).trans Tryz.underlying200
theorem Tryq.underlying205 : Tryq.prog.underlying 205 = some (TypeDesc.chan ChanDir.both 3) := (Tryq.under_eq 205).trans Tryz.underlying205
theorem Tryq.underlying206 : Tryq.prog.underlying 206 = some (TypeDesc.chan ChanDir.both 207) := (Tryq.under_eq 206).trans Tryz.underlying206
theorem Tryq.underlying212 : Tryq.prog.underlying 212 = some (TypeDesc.struct #[{ name := "_", type := 209, offset := 0, embedded := false, tag := "", pkgPath := "sync/atomic", byteOffset := 0 }, { name := "_", type := 210, offset := 0, embedded := false, tag := "", pkgPath := "sync/atomic", byteOffset := 0 }, { name := "v", type := 174, offset := 0, embedded := false, tag := "", pkgPath := "sync/atomic", byteOffset := 0 }]) := (Tryq.under_eq 212).trans Tryz.underlying212
theorem Tryq.underlying214 : Tryq.prog.underlying 214 = some (TypeDesc.struct #[{ name := "noCopy", type := 208, offset := 0, embedded := false, tag := "", pkgPath := "sync", byteOffset := 0 }, { name := "state", type := 212, offset := 0, embedded := false, tag := "", pkgPath := "sync", byteOffset := 0 }, { name := "sema", type := 197, offset := 1, embedded := false, tag := "", pkgPath := "sync", byteOffset := 8 }]) := (Tryq.under_eq 214).trans Tryz.underlying214
theorem Tryq.underlying226 : Tryq.prog.underlying 226 = some (TypeDesc.pointer 214) := (Tryq.under_eq 226).trans Tryz.underlying226
theorem Tryq.underlying228 : Tryq.prog.underlying 228 = some (TypeDesc.int IntKind.i64) := (Tryq.under_eq 228).trans Tryz.underlying228
theorem Tryq.underlying232 : Tryq.prog.underlying 232 = some (TypeDesc.pointer 197) := (Tryq.under_eq 232).trans Tryz.underlying232
theorem Tryq.underlying246 : Tryq.prog.underlying 246 = some (TypeDesc.pointer 212) := (Tryq.under_eq 246).trans Tryz.underlying246
theorem Tryq.underlying248 : Tryq.prog.underlying 248 = some (TypeDesc.pointer 174) := (Tryq.under_eq 248).trans Tryz.underlying248
end Go.Proofs
end
