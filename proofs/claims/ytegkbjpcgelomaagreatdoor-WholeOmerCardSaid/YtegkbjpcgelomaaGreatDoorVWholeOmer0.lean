/- The program that stands beside: its own functions are the seat's, but for those that start goroutines, wait or mark (stops), and two stand-ins. -/
import Derived.Test.YtegkbjpcgelomaaGreatDoorZ3
import Derived.Test.YtegkbjpcgelomaaGreatDoorProg
import Derived.KernelRfl
import Derived.Test.YtegkbjpcgelomaaGreatDoorZ7
set_option linter.unusedVariables false
section
set_option maxRecDepth 20000
namespace Go.Proofs
open Go Go.Sim

@[simp] theorem Tryq.func8 : Tryq.prog.funcs[8]? = some Tryz.f8 := (Tryq.same rfl).trans Tryz.func8
theorem Tryq.ntmps8 : Func.ntmps Tryz.f8 = 272 := Tryz.ntmps8
@[simp] theorem Tryq.func9 : Tryq.prog.funcs[9]? = some Tryz.f9 := (Tryq.same rfl).trans Tryz.func9
theorem Tryq.ntmps9 : Func.ntmps Tryz.f9 = 130 := Tryz.ntmps9
@[simp] theorem Tryq.func30 : Tryq.prog.funcs[30]? = some Tryz.f30 := (Tryq.same rfl).trans Tryz.func30
theorem Tryq.ntmps30 : Func.ntmps Tryz.f30 = 42 := Tryz.ntmps30
@[simp] theorem Tryq.call30 (args : Array Value) (w : World) : (callFunc 30 args).run Tryq.prog w = .ok (.enter 30 args) w := Tryq.calls Tryq.func30 (by kernel_rfl) rfl args w
@[simp] theorem Tryq.func32 : Tryq.prog.funcs[32]? = some Tryz.f32 := (Tryq.same rfl).trans Tryz.func32
theorem Tryq.ntmps32 : Func.ntmps Tryz.f32 = 70 := Tryz.ntmps32
@[simp] theorem Tryq.call32 (args : Array Value) (w : World) : (callFunc 32 args).run Tryq.prog w = .ok (.enter 32 args) w := Tryq.calls Tryq.func32 (by kernel_rfl) rfl args w
@[simp] theorem Tryq.func33 : Tryq.prog.funcs[33]? = some Tryz.f33 := (Tryq.same rfl).trans Tryz.func33
theorem Tryq.ntmps33 : Func.ntmps Tryz.f33 = 45 := Tryz.ntmps33
@[simp] theorem Tryq.call33 (args : Array Value) (w : World) : (callFunc 33 args).run Tryq.prog w = .ok (.enter 33 args) w := Tryq.calls Tryq.func33 (by kernel_rfl) rfl args w
@[simp] theorem Tryq.func34 : Tryq.prog.funcs[34]? = some Tryz.f34 := (Tryq.same rfl).trans Tryz.func34
theorem Tryq.ntmps34 : Func.ntmps Tryz.f34 = 5 := Tryz.ntmps34
@[simp] theorem Tryq.call34 (args : Array Value) (w : World) : (callFunc 34 args).run Tryq.prog w = .ok (.enter 34 args) w := Tryq.calls Tryq.func34 (by kernel_rfl) rfl args w
@[simp] theorem Tryq.func35 : Tryq.prog.funcs[35]? = some Tryz.f35 := (Tryq.same rfl).trans Tryz.func35
theorem Tryq.ntmps35 : Func.ntmps Tryz.f35 = 95 := Tryz.ntmps35
@[simp] theorem Tryq.call35 (args : Array Value) (w : World) : (callFunc 35 args).run Tryq.prog w = .ok (.enter 35 args) w := Tryq.calls Tryq.func35 (by kernel_rfl) rfl args w
@[simp] theorem Tryq.func66 : Tryq.prog.funcs[66]? = some Tryz.f66 := (Tryq.same rfl).trans Tryz.func66
theorem Tryq.ntmps66 : Func.ntmps Tryz.f66 = 55 := Tryz.ntmps66
@[simp] theorem Tryq.call66 (args : Array Value) (w : World) : (callFunc 66 args).run Tryq.prog w = .ok (.enter 66 args) w := Tryq.calls Tryq.func66 (by kernel_rfl) rfl args w
@[simp] theorem Tryq.func69 : Tryq.prog.funcs[69]? = some Tryz.f69 := (Tryq.same rfl).trans Tryz.func69
theorem Tryq.ntmps69 : Func.ntmps Tryz.f69 = 31 := Tryz.ntmps69
@[simp] theorem Tryq.call69 (args : Array Value) (w : World) : (callFunc 69 args).run Tryq.prog w = .ok (.enter 69 args) w := Tryq.calls Tryq.func69 (by kernel_rfl) rfl args w
@[simp] theorem Tryq.func70 : Tryq.prog.funcs[70]? = some Tryz.f70 := (Tryq.same rfl).trans Tryz.func70
theorem Tryq.ntmps70 : Func.ntmps Tryz.f70 = 10 := Tryz.ntmps70
@[simp] theorem Tryq.call70 (args : Array Value) (w : World) : (callFunc 70 args).run Tryq.prog w = .ok (.enter 70 args) w := Tryq.calls Tryq.func70 (by kernel_rfl) rfl args w
@[simp] theorem Tryq.func71 : Tryq.prog.funcs[71]? = some Tryz.f71 := (Tryq.same rfl).trans Tryz.func71
theorem Tryq.ntmps71 : Func.ntmps Tryz.f71 = 15 := Tryz.ntmps71
@[simp] theorem Tryq.call71 (args : Array Value) (w : World) : (callFunc 71 args).run Tryq.prog w = .ok (.enter 71 args) w := Tryq.calls Tryq.func71 (by kernel_rfl) rfl args w
@[simp] theorem Tryq.func72 : Tryq.prog.funcs[72]? = some Tryz.f72 := (Tryq.same rfl).trans Tryz.func72
theorem Tryq.ntmps72 : Func.ntmps Tryz.f72 = 34 := Tryz.ntmps72
@[simp] theorem Tryq.call72 (args : Array Value) (w : World) : (callFunc 72 args).run Tryq.prog w = .ok (.enter 72 args) w := Tryq.calls Tryq.func72 (by kernel_rfl) rfl args w
@[simp] theorem Tryq.call104 (args : Array Value) (w : World) : (callFunc 104 args).run Tryq.prog w = .ok (.enter 104 args) w := Tryq.calls Tryq.func104 (by kernel_rfl) rfl args w
@[simp] theorem Tryq.func105 : Tryq.prog.funcs[105]? = some Tryz.f105 := (Tryq.same rfl).trans Tryz.func105
theorem Tryq.ntmps105 : Func.ntmps Tryz.f105 = 18 := Tryz.ntmps105
@[simp] theorem Tryq.call105 (args : Array Value) (w : World) : (callFunc 105 args).run Tryq.prog w = .ok (.enter 105 args) w := Tryq.calls Tryq.func105 (by kernel_rfl) rfl args w
@[simp] theorem Tryq.func106 : Tryq.prog.funcs[106]? = some Tryz.f106 := (Tryq.same rfl).trans Tryz.func106
theorem Tryq.ntmps106 : Func.ntmps Tryz.f106 = 10 := Tryz.ntmps106
@[simp] theorem Tryq.call106 (args : Array Value) (w : World) : (callFunc 106 args).run Tryq.prog w = .ok (.enter 106 args) w := Tryq.calls Tryq.func106 (by kernel_rfl) rfl args w
end Go.Proofs
end
