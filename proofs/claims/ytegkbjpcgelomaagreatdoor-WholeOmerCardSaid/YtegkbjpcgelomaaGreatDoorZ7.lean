/- The program that stands beside: its own functions are the seat's, but for those that start goroutines, wait or mark (stops), and two stand-ins. -/
import Derived.Test.YtegkbjpcgelomaaGreatDoorZ3
import Derived.Test.YtegkbjpcgelomaaGreatDoorProg
import Derived.KernelRfl
set_option linter.unusedVariables false
section
set_option maxRecDepth 20000
namespace Go.Proofs
open Go Go.Sim

/-- In sabbath.upto's place: it takes the Saturdays by itself. -/
def Tryq.up : Func :=
  { name := "up", origin := "", params := #[3, 3], resultTypes := #[70], nfree := 0, ntmps := 28, results := #[ResultVar.tmp 4],
    body := some (Code.seq (Code.region 0 #[{ dst := some 28, op := Op.assign (Operand.const (Value.pointer none)), type := 0, pos := "", after := #[], guard := none }] false) (Code.seq (Code.region 1 #[{ dst := none, op := Op.nilCheck (Operand.tmp 28), type := 0, pos := "", after := #[], guard := none }] false) (Code.seq (Code.region 2 #[{ dst := some 10, op := Op.binOp BinOp.geq 3 (Operand.tmp 0) (Operand.const (Value.int IntKind.i64 (-10000000))) 3, type := 4, pos := "", after := #[], guard := none }] false) (Code.seq (Code.cond (Operand.tmp 10) Code.skip (Code.refuse "")) (Code.seq (Code.region 3 #[{ dst := some 10, op := Op.binOp BinOp.leq 3 (Operand.tmp 0) (Operand.const (Value.int IntKind.i64 100000000)) 3, type := 4, pos := "", after := #[], guard := none }] false) (Code.seq (Code.cond (Operand.tmp 10) Code.skip (Code.refuse "")) (Code.seq (Code.region 4 #[{ dst := some 10, op := Op.binOp BinOp.leq 3 (Operand.tmp 1) (Operand.const (Value.int IntKind.i64 100000000)) 3, type := 4, pos := "", after := #[], guard := none }] false) (Code.seq (Code.cond (Operand.tmp 10) Code.skip (Code.refuse "")) (Code.seq (Code.region 20 #[{ dst := none, op := Op.range 9 (Operand.const (Value.string ByteArray.empty)), type := 0, pos := "", after := #[], guard := none }] false) (Code.seq (Code.region 21 #[{ dst := none, op := Op.range 9 (Operand.const (Value.string ByteArray.empty)), type := 0, pos := "", after := #[], guard := none }] false) (Code.seq (Code.region 22 #[{ dst := none, op := Op.range 9 (Operand.const (Value.string ByteArray.empty)), type := 0, pos := "", after := #[], guard := none }] false) (Code.seq (Code.region 23 #[{ dst := none, op := Op.range 9 (Operand.const (Value.string ByteArray.empty)), type := 0, pos := "", after := #[], guard := none }] false) (Code.seq (Code.region 24 #[{ dst := none, op := Op.range 9 (Operand.const (Value.string ByteArray.empty)), type := 0, pos := "", after := #[], guard := none }] false) (Code.seq (Code.region 25 #[{ dst := none, op := Op.range 9 (Operand.const (Value.string ByteArray.empty)), type := 0, pos := "", after := #[], guard := none }] false) (Code.seq (Code.region 5 #[{ dst := some 8, op := Op.assign (Operand.const (Value.slice none 0 0)), type := 70, pos := "", after := #[], guard := none }] false) (Code.seq (Code.region 13 #[{ dst := some 10, op := Op.binOp BinOp.add 3 (Operand.tmp 0) (Operand.const (Value.int IntKind.i64 70000001)) 3, type := 3, pos := "", after := #[], guard := none }] false) (Code.seq (Code.region 14 #[{ dst := some 11, op := Op.binOp BinOp.rem 3 (Operand.tmp 10) (Operand.const (Value.int IntKind.i64 7)) 3, type := 3, pos := "", after := #[], guard := none }] false) (Code.seq (Code.region 15 #[{ dst := some 12, op := Op.binOp BinOp.sub 3 (Operand.const (Value.int IntKind.i64 7)) (Operand.tmp 11) 3, type := 3, pos := "", after := #[], guard := none }] false) (Code.seq (Code.region 16 #[{ dst := some 13, op := Op.binOp BinOp.rem 3 (Operand.tmp 12) (Operand.const (Value.int IntKind.i64 7)) 3, type := 3, pos := "", after := #[], guard := none }] false) (Code.seq (Code.region 17 #[{ dst := some 9, op := Op.binOp BinOp.add 3 (Operand.tmp 0) (Operand.tmp 13) 3, type := 3, pos := "", after := #[], guard := none }] false) (Code.seq (Code.block 0 (Code.loop (Code.seq (Code.seq (Code.region 7 #[{ dst := some 18, op := Op.binOp BinOp.leq 3 (Operand.tmp 9) (Operand.tmp 1) 3, type := 4, pos := "", after := #[], guard := none }] false) (Code.cond (Operand.tmp 18) Code.skip (Code.exit 0))) (Code.seq (Code.block 1 (Code.seq (Code.region 9 #[{ dst := some 23, op := Op.buildSlice 70 1 #[(0, (Operand.tmp 9))], type := 70, pos := "", after := #[], guard := none }] false) (Code.seq (Code.region 18 #[{ dst := some 24, op := Op.call { callee := Callee.builtin Builtin.append, args := #[(Operand.tmp 8), (Operand.tmp 23)], argTypes := #[70, 70] }, type := 70, pos := "", after := #[], guard := none }] false) (Code.region 19 #[{ dst := some 8, op := Op.assign (Operand.tmp 24), type := 70, pos := "", after := #[], guard := none }] false)))) (Code.seq (Code.region 8 #[{ dst := some 10, op := Op.binOp BinOp.add 3 (Operand.tmp 9) (Operand.const (Value.int IntKind.i64 7)) 3, type := 3, pos := "", after := #[], guard := none }] false) (Code.region 10 #[{ dst := some 9, op := Op.assign (Operand.tmp 10), type := 3, pos := "", after := #[], guard := none }] false)))))) (Code.seq (Code.region 12 #[{ dst := some 4, op := Op.assign (Operand.tmp 8), type := 70, pos := "", after := #[], guard := none }] false) Code.ret)))))))))))))))))))))),
    norace := false, file := "", endLine := 0, tmpNames := #[] }
/-- In copyCheck's place. -/
def Tryq.cc : Func :=
  { name := "cc", origin := "", params := #[151], resultTypes := #[], nfree := 0, ntmps := 20, results := #[],
    body := some (Code.seq (Code.region 3 #[{ dst := some 20, op := Op.assign (Operand.const (Value.pointer none)), type := 0, pos := "", after := #[], guard := none }] false) (Code.seq (Code.region 4 #[{ dst := none, op := Op.nilCheck (Operand.tmp 20), type := 0, pos := "", after := #[], guard := none }] false) (Code.seq (Code.region 5 #[{ dst := some 4, op := Op.fieldAddr 154 (Operand.tmp 0) 0, type := 0, pos := "", after := #[], guard := none }] false) (Code.seq (Code.region 6 #[{ dst := some 5, op := Op.load 151 (Operand.tmp 4), type := 151, pos := "", after := #[], guard := none }] false) (Code.seq (Code.region 7 #[{ dst := some 6, op := Op.binOp BinOp.eql 151 (Operand.tmp 5) (Operand.const (Value.pointer none)) 151, type := 4, pos := "", after := #[], guard := none }] false) (Code.cond (Operand.tmp 6) (Code.seq (Code.region 1 #[{ dst := some 11, op := Op.convert 200 151 (Operand.tmp 0), type := 151, pos := "", after := #[], guard := none }] false) (Code.region 8 #[{ dst := none, op := Op.store 151 (Operand.tmp 4) (Operand.tmp 11), type := 0, pos := "", after := #[], guard := none }] false)) (Code.seq (Code.region 2 #[{ dst := some 19, op := Op.binOp BinOp.neq 151 (Operand.tmp 5) (Operand.tmp 0) 151, type := 4, pos := "", after := #[], guard := none }] false) (Code.cond (Operand.tmp 19) (Code.refuse "") Code.skip)))))))),
    norace := false, file := "", endLine := 0, tmpNames := #[] }
def Tryq.stop : Func := { name := "stop", origin := "", params := #[], resultTypes := #[], nfree := 0, ntmps := 0, results := #[], body := some (Code.refuse ""), norace := false, file := "", endLine := 0, tmpNames := #[] }
def Tryq.bad (k : Nat) : Bool := k == 0 || k == 1 || k == 149 || k == 153 || k == 154 || k == 156 || k == 157 || k == 168 || k == 169 || k == 170 || k == 171 || k == 172 || k == 173 || k == 176 || k == 179 || k == 180 || k == 181 || k == 182 || k == 184 || k == 185 || k == 191 || k == 192 || k == 193 || k == 194 || k == 195 || k == 198 || k == 199 || k == 200 || k == 201 || k == 202 || k == 203 || k == 204 || k == 205 || k == 206 || k == 207 || k == 208 || k == 209 || k == 210 || k == 211 || k == 212 || k == 213 || k == 214 || k == 215 || k == 216 || k == 217 || k == 218 || k == 219 || k == 220 || k == 221 || k == 222
noncomputable def Tryq.funcs : Array Func := Tryz.prog.funcs.mapIdx fun k f => if k = 133 then Tryq.up else if k = 126 then Tryq.cc else if Tryq.bad k then Tryq.stop else f
noncomputable def Tryq.prog : Program := wf Tryz.prog Tryq.funcs
def Tryq.own (k : Nat) : Bool := k == 133 || k == 126 || Tryq.bad k
theorem Tryq.get (k : Nat) : Tryq.prog.funcs[k]? = (Tryz.prog.funcs[k]?).map fun f => if k = 133 then Tryq.up else if k = 126 then Tryq.cc else if Tryq.bad k then Tryq.stop else f := by
  show Tryq.funcs[k]? = _
  unfold Tryq.funcs
  rw [Array.getElem?_mapIdx]
theorem Tryq.same {k : Nat} (h : Tryq.own k = false) : Tryq.prog.funcs[k]? = Tryz.prog.funcs[k]? := by
  unfold Tryq.own at h
  simp only [Bool.or_eq_false_iff, beq_eq_false_iff_ne, ne_eq] at h
  rw [Tryq.get]
  cases Tryz.prog.funcs[k]? with
  | none => rfl
  | some f => simp only [Option.map_some, if_neg h.1.1, if_neg h.1.2, h.2, Bool.false_eq_true, if_false]
theorem Tryq.calls {k : Nat} {fn : Func} {c : Code} (h : Tryq.prog.funcs[k]? = some fn) (hn : (fn.name == "runtime.NumGoroutine") = false) (hb : fn.body = some c) (args : Array Value) (w : World) : (callFunc k args).run Tryq.prog w = .ok (.enter k args) w := by
  rw [← Sem.runT_fst _ _ w #[], runT_callFunc_body h hn hb]

@[simp] theorem Tryq.func3 : Tryq.prog.funcs[3]? = some Tryz.f3 := (Tryq.same rfl).trans Tryz.func3
theorem Tryq.ntmps3 : Func.ntmps Tryz.f3 = 49 := Tryz.ntmps3
@[simp] theorem Tryq.func4 : Tryq.prog.funcs[4]? = some Tryz.f4 := (Tryq.same rfl).trans Tryz.func4
theorem Tryq.ntmps4 : Func.ntmps Tryz.f4 = 43 := Tryz.ntmps4
@[simp] theorem Tryq.func5 : Tryq.prog.funcs[5]? = some Tryz.f5 := (Tryq.same rfl).trans Tryz.func5
theorem Tryq.ntmps5 : Func.ntmps Tryz.f5 = 157 := Tryz.ntmps5
@[simp] theorem Tryq.func6 : Tryq.prog.funcs[6]? = some Tryz.f6 := (Tryq.same rfl).trans Tryz.func6
theorem Tryq.ntmps6 : Func.ntmps Tryz.f6 = 104 := Tryz.ntmps6
@[simp] theorem Tryq.func7 : Tryq.prog.funcs[7]? = some Tryz.f7 := (Tryq.same rfl).trans Tryz.func7
theorem Tryq.ntmps7 : Func.ntmps Tryz.f7 = 146 := Tryz.ntmps7
@[simp] theorem Tryq.func10 : Tryq.prog.funcs[10]? = some Tryz.f10 := (Tryq.same rfl).trans Tryz.func10
theorem Tryq.ntmps10 : Func.ntmps Tryz.f10 = 42 := Tryz.ntmps10
@[simp] theorem Tryq.call10 (args : Array Value) (w : World) : (callFunc 10 args).run Tryq.prog w = .ok (.enter 10 args) w := Tryq.calls Tryq.func10 (by kernel_rfl) rfl args w
@[simp] theorem Tryq.func11 : Tryq.prog.funcs[11]? = some Tryz.f11 := (Tryq.same rfl).trans Tryz.func11
theorem Tryq.ntmps11 : Func.ntmps Tryz.f11 = 54 := Tryz.ntmps11
@[simp] theorem Tryq.call11 (args : Array Value) (w : World) : (callFunc 11 args).run Tryq.prog w = .ok (.enter 11 args) w := Tryq.calls Tryq.func11 (by kernel_rfl) rfl args w
@[simp] theorem Tryq.func12 : Tryq.prog.funcs[12]? = some Tryz.f12 := (Tryq.same rfl).trans Tryz.func12
theorem Tryq.ntmps12 : Func.ntmps Tryz.f12 = 15 := Tryz.ntmps12
@[simp] theorem Tryq.call12 (args : Array Value) (w : World) : (callFunc 12 args).run Tryq.prog w = .ok (.enter 12 args) w := Tryq.calls Tryq.func12 (by kernel_rfl) rfl args w
@[simp] theorem Tryq.func13 : Tryq.prog.funcs[13]? = some Tryz.f13 := (Tryq.same rfl).trans Tryz.func13
theorem Tryq.ntmps13 : Func.ntmps Tryz.f13 = 7 := Tryz.ntmps13
@[simp] theorem Tryq.call13 (args : Array Value) (w : World) : (callFunc 13 args).run Tryq.prog w = .ok (.enter 13 args) w := Tryq.calls Tryq.func13 (by kernel_rfl) rfl args w
@[simp] theorem Tryq.func14 : Tryq.prog.funcs[14]? = some Tryz.f14 := (Tryq.same rfl).trans Tryz.func14
theorem Tryq.ntmps14 : Func.ntmps Tryz.f14 = 36 := Tryz.ntmps14
@[simp] theorem Tryq.call14 (args : Array Value) (w : World) : (callFunc 14 args).run Tryq.prog w = .ok (.enter 14 args) w := Tryq.calls Tryq.func14 (by kernel_rfl) rfl args w
@[simp] theorem Tryq.func15 : Tryq.prog.funcs[15]? = some Tryz.f15 := (Tryq.same rfl).trans Tryz.func15
theorem Tryq.ntmps15 : Func.ntmps Tryz.f15 = 36 := Tryz.ntmps15
@[simp] theorem Tryq.call15 (args : Array Value) (w : World) : (callFunc 15 args).run Tryq.prog w = .ok (.enter 15 args) w := Tryq.calls Tryq.func15 (by kernel_rfl) rfl args w
@[simp] theorem Tryq.func16 : Tryq.prog.funcs[16]? = some Tryz.f16 := (Tryq.same rfl).trans Tryz.func16
theorem Tryq.ntmps16 : Func.ntmps Tryz.f16 = 33 := Tryz.ntmps16
@[simp] theorem Tryq.call16 (args : Array Value) (w : World) : (callFunc 16 args).run Tryq.prog w = .ok (.enter 16 args) w := Tryq.calls Tryq.func16 (by kernel_rfl) rfl args w
@[simp] theorem Tryq.func17 : Tryq.prog.funcs[17]? = some Tryz.f17 := (Tryq.same rfl).trans Tryz.func17
theorem Tryq.ntmps17 : Func.ntmps Tryz.f17 = 28 := Tryz.ntmps17
@[simp] theorem Tryq.call17 (args : Array Value) (w : World) : (callFunc 17 args).run Tryq.prog w = .ok (.enter 17 args) w := Tryq.calls Tryq.func17 (by kernel_rfl) rfl args w
@[simp] theorem Tryq.func18 : Tryq.prog.funcs[18]? = some Tryz.f18 := (Tryq.same rfl).trans Tryz.func18
theorem Tryq.ntmps18 : Func.ntmps Tryz.f18 = 20 := Tryz.ntmps18
@[simp] theorem Tryq.call18 (args : Array Value) (w : World) : (callFunc 18 args).run Tryq.prog w = .ok (.enter 18 args) w := Tryq.calls Tryq.func18 (by kernel_rfl) rfl args w
@[simp] theorem Tryq.func19 : Tryq.prog.funcs[19]? = some Tryz.f19 := (Tryq.same rfl).trans Tryz.func19
theorem Tryq.ntmps19 : Func.ntmps Tryz.f19 = 11 := Tryz.ntmps19
@[simp] theorem Tryq.call19 (args : Array Value) (w : World) : (callFunc 19 args).run Tryq.prog w = .ok (.enter 19 args) w := Tryq.calls Tryq.func19 (by kernel_rfl) rfl args w
@[simp] theorem Tryq.func20 : Tryq.prog.funcs[20]? = some Tryz.f20 := (Tryq.same rfl).trans Tryz.func20
theorem Tryq.ntmps20 : Func.ntmps Tryz.f20 = 7 := Tryz.ntmps20
@[simp] theorem Tryq.call20 (args : Array Value) (w : World) : (callFunc 20 args).run Tryq.prog w = .ok (.enter 20 args) w := Tryq.calls Tryq.func20 (by kernel_rfl) rfl args w
@[simp] theorem Tryq.func21 : Tryq.prog.funcs[21]? = some Tryz.f21 := (Tryq.same rfl).trans Tryz.func21
theorem Tryq.ntmps21 : Func.ntmps Tryz.f21 = 16 := Tryz.ntmps21
@[simp] theorem Tryq.call21 (args : Array Value) (w : World) : (callFunc 21 args).run Tryq.prog w = .ok (.enter 21 args) w := Tryq.calls Tryq.func21 (by kernel_rfl) rfl args w
@[simp] theorem Tryq.func22 : Tryq.prog.funcs[22]? = some Tryz.f22 := (Tryq.same rfl).trans Tryz.func22
theorem Tryq.ntmps22 : Func.ntmps Tryz.f22 = 55 := Tryz.ntmps22
@[simp] theorem Tryq.call22 (args : Array Value) (w : World) : (callFunc 22 args).run Tryq.prog w = .ok (.enter 22 args) w := Tryq.calls Tryq.func22 (by kernel_rfl) rfl args w
@[simp] theorem Tryq.func23 : Tryq.prog.funcs[23]? = some Tryz.f23 := (Tryq.same rfl).trans Tryz.func23
theorem Tryq.ntmps23 : Func.ntmps Tryz.f23 = 40 := Tryz.ntmps23
@[simp] theorem Tryq.call23 (args : Array Value) (w : World) : (callFunc 23 args).run Tryq.prog w = .ok (.enter 23 args) w := Tryq.calls Tryq.func23 (by kernel_rfl) rfl args w
@[simp] theorem Tryq.func24 : Tryq.prog.funcs[24]? = some Tryz.f24 := (Tryq.same rfl).trans Tryz.func24
theorem Tryq.ntmps24 : Func.ntmps Tryz.f24 = 33 := Tryz.ntmps24
@[simp] theorem Tryq.call24 (args : Array Value) (w : World) : (callFunc 24 args).run Tryq.prog w = .ok (.enter 24 args) w := Tryq.calls Tryq.func24 (by kernel_rfl) rfl args w
@[simp] theorem Tryq.func25 : Tryq.prog.funcs[25]? = some Tryz.f25 := (Tryq.same rfl).trans Tryz.func25
theorem Tryq.ntmps25 : Func.ntmps Tryz.f25 = 58 := Tryz.ntmps25
@[simp] theorem Tryq.call25 (args : Array Value) (w : World) : (callFunc 25 args).run Tryq.prog w = .ok (.enter 25 args) w := Tryq.calls Tryq.func25 (by kernel_rfl) rfl args w
@[simp] theorem Tryq.func26 : Tryq.prog.funcs[26]? = some Tryz.f26 := (Tryq.same rfl).trans Tryz.func26
theorem Tryq.ntmps26 : Func.ntmps Tryz.f26 = 51 := Tryz.ntmps26
@[simp] theorem Tryq.call26 (args : Array Value) (w : World) : (callFunc 26 args).run Tryq.prog w = .ok (.enter 26 args) w := Tryq.calls Tryq.func26 (by kernel_rfl) rfl args w
@[simp] theorem Tryq.func27 : Tryq.prog.funcs[27]? = some Tryz.f27 := (Tryq.same rfl).trans Tryz.func27
theorem Tryq.ntmps27 : Func.ntmps Tryz.f27 = 11 := Tryz.ntmps27
@[simp] theorem Tryq.call27 (args : Array Value) (w : World) : (callFunc 27 args).run Tryq.prog w = .ok (.enter 27 args) w := Tryq.calls Tryq.func27 (by kernel_rfl) rfl args w
@[simp] theorem Tryq.func28 : Tryq.prog.funcs[28]? = some Tryz.f28 := (Tryq.same rfl).trans Tryz.func28
theorem Tryq.ntmps28 : Func.ntmps Tryz.f28 = 34 := Tryz.ntmps28
@[simp] theorem Tryq.call28 (args : Array Value) (w : World) : (callFunc 28 args).run Tryq.prog w = .ok (.enter 28 args) w := Tryq.calls Tryq.func28 (by kernel_rfl) rfl args w
@[simp] theorem Tryq.func29 : Tryq.prog.funcs[29]? = some Tryz.f29 := (Tryq.same rfl).trans Tryz.func29
theorem Tryq.ntmps29 : Func.ntmps Tryz.f29 = 69 := Tryz.ntmps29
@[simp] theorem Tryq.call29 (args : Array Value) (w : World) : (callFunc 29 args).run Tryq.prog w = .ok (.enter 29 args) w := Tryq.calls Tryq.func29 (by kernel_rfl) rfl args w
@[simp] theorem Tryq.func31 : Tryq.prog.funcs[31]? = some Tryz.f31 := (Tryq.same rfl).trans Tryz.func31
theorem Tryq.ntmps31 : Func.ntmps Tryz.f31 = 75 := Tryz.ntmps31
@[simp] theorem Tryq.call31 (args : Array Value) (w : World) : (callFunc 31 args).run Tryq.prog w = .ok (.enter 31 args) w := Tryq.calls Tryq.func31 (by kernel_rfl) rfl args w
@[simp] theorem Tryq.func36 : Tryq.prog.funcs[36]? = some Tryz.f36 := (Tryq.same rfl).trans Tryz.func36
theorem Tryq.ntmps36 : Func.ntmps Tryz.f36 = 17 := Tryz.ntmps36
@[simp] theorem Tryq.call36 (args : Array Value) (w : World) : (callFunc 36 args).run Tryq.prog w = .ok (.enter 36 args) w := Tryq.calls Tryq.func36 (by kernel_rfl) rfl args w
@[simp] theorem Tryq.func37 : Tryq.prog.funcs[37]? = some Tryz.f37 := (Tryq.same rfl).trans Tryz.func37
theorem Tryq.ntmps37 : Func.ntmps Tryz.f37 = 17 := Tryz.ntmps37
@[simp] theorem Tryq.call37 (args : Array Value) (w : World) : (callFunc 37 args).run Tryq.prog w = .ok (.enter 37 args) w := Tryq.calls Tryq.func37 (by kernel_rfl) rfl args w
@[simp] theorem Tryq.func38 : Tryq.prog.funcs[38]? = some Tryz.f38 := (Tryq.same rfl).trans Tryz.func38
theorem Tryq.ntmps38 : Func.ntmps Tryz.f38 = 31 := Tryz.ntmps38
@[simp] theorem Tryq.call38 (args : Array Value) (w : World) : (callFunc 38 args).run Tryq.prog w = .ok (.enter 38 args) w := Tryq.calls Tryq.func38 (by kernel_rfl) rfl args w
@[simp] theorem Tryq.func39 : Tryq.prog.funcs[39]? = some Tryz.f39 := (Tryq.same rfl).trans Tryz.func39
theorem Tryq.ntmps39 : Func.ntmps Tryz.f39 = 27 := Tryz.ntmps39
@[simp] theorem Tryq.call39 (args : Array Value) (w : World) : (callFunc 39 args).run Tryq.prog w = .ok (.enter 39 args) w := Tryq.calls Tryq.func39 (by kernel_rfl) rfl args w
@[simp] theorem Tryq.func40 : Tryq.prog.funcs[40]? = some Tryz.f40 := (Tryq.same rfl).trans Tryz.func40
theorem Tryq.ntmps40 : Func.ntmps Tryz.f40 = 40 := Tryz.ntmps40
@[simp] theorem Tryq.call40 (args : Array Value) (w : World) : (callFunc 40 args).run Tryq.prog w = .ok (.enter 40 args) w := Tryq.calls Tryq.func40 (by kernel_rfl) rfl args w
@[simp] theorem Tryq.func41 : Tryq.prog.funcs[41]? = some Tryz.f41 := (Tryq.same rfl).trans Tryz.func41
theorem Tryq.ntmps41 : Func.ntmps Tryz.f41 = 46 := Tryz.ntmps41
@[simp] theorem Tryq.call41 (args : Array Value) (w : World) : (callFunc 41 args).run Tryq.prog w = .ok (.enter 41 args) w := Tryq.calls Tryq.func41 (by kernel_rfl) rfl args w
@[simp] theorem Tryq.func42 : Tryq.prog.funcs[42]? = some Tryz.f42 := (Tryq.same rfl).trans Tryz.func42
theorem Tryq.ntmps42 : Func.ntmps Tryz.f42 = 30 := Tryz.ntmps42
@[simp] theorem Tryq.call42 (args : Array Value) (w : World) : (callFunc 42 args).run Tryq.prog w = .ok (.enter 42 args) w := Tryq.calls Tryq.func42 (by kernel_rfl) rfl args w
@[simp] theorem Tryq.func43 : Tryq.prog.funcs[43]? = some Tryz.f43 := (Tryq.same rfl).trans Tryz.func43
theorem Tryq.ntmps43 : Func.ntmps Tryz.f43 = 9 := Tryz.ntmps43
@[simp] theorem Tryq.call43 (args : Array Value) (w : World) : (callFunc 43 args).run Tryq.prog w = .ok (.enter 43 args) w := Tryq.calls Tryq.func43 (by kernel_rfl) rfl args w
@[simp] theorem Tryq.func44 : Tryq.prog.funcs[44]? = some Tryz.f44 := (Tryq.same rfl).trans Tryz.func44
theorem Tryq.ntmps44 : Func.ntmps Tryz.f44 = 17 := Tryz.ntmps44
@[simp] theorem Tryq.call44 (args : Array Value) (w : World) : (callFunc 44 args).run Tryq.prog w = .ok (.enter 44 args) w := Tryq.calls Tryq.func44 (by kernel_rfl) rfl args w
@[simp] theorem Tryq.func45 : Tryq.prog.funcs[45]? = some Tryz.f45 := (Tryq.same rfl).trans Tryz.func45
theorem Tryq.ntmps45 : Func.ntmps Tryz.f45 = 19 := Tryz.ntmps45
@[simp] theorem Tryq.call45 (args : Array Value) (w : World) : (callFunc 45 args).run Tryq.prog w = .ok (.enter 45 args) w := Tryq.calls Tryq.func45 (by kernel_rfl) rfl args w
@[simp] theorem Tryq.func46 : Tryq.prog.funcs[46]? = some Tryz.f46 := (Tryq.same rfl).trans Tryz.func46
theorem Tryq.ntmps46 : Func.ntmps Tryz.f46 = 46 := Tryz.ntmps46
@[simp] theorem Tryq.call46 (args : Array Value) (w : World) : (callFunc 46 args).run Tryq.prog w = .ok (.enter 46 args) w := Tryq.calls Tryq.func46 (by kernel_rfl) rfl args w
@[simp] theorem Tryq.func47 : Tryq.prog.funcs[47]? = some Tryz.f47 := (Tryq.same rfl).trans Tryz.func47
theorem Tryq.ntmps47 : Func.ntmps Tryz.f47 = 13 := Tryz.ntmps47
@[simp] theorem Tryq.call47 (args : Array Value) (w : World) : (callFunc 47 args).run Tryq.prog w = .ok (.enter 47 args) w := Tryq.calls Tryq.func47 (by kernel_rfl) rfl args w
@[simp] theorem Tryq.func48 : Tryq.prog.funcs[48]? = some Tryz.f48 := (Tryq.same rfl).trans Tryz.func48
theorem Tryq.ntmps48 : Func.ntmps Tryz.f48 = 13 := Tryz.ntmps48
@[simp] theorem Tryq.call48 (args : Array Value) (w : World) : (callFunc 48 args).run Tryq.prog w = .ok (.enter 48 args) w := Tryq.calls Tryq.func48 (by kernel_rfl) rfl args w
@[simp] theorem Tryq.func49 : Tryq.prog.funcs[49]? = some Tryz.f49 := (Tryq.same rfl).trans Tryz.func49
theorem Tryq.ntmps49 : Func.ntmps Tryz.f49 = 34 := Tryz.ntmps49
@[simp] theorem Tryq.call49 (args : Array Value) (w : World) : (callFunc 49 args).run Tryq.prog w = .ok (.enter 49 args) w := Tryq.calls Tryq.func49 (by kernel_rfl) rfl args w
@[simp] theorem Tryq.func50 : Tryq.prog.funcs[50]? = some Tryz.f50 := (Tryq.same rfl).trans Tryz.func50
theorem Tryq.ntmps50 : Func.ntmps Tryz.f50 = 26 := Tryz.ntmps50
@[simp] theorem Tryq.call50 (args : Array Value) (w : World) : (callFunc 50 args).run Tryq.prog w = .ok (.enter 50 args) w := Tryq.calls Tryq.func50 (by kernel_rfl) rfl args w
@[simp] theorem Tryq.func51 : Tryq.prog.funcs[51]? = some Tryz.f51 := (Tryq.same rfl).trans Tryz.func51
theorem Tryq.ntmps51 : Func.ntmps Tryz.f51 = 12 := Tryz.ntmps51
@[simp] theorem Tryq.call51 (args : Array Value) (w : World) : (callFunc 51 args).run Tryq.prog w = .ok (.enter 51 args) w := Tryq.calls Tryq.func51 (by kernel_rfl) rfl args w
@[simp] theorem Tryq.func52 : Tryq.prog.funcs[52]? = some Tryz.f52 := (Tryq.same rfl).trans Tryz.func52
theorem Tryq.ntmps52 : Func.ntmps Tryz.f52 = 44 := Tryz.ntmps52
@[simp] theorem Tryq.call52 (args : Array Value) (w : World) : (callFunc 52 args).run Tryq.prog w = .ok (.enter 52 args) w := Tryq.calls Tryq.func52 (by kernel_rfl) rfl args w
@[simp] theorem Tryq.func53 : Tryq.prog.funcs[53]? = some Tryz.f53 := (Tryq.same rfl).trans Tryz.func53
theorem Tryq.ntmps53 : Func.ntmps Tryz.f53 = 17 := Tryz.ntmps53
@[simp] theorem Tryq.call53 (args : Array Value) (w : World) : (callFunc 53 args).run Tryq.prog w = .ok (.enter 53 args) w := Tryq.calls Tryq.func53 (by kernel_rfl) rfl args w
@[simp] theorem Tryq.func54 : Tryq.prog.funcs[54]? = some Tryz.f54 := (Tryq.same rfl).trans Tryz.func54
theorem Tryq.ntmps54 : Func.ntmps Tryz.f54 = 23 := Tryz.ntmps54
@[simp] theorem Tryq.call54 (args : Array Value) (w : World) : (callFunc 54 args).run Tryq.prog w = .ok (.enter 54 args) w := Tryq.calls Tryq.func54 (by kernel_rfl) rfl args w
@[simp] theorem Tryq.func55 : Tryq.prog.funcs[55]? = some Tryz.f55 := (Tryq.same rfl).trans Tryz.func55
theorem Tryq.ntmps55 : Func.ntmps Tryz.f55 = 35 := Tryz.ntmps55
@[simp] theorem Tryq.call55 (args : Array Value) (w : World) : (callFunc 55 args).run Tryq.prog w = .ok (.enter 55 args) w := Tryq.calls Tryq.func55 (by kernel_rfl) rfl args w
@[simp] theorem Tryq.func56 : Tryq.prog.funcs[56]? = some Tryz.f56 := (Tryq.same rfl).trans Tryz.func56
theorem Tryq.ntmps56 : Func.ntmps Tryz.f56 = 29 := Tryz.ntmps56
@[simp] theorem Tryq.call56 (args : Array Value) (w : World) : (callFunc 56 args).run Tryq.prog w = .ok (.enter 56 args) w := Tryq.calls Tryq.func56 (by kernel_rfl) rfl args w
@[simp] theorem Tryq.func57 : Tryq.prog.funcs[57]? = some Tryz.f57 := (Tryq.same rfl).trans Tryz.func57
theorem Tryq.ntmps57 : Func.ntmps Tryz.f57 = 24 := Tryz.ntmps57
@[simp] theorem Tryq.call57 (args : Array Value) (w : World) : (callFunc 57 args).run Tryq.prog w = .ok (.enter 57 args) w := Tryq.calls Tryq.func57 (by kernel_rfl) rfl args w
@[simp] theorem Tryq.func58 : Tryq.prog.funcs[58]? = some Tryz.f58 := (Tryq.same rfl).trans Tryz.func58
theorem Tryq.ntmps58 : Func.ntmps Tryz.f58 = 6 := Tryz.ntmps58
@[simp] theorem Tryq.call58 (args : Array Value) (w : World) : (callFunc 58 args).run Tryq.prog w = .ok (.enter 58 args) w := Tryq.calls Tryq.func58 (by kernel_rfl) rfl args w
@[simp] theorem Tryq.func59 : Tryq.prog.funcs[59]? = some Tryz.f59 := (Tryq.same rfl).trans Tryz.func59
theorem Tryq.ntmps59 : Func.ntmps Tryz.f59 = 19 := Tryz.ntmps59
@[simp] theorem Tryq.call59 (args : Array Value) (w : World) : (callFunc 59 args).run Tryq.prog w = .ok (.enter 59 args) w := Tryq.calls Tryq.func59 (by kernel_rfl) rfl args w
@[simp] theorem Tryq.func60 : Tryq.prog.funcs[60]? = some Tryz.f60 := (Tryq.same rfl).trans Tryz.func60
theorem Tryq.ntmps60 : Func.ntmps Tryz.f60 = 23 := Tryz.ntmps60
@[simp] theorem Tryq.call60 (args : Array Value) (w : World) : (callFunc 60 args).run Tryq.prog w = .ok (.enter 60 args) w := Tryq.calls Tryq.func60 (by kernel_rfl) rfl args w
@[simp] theorem Tryq.func61 : Tryq.prog.funcs[61]? = some Tryz.f61 := (Tryq.same rfl).trans Tryz.func61
theorem Tryq.ntmps61 : Func.ntmps Tryz.f61 = 44 := Tryz.ntmps61
@[simp] theorem Tryq.call61 (args : Array Value) (w : World) : (callFunc 61 args).run Tryq.prog w = .ok (.enter 61 args) w := Tryq.calls Tryq.func61 (by kernel_rfl) rfl args w
@[simp] theorem Tryq.func62 : Tryq.prog.funcs[62]? = some Tryz.f62 := (Tryq.same rfl).trans Tryz.func62
theorem Tryq.ntmps62 : Func.ntmps Tryz.f62 = 28 := Tryz.ntmps62
@[simp] theorem Tryq.call62 (args : Array Value) (w : World) : (callFunc 62 args).run Tryq.prog w = .ok (.enter 62 args) w := Tryq.calls Tryq.func62 (by kernel_rfl) rfl args w
@[simp] theorem Tryq.func63 : Tryq.prog.funcs[63]? = some Tryz.f63 := (Tryq.same rfl).trans Tryz.func63
theorem Tryq.ntmps63 : Func.ntmps Tryz.f63 = 31 := Tryz.ntmps63
@[simp] theorem Tryq.call63 (args : Array Value) (w : World) : (callFunc 63 args).run Tryq.prog w = .ok (.enter 63 args) w := Tryq.calls Tryq.func63 (by kernel_rfl) rfl args w
@[simp] theorem Tryq.func64 : Tryq.prog.funcs[64]? = some Tryz.f64 := (Tryq.same rfl).trans Tryz.func64
theorem Tryq.ntmps64 : Func.ntmps Tryz.f64 = 19 := Tryz.ntmps64
@[simp] theorem Tryq.call64 (args : Array Value) (w : World) : (callFunc 64 args).run Tryq.prog w = .ok (.enter 64 args) w := Tryq.calls Tryq.func64 (by kernel_rfl) rfl args w
@[simp] theorem Tryq.func65 : Tryq.prog.funcs[65]? = some Tryz.f65 := (Tryq.same rfl).trans Tryz.func65
theorem Tryq.ntmps65 : Func.ntmps Tryz.f65 = 11 := Tryz.ntmps65
@[simp] theorem Tryq.call65 (args : Array Value) (w : World) : (callFunc 65 args).run Tryq.prog w = .ok (.enter 65 args) w := Tryq.calls Tryq.func65 (by kernel_rfl) rfl args w
@[simp] theorem Tryq.func67 : Tryq.prog.funcs[67]? = some Tryz.f67 := (Tryq.same rfl).trans Tryz.func67
theorem Tryq.ntmps67 : Func.ntmps Tryz.f67 = 9 := Tryz.ntmps67
@[simp] theorem Tryq.call67 (args : Array Value) (w : World) : (callFunc 67 args).run Tryq.prog w = .ok (.enter 67 args) w := Tryq.calls Tryq.func67 (by kernel_rfl) rfl args w
@[simp] theorem Tryq.func68 : Tryq.prog.funcs[68]? = some Tryz.f68 := (Tryq.same rfl).trans Tryz.func68
theorem Tryq.ntmps68 : Func.ntmps Tryz.f68 = 59 := Tryz.ntmps68
@[simp] theorem Tryq.call68 (args : Array Value) (w : World) : (callFunc 68 args).run Tryq.prog w = .ok (.enter 68 args) w := Tryq.calls Tryq.func68 (by kernel_rfl) rfl args w
@[simp] theorem Tryq.func73 : Tryq.prog.funcs[73]? = some Tryz.f73 := (Tryq.same rfl).trans Tryz.func73
theorem Tryq.ntmps73 : Func.ntmps Tryz.f73 = 17 := Tryz.ntmps73
@[simp] theorem Tryq.call73 (args : Array Value) (w : World) : (callFunc 73 args).run Tryq.prog w = .ok (.enter 73 args) w := Tryq.calls Tryq.func73 (by kernel_rfl) rfl args w
@[simp] theorem Tryq.func74 : Tryq.prog.funcs[74]? = some Tryz.f74 := (Tryq.same rfl).trans Tryz.func74
theorem Tryq.ntmps74 : Func.ntmps Tryz.f74 = 8 := Tryz.ntmps74
@[simp] theorem Tryq.call74 (args : Array Value) (w : World) : (callFunc 74 args).run Tryq.prog w = .ok (.enter 74 args) w := Tryq.calls Tryq.func74 (by kernel_rfl) rfl args w
@[simp] theorem Tryq.func75 : Tryq.prog.funcs[75]? = some Tryz.f75 := (Tryq.same rfl).trans Tryz.func75
theorem Tryq.ntmps75 : Func.ntmps Tryz.f75 = 20 := Tryz.ntmps75
@[simp] theorem Tryq.call75 (args : Array Value) (w : World) : (callFunc 75 args).run Tryq.prog w = .ok (.enter 75 args) w := Tryq.calls Tryq.func75 (by kernel_rfl) rfl args w
@[simp] theorem Tryq.func76 : Tryq.prog.funcs[76]? = some Tryz.f76 := (Tryq.same rfl).trans Tryz.func76
theorem Tryq.ntmps76 : Func.ntmps Tryz.f76 = 19 := Tryz.ntmps76
@[simp] theorem Tryq.call76 (args : Array Value) (w : World) : (callFunc 76 args).run Tryq.prog w = .ok (.enter 76 args) w := Tryq.calls Tryq.func76 (by kernel_rfl) rfl args w
@[simp] theorem Tryq.func77 : Tryq.prog.funcs[77]? = some Tryz.f77 := (Tryq.same rfl).trans Tryz.func77
theorem Tryq.ntmps77 : Func.ntmps Tryz.f77 = 75 := Tryz.ntmps77
@[simp] theorem Tryq.call77 (args : Array Value) (w : World) : (callFunc 77 args).run Tryq.prog w = .ok (.enter 77 args) w := Tryq.calls Tryq.func77 (by kernel_rfl) rfl args w
@[simp] theorem Tryq.func78 : Tryq.prog.funcs[78]? = some Tryz.f78 := (Tryq.same rfl).trans Tryz.func78
theorem Tryq.ntmps78 : Func.ntmps Tryz.f78 = 16 := Tryz.ntmps78
@[simp] theorem Tryq.call78 (args : Array Value) (w : World) : (callFunc 78 args).run Tryq.prog w = .ok (.enter 78 args) w := Tryq.calls Tryq.func78 (by kernel_rfl) rfl args w
@[simp] theorem Tryq.func79 : Tryq.prog.funcs[79]? = some Tryz.f79 := (Tryq.same rfl).trans Tryz.func79
theorem Tryq.ntmps79 : Func.ntmps Tryz.f79 = 39 := Tryz.ntmps79
@[simp] theorem Tryq.call79 (args : Array Value) (w : World) : (callFunc 79 args).run Tryq.prog w = .ok (.enter 79 args) w := Tryq.calls Tryq.func79 (by kernel_rfl) rfl args w
@[simp] theorem Tryq.func80 : Tryq.prog.funcs[80]? = some Tryz.f80 := (Tryq.same rfl).trans Tryz.func80
theorem Tryq.ntmps80 : Func.ntmps Tryz.f80 = 98 := Tryz.ntmps80
@[simp] theorem Tryq.call80 (args : Array Value) (w : World) : (callFunc 80 args).run Tryq.prog w = .ok (.enter 80 args) w := Tryq.calls Tryq.func80 (by kernel_rfl) rfl args w
@[simp] theorem Tryq.func81 : Tryq.prog.funcs[81]? = some Tryz.f81 := (Tryq.same rfl).trans Tryz.func81
theorem Tryq.ntmps81 : Func.ntmps Tryz.f81 = 19 := Tryz.ntmps81
@[simp] theorem Tryq.call81 (args : Array Value) (w : World) : (callFunc 81 args).run Tryq.prog w = .ok (.enter 81 args) w := Tryq.calls Tryq.func81 (by kernel_rfl) rfl args w
@[simp] theorem Tryq.func82 : Tryq.prog.funcs[82]? = some Tryz.f82 := (Tryq.same rfl).trans Tryz.func82
theorem Tryq.ntmps82 : Func.ntmps Tryz.f82 = 8 := Tryz.ntmps82
@[simp] theorem Tryq.call82 (args : Array Value) (w : World) : (callFunc 82 args).run Tryq.prog w = .ok (.enter 82 args) w := Tryq.calls Tryq.func82 (by kernel_rfl) rfl args w
@[simp] theorem Tryq.func83 : Tryq.prog.funcs[83]? = some Tryz.f83 := (Tryq.same rfl).trans Tryz.func83
theorem Tryq.ntmps83 : Func.ntmps Tryz.f83 = 8 := Tryz.ntmps83
@[simp] theorem Tryq.call83 (args : Array Value) (w : World) : (callFunc 83 args).run Tryq.prog w = .ok (.enter 83 args) w := Tryq.calls Tryq.func83 (by kernel_rfl) rfl args w
@[simp] theorem Tryq.func84 : Tryq.prog.funcs[84]? = some Tryz.f84 := (Tryq.same rfl).trans Tryz.func84
theorem Tryq.ntmps84 : Func.ntmps Tryz.f84 = 14 := Tryz.ntmps84
@[simp] theorem Tryq.call84 (args : Array Value) (w : World) : (callFunc 84 args).run Tryq.prog w = .ok (.enter 84 args) w := Tryq.calls Tryq.func84 (by kernel_rfl) rfl args w
@[simp] theorem Tryq.func85 : Tryq.prog.funcs[85]? = some Tryz.f85 := (Tryq.same rfl).trans Tryz.func85
theorem Tryq.ntmps85 : Func.ntmps Tryz.f85 = 23 := Tryz.ntmps85
@[simp] theorem Tryq.call85 (args : Array Value) (w : World) : (callFunc 85 args).run Tryq.prog w = .ok (.enter 85 args) w := Tryq.calls Tryq.func85 (by kernel_rfl) rfl args w
@[simp] theorem Tryq.func86 : Tryq.prog.funcs[86]? = some Tryz.f86 := (Tryq.same rfl).trans Tryz.func86
theorem Tryq.ntmps86 : Func.ntmps Tryz.f86 = 20 := Tryz.ntmps86
@[simp] theorem Tryq.call86 (args : Array Value) (w : World) : (callFunc 86 args).run Tryq.prog w = .ok (.enter 86 args) w := Tryq.calls Tryq.func86 (by kernel_rfl) rfl args w
@[simp] theorem Tryq.func87 : Tryq.prog.funcs[87]? = some Tryz.f87 := (Tryq.same rfl).trans Tryz.func87
theorem Tryq.ntmps87 : Func.ntmps Tryz.f87 = 3 := Tryz.ntmps87
@[simp] theorem Tryq.call87 (args : Array Value) (w : World) : (callFunc 87 args).run Tryq.prog w = .ok (.enter 87 args) w := Tryq.calls Tryq.func87 (by kernel_rfl) rfl args w
@[simp] theorem Tryq.func88 : Tryq.prog.funcs[88]? = some Tryz.f88 := (Tryq.same rfl).trans Tryz.func88
theorem Tryq.ntmps88 : Func.ntmps Tryz.f88 = 26 := Tryz.ntmps88
@[simp] theorem Tryq.call88 (args : Array Value) (w : World) : (callFunc 88 args).run Tryq.prog w = .ok (.enter 88 args) w := Tryq.calls Tryq.func88 (by kernel_rfl) rfl args w
@[simp] theorem Tryq.func89 : Tryq.prog.funcs[89]? = some Tryz.f89 := (Tryq.same rfl).trans Tryz.func89
theorem Tryq.ntmps89 : Func.ntmps Tryz.f89 = 9 := Tryz.ntmps89
@[simp] theorem Tryq.func90 : Tryq.prog.funcs[90]? = some Tryz.f90 := (Tryq.same rfl).trans Tryz.func90
theorem Tryq.ntmps90 : Func.ntmps Tryz.f90 = 11 := Tryz.ntmps90
@[simp] theorem Tryq.call90 (args : Array Value) (w : World) : (callFunc 90 args).run Tryq.prog w = .ok (.enter 90 args) w := Tryq.calls Tryq.func90 (by kernel_rfl) rfl args w
@[simp] theorem Tryq.func91 : Tryq.prog.funcs[91]? = some Tryz.f91 := (Tryq.same rfl).trans Tryz.func91
theorem Tryq.ntmps91 : Func.ntmps Tryz.f91 = 21 := Tryz.ntmps91
@[simp] theorem Tryq.call91 (args : Array Value) (w : World) : (callFunc 91 args).run Tryq.prog w = .ok (.enter 91 args) w := Tryq.calls Tryq.func91 (by kernel_rfl) rfl args w
@[simp] theorem Tryq.func92 : Tryq.prog.funcs[92]? = some Tryz.f92 := (Tryq.same rfl).trans Tryz.func92
theorem Tryq.ntmps92 : Func.ntmps Tryz.f92 = 14 := Tryz.ntmps92
@[simp] theorem Tryq.call92 (args : Array Value) (w : World) : (callFunc 92 args).run Tryq.prog w = .ok (.enter 92 args) w := Tryq.calls Tryq.func92 (by kernel_rfl) rfl args w
@[simp] theorem Tryq.func93 : Tryq.prog.funcs[93]? = some Tryz.f93 := (Tryq.same rfl).trans Tryz.func93
theorem Tryq.ntmps93 : Func.ntmps Tryz.f93 = 14 := Tryz.ntmps93
@[simp] theorem Tryq.call93 (args : Array Value) (w : World) : (callFunc 93 args).run Tryq.prog w = .ok (.enter 93 args) w := Tryq.calls Tryq.func93 (by kernel_rfl) rfl args w
@[simp] theorem Tryq.func94 : Tryq.prog.funcs[94]? = some Tryz.f94 := (Tryq.same rfl).trans Tryz.func94
theorem Tryq.ntmps94 : Func.ntmps Tryz.f94 = 32 := Tryz.ntmps94
@[simp] theorem Tryq.call94 (args : Array Value) (w : World) : (callFunc 94 args).run Tryq.prog w = .ok (.enter 94 args) w := Tryq.calls Tryq.func94 (by kernel_rfl) rfl args w
@[simp] theorem Tryq.func95 : Tryq.prog.funcs[95]? = some Tryz.f95 := (Tryq.same rfl).trans Tryz.func95
theorem Tryq.ntmps95 : Func.ntmps Tryz.f95 = 34 := Tryz.ntmps95
@[simp] theorem Tryq.call95 (args : Array Value) (w : World) : (callFunc 95 args).run Tryq.prog w = .ok (.enter 95 args) w := Tryq.calls Tryq.func95 (by kernel_rfl) rfl args w
@[simp] theorem Tryq.func96 : Tryq.prog.funcs[96]? = some Tryz.f96 := (Tryq.same rfl).trans Tryz.func96
theorem Tryq.ntmps96 : Func.ntmps Tryz.f96 = 11 := Tryz.ntmps96
@[simp] theorem Tryq.call96 (args : Array Value) (w : World) : (callFunc 96 args).run Tryq.prog w = .ok (.enter 96 args) w := Tryq.calls Tryq.func96 (by kernel_rfl) rfl args w
@[simp] theorem Tryq.func97 : Tryq.prog.funcs[97]? = some Tryz.f97 := (Tryq.same rfl).trans Tryz.func97
theorem Tryq.ntmps97 : Func.ntmps Tryz.f97 = 22 := Tryz.ntmps97
@[simp] theorem Tryq.call97 (args : Array Value) (w : World) : (callFunc 97 args).run Tryq.prog w = .ok (.enter 97 args) w := Tryq.calls Tryq.func97 (by kernel_rfl) rfl args w
@[simp] theorem Tryq.func98 : Tryq.prog.funcs[98]? = some Tryz.f98 := (Tryq.same rfl).trans Tryz.func98
theorem Tryq.ntmps98 : Func.ntmps Tryz.f98 = 8 := Tryz.ntmps98
@[simp] theorem Tryq.call98 (args : Array Value) (w : World) : (callFunc 98 args).run Tryq.prog w = .ok (.enter 98 args) w := Tryq.calls Tryq.func98 (by kernel_rfl) rfl args w
@[simp] theorem Tryq.func99 : Tryq.prog.funcs[99]? = some Tryz.f99 := (Tryq.same rfl).trans Tryz.func99
@[simp] theorem Tryq.call99 (args : Array Value) (w : World) : (callFunc 99 args).run Tryq.prog w = .ok (.enter 99 args) w := Tryq.calls Tryq.func99 (by kernel_rfl) rfl args w
@[simp] theorem Tryq.func100 : Tryq.prog.funcs[100]? = some Tryz.f100 := (Tryq.same rfl).trans Tryz.func100
theorem Tryq.ntmps100 : Func.ntmps Tryz.f100 = 17 := Tryz.ntmps100
@[simp] theorem Tryq.call100 (args : Array Value) (w : World) : (callFunc 100 args).run Tryq.prog w = .ok (.enter 100 args) w := Tryq.calls Tryq.func100 (by kernel_rfl) rfl args w
@[simp] theorem Tryq.func101 : Tryq.prog.funcs[101]? = some Tryz.f101 := (Tryq.same rfl).trans Tryz.func101
theorem Tryq.ntmps101 : Func.ntmps Tryz.f101 = 18 := Tryz.ntmps101
@[simp] theorem Tryq.call101 (args : Array Value) (w : World) : (callFunc 101 args).run Tryq.prog w = .ok (.enter 101 args) w := Tryq.calls Tryq.func101 (by kernel_rfl) rfl args w
@[simp] theorem Tryq.func102 : Tryq.prog.funcs[102]? = some Tryz.f102 := (Tryq.same rfl).trans Tryz.func102
theorem Tryq.ntmps102 : Func.ntmps Tryz.f102 = 20 := Tryz.ntmps102
@[simp] theorem Tryq.call102 (args : Array Value) (w : World) : (callFunc 102 args).run Tryq.prog w = .ok (.enter 102 args) w := Tryq.calls Tryq.func102 (by kernel_rfl) rfl args w
@[simp] theorem Tryq.func103 : Tryq.prog.funcs[103]? = some Tryz.f103 := (Tryq.same rfl).trans Tryz.func103
theorem Tryq.ntmps103 : Func.ntmps Tryz.f103 = 5 := Tryz.ntmps103
@[simp] theorem Tryq.call103 (args : Array Value) (w : World) : (callFunc 103 args).run Tryq.prog w = .ok (.enter 103 args) w := Tryq.calls Tryq.func103 (by kernel_rfl) rfl args w
@[simp] theorem Tryq.func104 : Tryq.prog.funcs[104]? = some Tryz.f104 := (Tryq.same rfl).trans Tryz.func104
theorem Tryq.ntmps104 : Func.ntmps Tryz.f104 = 18 := Tryz.ntmps104
@[simp] theorem Tryq.func107 : Tryq.prog.funcs[107]? = some Tryz.f107 := (Tryq.same rfl).trans Tryz.func107
theorem Tryq.ntmps107 : Func.ntmps Tryz.f107 = 39 := Tryz.ntmps107
@[simp] theorem Tryq.call107 (args : Array Value) (w : World) : (callFunc 107 args).run Tryq.prog w = .ok (.enter 107 args) w := Tryq.calls Tryq.func107 (by kernel_rfl) rfl args w
@[simp] theorem Tryq.func108 : Tryq.prog.funcs[108]? = some Tryz.f108 := (Tryq.same rfl).trans Tryz.func108
@[simp] theorem Tryq.call108 (args : Array Value) (w : World) : (callFunc 108 args).run Tryq.prog w = .ok (.enter 108 args) w := Tryq.calls Tryq.func108 (by kernel_rfl) rfl args w
@[simp] theorem Tryq.func109 : Tryq.prog.funcs[109]? = some Tryz.f109 := (Tryq.same rfl).trans Tryz.func109
theorem Tryq.ntmps109 : Func.ntmps Tryz.f109 = 25 := Tryz.ntmps109
@[simp] theorem Tryq.call109 (args : Array Value) (w : World) : (callFunc 109 args).run Tryq.prog w = .ok (.enter 109 args) w := Tryq.calls Tryq.func109 (by kernel_rfl) rfl args w
@[simp] theorem Tryq.func110 : Tryq.prog.funcs[110]? = some Tryz.f110 := (Tryq.same rfl).trans Tryz.func110
theorem Tryq.ntmps110 : Func.ntmps Tryz.f110 = 19 := Tryz.ntmps110
@[simp] theorem Tryq.call110 (args : Array Value) (w : World) : (callFunc 110 args).run Tryq.prog w = .ok (.enter 110 args) w := Tryq.calls Tryq.func110 (by kernel_rfl) rfl args w
@[simp] theorem Tryq.func111 : Tryq.prog.funcs[111]? = some Tryz.f111 := (Tryq.same rfl).trans Tryz.func111
theorem Tryq.ntmps111 : Func.ntmps Tryz.f111 = 14 := Tryz.ntmps111
@[simp] theorem Tryq.call111 (args : Array Value) (w : World) : (callFunc 111 args).run Tryq.prog w = .ok (.enter 111 args) w := Tryq.calls Tryq.func111 (by kernel_rfl) rfl args w
@[simp] theorem Tryq.func112 : Tryq.prog.funcs[112]? = some Tryz.f112 := (Tryq.same rfl).trans Tryz.func112
theorem Tryq.ntmps112 : Func.ntmps Tryz.f112 = 125 := Tryz.ntmps112
@[simp] theorem Tryq.call112 (args : Array Value) (w : World) : (callFunc 112 args).run Tryq.prog w = .ok (.enter 112 args) w := Tryq.calls Tryq.func112 (by kernel_rfl) rfl args w
@[simp] theorem Tryq.func113 : Tryq.prog.funcs[113]? = some Tryz.f113 := (Tryq.same rfl).trans Tryz.func113
theorem Tryq.ntmps113 : Func.ntmps Tryz.f113 = 9 := Tryz.ntmps113
@[simp] theorem Tryq.call113 (args : Array Value) (w : World) : (callFunc 113 args).run Tryq.prog w = .ok (.enter 113 args) w := Tryq.calls Tryq.func113 (by kernel_rfl) rfl args w
@[simp] theorem Tryq.func114 : Tryq.prog.funcs[114]? = some Tryz.f114 := (Tryq.same rfl).trans Tryz.func114
theorem Tryq.ntmps114 : Func.ntmps Tryz.f114 = 22 := Tryz.ntmps114
@[simp] theorem Tryq.call114 (args : Array Value) (w : World) : (callFunc 114 args).run Tryq.prog w = .ok (.enter 114 args) w := Tryq.calls Tryq.func114 (by kernel_rfl) rfl args w
@[simp] theorem Tryq.func115 : Tryq.prog.funcs[115]? = some Tryz.f115 := (Tryq.same rfl).trans Tryz.func115
theorem Tryq.ntmps115 : Func.ntmps Tryz.f115 = 46 := Tryz.ntmps115
@[simp] theorem Tryq.call115 (args : Array Value) (w : World) : (callFunc 115 args).run Tryq.prog w = .ok (.enter 115 args) w := Tryq.calls Tryq.func115 (by kernel_rfl) rfl args w
@[simp] theorem Tryq.func116 : Tryq.prog.funcs[116]? = some Tryz.f116 := (Tryq.same rfl).trans Tryz.func116
theorem Tryq.ntmps116 : Func.ntmps Tryz.f116 = 37 := Tryz.ntmps116
@[simp] theorem Tryq.call116 (args : Array Value) (w : World) : (callFunc 116 args).run Tryq.prog w = .ok (.enter 116 args) w := Tryq.calls Tryq.func116 (by kernel_rfl) rfl args w
@[simp] theorem Tryq.func117 : Tryq.prog.funcs[117]? = some Tryz.f117 := (Tryq.same rfl).trans Tryz.func117
theorem Tryq.ntmps117 : Func.ntmps Tryz.f117 = 5 := Tryz.ntmps117
@[simp] theorem Tryq.call117 (args : Array Value) (w : World) : (callFunc 117 args).run Tryq.prog w = .ok (.enter 117 args) w := Tryq.calls Tryq.func117 (by kernel_rfl) rfl args w
@[simp] theorem Tryq.func118 : Tryq.prog.funcs[118]? = some Tryz.f118 := (Tryq.same rfl).trans Tryz.func118
theorem Tryq.ntmps118 : Func.ntmps Tryz.f118 = 42 := Tryz.ntmps118
@[simp] theorem Tryq.call118 (args : Array Value) (w : World) : (callFunc 118 args).run Tryq.prog w = .ok (.enter 118 args) w := Tryq.calls Tryq.func118 (by kernel_rfl) rfl args w
@[simp] theorem Tryq.func119 : Tryq.prog.funcs[119]? = some Tryz.f119 := (Tryq.same rfl).trans Tryz.func119
theorem Tryq.ntmps119 : Func.ntmps Tryz.f119 = 9 := Tryz.ntmps119
@[simp] theorem Tryq.call119 (args : Array Value) (w : World) : (callFunc 119 args).run Tryq.prog w = .ok (.enter 119 args) w := Tryq.calls Tryq.func119 (by kernel_rfl) rfl args w
@[simp] theorem Tryq.func120 : Tryq.prog.funcs[120]? = some Tryz.f120 := (Tryq.same rfl).trans Tryz.func120
@[simp] theorem Tryq.func121 : Tryq.prog.funcs[121]? = some Tryz.f121 := (Tryq.same rfl).trans Tryz.func121
@[simp] theorem Tryq.func122 : Tryq.prog.funcs[122]? = some Tryz.f122 := (Tryq.same rfl).trans Tryz.func122
theorem Tryq.ntmps122 : Func.ntmps Tryz.f122 = 6 := Tryz.ntmps122
@[simp] theorem Tryq.call122 (args : Array Value) (w : World) : (callFunc 122 args).run Tryq.prog w = .ok (.enter 122 args) w := Tryq.calls Tryq.func122 (by kernel_rfl) rfl args w
@[simp] theorem Tryq.func123 : Tryq.prog.funcs[123]? = some Tryz.f123 := (Tryq.same rfl).trans Tryz.func123
theorem Tryq.ntmps123 : Func.ntmps Tryz.f123 = 51 := Tryz.ntmps123
@[simp] theorem Tryq.call123 (args : Array Value) (w : World) : (callFunc 123 args).run Tryq.prog w = .ok (.enter 123 args) w := Tryq.calls Tryq.func123 (by kernel_rfl) rfl args w
@[simp] theorem Tryq.func124 : Tryq.prog.funcs[124]? = some Tryz.f124 := (Tryq.same rfl).trans Tryz.func124
theorem Tryq.ntmps124 : Func.ntmps Tryz.f124 = 10 := Tryz.ntmps124
@[simp] theorem Tryq.call124 (args : Array Value) (w : World) : (callFunc 124 args).run Tryq.prog w = .ok (.enter 124 args) w := Tryq.calls Tryq.func124 (by kernel_rfl) rfl args w
@[simp] theorem Tryq.func125 : Tryq.prog.funcs[125]? = some Tryz.f125 := (Tryq.same rfl).trans Tryz.func125
@[simp] theorem Tryq.func126 : Tryq.prog.funcs[126]? = some Tryq.cc := by rw [Tryq.get, Tryz.func126]; rfl
@[simp] theorem Tryq.ntmps126 : Func.ntmps Tryq.cc = 20 := rfl
@[simp] theorem Tryq.call126 (args : Array Value) (w : World) : (callFunc 126 args).run Tryq.prog w = .ok (.enter 126 args) w := Tryq.calls Tryq.func126 (by kernel_rfl) rfl args w
@[simp] theorem Tryq.func127 : Tryq.prog.funcs[127]? = some Tryz.f127 := (Tryq.same rfl).trans Tryz.func127
theorem Tryq.ntmps127 : Func.ntmps Tryz.f127 = 30 := Tryz.ntmps127
@[simp] theorem Tryq.call127 (args : Array Value) (w : World) : (callFunc 127 args).run Tryq.prog w = .ok (.enter 127 args) w := Tryq.calls Tryq.func127 (by kernel_rfl) rfl args w
@[simp] theorem Tryq.func131 : Tryq.prog.funcs[131]? = some Tryz.f131 := (Tryq.same rfl).trans Tryz.func131
theorem Tryq.ntmps131 : Func.ntmps Tryz.f131 = 19 := Tryz.ntmps131
@[simp] theorem Tryq.call131 (args : Array Value) (w : World) : (callFunc 131 args).run Tryq.prog w = .ok (.enter 131 args) w := Tryq.calls Tryq.func131 (by kernel_rfl) rfl args w
@[simp] theorem Tryq.func132 : Tryq.prog.funcs[132]? = some Tryz.f132 := (Tryq.same rfl).trans Tryz.func132
theorem Tryq.ntmps132 : Func.ntmps Tryz.f132 = 19 := Tryz.ntmps132
@[simp] theorem Tryq.call132 (args : Array Value) (w : World) : (callFunc 132 args).run Tryq.prog w = .ok (.enter 132 args) w := Tryq.calls Tryq.func132 (by kernel_rfl) rfl args w
@[simp] theorem Tryq.func133 : Tryq.prog.funcs[133]? = some Tryq.up := by rw [Tryq.get, Tryz.func133]; rfl
@[simp] theorem Tryq.ntmps133 : Func.ntmps Tryq.up = 28 := rfl
@[simp] theorem Tryq.call133 (args : Array Value) (w : World) : (callFunc 133 args).run Tryq.prog w = .ok (.enter 133 args) w := Tryq.calls Tryq.func133 (by kernel_rfl) rfl args w
@[simp] theorem Tryq.func134 : Tryq.prog.funcs[134]? = some Tryz.f134 := (Tryq.same rfl).trans Tryz.func134
theorem Tryq.ntmps134 : Func.ntmps Tryz.f134 = 47 := Tryz.ntmps134
@[simp] theorem Tryq.call134 (args : Array Value) (w : World) : (callFunc 134 args).run Tryq.prog w = .ok (.enter 134 args) w := Tryq.calls Tryq.func134 (by kernel_rfl) rfl args w
@[simp] theorem Tryq.func135 : Tryq.prog.funcs[135]? = some Tryz.f135 := (Tryq.same rfl).trans Tryz.func135
theorem Tryq.ntmps135 : Func.ntmps Tryz.f135 = 15 := Tryz.ntmps135
@[simp] theorem Tryq.call135 (args : Array Value) (w : World) : (callFunc 135 args).run Tryq.prog w = .ok (.enter 135 args) w := Tryq.calls Tryq.func135 (by kernel_rfl) rfl args w
@[simp] theorem Tryq.func136 : Tryq.prog.funcs[136]? = some Tryz.f136 := (Tryq.same rfl).trans Tryz.func136
theorem Tryq.ntmps136 : Func.ntmps Tryz.f136 = 21 := Tryz.ntmps136
@[simp] theorem Tryq.call136 (args : Array Value) (w : World) : (callFunc 136 args).run Tryq.prog w = .ok (.enter 136 args) w := Tryq.calls Tryq.func136 (by kernel_rfl) rfl args w
@[simp] theorem Tryq.func137 : Tryq.prog.funcs[137]? = some Tryz.f137 := (Tryq.same rfl).trans Tryz.func137
theorem Tryq.ntmps137 : Func.ntmps Tryz.f137 = 19 := Tryz.ntmps137
@[simp] theorem Tryq.call137 (args : Array Value) (w : World) : (callFunc 137 args).run Tryq.prog w = .ok (.enter 137 args) w := Tryq.calls Tryq.func137 (by kernel_rfl) rfl args w
@[simp] theorem Tryq.func138 : Tryq.prog.funcs[138]? = some Tryz.f138 := (Tryq.same rfl).trans Tryz.func138
@[simp] theorem Tryq.func139 : Tryq.prog.funcs[139]? = some Tryz.f139 := (Tryq.same rfl).trans Tryz.func139
@[simp] theorem Tryq.func140 : Tryq.prog.funcs[140]? = some Tryz.f140 := (Tryq.same rfl).trans Tryz.func140
@[simp] theorem Tryq.func141 : Tryq.prog.funcs[141]? = some Tryz.f141 := (Tryq.same rfl).trans Tryz.func141
@[simp] theorem Tryq.func142 : Tryq.prog.funcs[142]? = some Tryz.f142 := (Tryq.same rfl).trans Tryz.func142
@[simp] theorem Tryq.func143 : Tryq.prog.funcs[143]? = some Tryz.f143 := (Tryq.same rfl).trans Tryz.func143
@[simp] theorem Tryq.func144 : Tryq.prog.funcs[144]? = some Tryz.f144 := (Tryq.same rfl).trans Tryz.func144
@[simp] theorem Tryq.func145 : Tryq.prog.funcs[145]? = some Tryz.f145 := (Tryq.same rfl).trans Tryz.func145
@[simp] theorem Tryq.func146 : Tryq.prog.funcs[146]? = some Tryz.f146 := (Tryq.same rfl).trans Tryz.func146
@[simp] theorem Tryq.func147 : Tryq.prog.funcs[147]? = some Tryz.f147 := (Tryq.same rfl).trans Tryz.func147
@[simp] theorem Tryq.func148 : Tryq.prog.funcs[148]? = some Tryz.f148 := (Tryq.same rfl).trans Tryz.func148
@[simp] theorem Tryq.func149 : Tryq.prog.funcs[149]? = some Tryq.stop := by rw [Tryq.get, Tryz.func149]; rfl
@[simp] theorem Tryq.func150 : Tryq.prog.funcs[150]? = some Tryz.f150 := (Tryq.same rfl).trans Tryz.func150
@[simp] theorem Tryq.func153 : Tryq.prog.funcs[153]? = some Tryq.stop := by rw [Tryq.get, Tryz.func153]; rfl
@[simp] theorem Tryq.func154 : Tryq.prog.funcs[154]? = some Tryq.stop := by rw [Tryq.get, Tryz.func154]; rfl
@[simp] theorem Tryq.func155 : Tryq.prog.funcs[155]? = some Tryz.f155 := (Tryq.same rfl).trans Tryz.func155
@[simp] theorem Tryq.func156 : Tryq.prog.funcs[156]? = some Tryq.stop := by rw [Tryq.get, Tryz.func156]; rfl
@[simp] theorem Tryq.func157 : Tryq.prog.funcs[157]? = some Tryq.stop := by rw [Tryq.get, Tryz.func157]; rfl
@[simp] theorem Tryq.func158 : Tryq.prog.funcs[158]? = some Tryz.f158 := (Tryq.same rfl).trans Tryz.func158
theorem Tryq.ntmps158 : Func.ntmps Tryz.f158 = 15 := Tryz.ntmps158
@[simp] theorem Tryq.call158 (args : Array Value) (w : World) : (callFunc 158 args).run Tryq.prog w = .ok (.enter 158 args) w := Tryq.calls Tryq.func158 (by kernel_rfl) rfl args w
@[simp] theorem Tryq.func159 : Tryq.prog.funcs[159]? = some Tryz.f159 := (Tryq.same rfl).trans Tryz.func159
@[simp] theorem Tryq.func160 : Tryq.prog.funcs[160]? = some Tryz.f160 := (Tryq.same rfl).trans Tryz.func160
@[simp] theorem Tryq.func161 : Tryq.prog.funcs[161]? = some Tryz.f161 := (Tryq.same rfl).trans Tryz.func161
@[simp] theorem Tryq.func162 : Tryq.prog.funcs[162]? = some Tryz.f162 := (Tryq.same rfl).trans Tryz.func162
@[simp] theorem Tryq.func163 : Tryq.prog.funcs[163]? = some Tryz.f163 := (Tryq.same rfl).trans Tryz.func163
@[simp] theorem Tryq.func164 : Tryq.prog.funcs[164]? = some Tryz.f164 := (Tryq.same rfl).trans Tryz.func164
@[simp] theorem Tryq.func165 : Tryq.prog.funcs[165]? = some Tryz.f165 := (Tryq.same rfl).trans Tryz.func165
@[simp] theorem Tryq.func166 : Tryq.prog.funcs[166]? = some Tryz.f166 := (Tryq.same rfl).trans Tryz.func166
@[simp] theorem Tryq.func167 : Tryq.prog.funcs[167]? = some Tryz.f167 := (Tryq.same rfl).trans Tryz.func167
@[simp] theorem Tryq.func168 : Tryq.prog.funcs[168]? = some Tryq.stop := by rw [Tryq.get, Tryz.func168]; rfl
@[simp] theorem Tryq.func169 : Tryq.prog.funcs[169]? = some Tryq.stop := by rw [Tryq.get, Tryz.func169]; rfl
@[simp] theorem Tryq.func170 : Tryq.prog.funcs[170]? = some Tryq.stop := by rw [Tryq.get, Tryz.func170]; rfl
@[simp] theorem Tryq.func171 : Tryq.prog.funcs[171]? = some Tryq.stop := by rw [Tryq.get, Tryz.func171]; rfl
@[simp] theorem Tryq.func172 : Tryq.prog.funcs[172]? = some Tryq.stop := by rw [Tryq.get, Tryz.func172]; rfl
@[simp] theorem Tryq.func173 : Tryq.prog.funcs[173]? = some Tryq.stop := by rw [Tryq.get, Tryz.func173]; rfl
@[simp] theorem Tryq.func174 : Tryq.prog.funcs[174]? = some Tryz.f174 := (Tryq.same rfl).trans Tryz.func174
@[simp] theorem Tryq.func175 : Tryq.prog.funcs[175]? = some Tryz.f175 := (Tryq.same rfl).trans Tryz.func175
@[simp] theorem Tryq.func176 : Tryq.prog.funcs[176]? = some Tryq.stop := by rw [Tryq.get, Tryz.func176]; rfl
@[simp] theorem Tryq.func177 : Tryq.prog.funcs[177]? = some Tryz.f177 := (Tryq.same rfl).trans Tryz.func177
@[simp] theorem Tryq.func178 : Tryq.prog.funcs[178]? = some Tryz.f178 := (Tryq.same rfl).trans Tryz.func178
@[simp] theorem Tryq.func179 : Tryq.prog.funcs[179]? = some Tryq.stop := by rw [Tryq.get, Tryz.func179]; rfl
@[simp] theorem Tryq.func180 : Tryq.prog.funcs[180]? = some Tryq.stop := by rw [Tryq.get, Tryz.func180]; rfl
@[simp] theorem Tryq.func181 : Tryq.prog.funcs[181]? = some Tryq.stop := by rw [Tryq.get, Tryz.func181]; rfl
@[simp] theorem Tryq.func182 : Tryq.prog.funcs[182]? = some Tryq.stop := by rw [Tryq.get, Tryz.func182]; rfl
@[simp] theorem Tryq.func183 : Tryq.prog.funcs[183]? = some Tryz.f183 := (Tryq.same rfl).trans Tryz.func183
@[simp] theorem Tryq.func184 : Tryq.prog.funcs[184]? = some Tryq.stop := by rw [Tryq.get, Tryz.func184]; rfl
@[simp] theorem Tryq.func185 : Tryq.prog.funcs[185]? = some Tryq.stop := by rw [Tryq.get, Tryz.func185]; rfl
@[simp] theorem Tryq.func186 : Tryq.prog.funcs[186]? = some Tryz.f186 := (Tryq.same rfl).trans Tryz.func186
@[simp] theorem Tryq.func187 : Tryq.prog.funcs[187]? = some Tryz.f187 := (Tryq.same rfl).trans Tryz.func187
@[simp] theorem Tryq.func188 : Tryq.prog.funcs[188]? = some Tryz.f188 := (Tryq.same rfl).trans Tryz.func188
@[simp] theorem Tryq.func189 : Tryq.prog.funcs[189]? = some Tryz.f189 := (Tryq.same rfl).trans Tryz.func189
@[simp] theorem Tryq.func190 : Tryq.prog.funcs[190]? = some Tryz.f190 := (Tryq.same rfl).trans Tryz.func190
@[simp] theorem Tryq.func191 : Tryq.prog.funcs[191]? = some Tryq.stop := by rw [Tryq.get, Tryz.func191]; rfl
@[simp] theorem Tryq.func192 : Tryq.prog.funcs[192]? = some Tryq.stop := by rw [Tryq.get, Tryz.func192]; rfl
@[simp] theorem Tryq.func193 : Tryq.prog.funcs[193]? = some Tryq.stop := by rw [Tryq.get, Tryz.func193]; rfl
@[simp] theorem Tryq.func194 : Tryq.prog.funcs[194]? = some Tryq.stop := by rw [Tryq.get, Tryz.func194]; rfl
@[simp] theorem Tryq.func195 : Tryq.prog.funcs[195]? = some Tryq.stop := by rw [Tryq.get, Tryz.func195]; rfl
@[simp] theorem Tryq.func196 : Tryq.prog.funcs[196]? = some Tryz.f196 := (Tryq.same rfl).trans Tryz.func196
@[simp] theorem Tryq.func197 : Tryq.prog.funcs[197]? = some Tryz.f197 := (Tryq.same rfl).trans Tryz.func197
end Go.Proofs
end
