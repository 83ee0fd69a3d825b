/- What single operations do: equations on their runs, over any program. -/
import Derived.Test.YtfglbdkfnphjgaaFw
import Derived.Laws.AppendOwn
import Derived.Laws.OwnMore
import Derived.IntWalk
set_option linter.unusedVariables false
namespace Go.Fw
open Go.RowKit
section
variable {P:Program} {w:World} {ρ:Operand→Value} {d:Option Nat} {ty:TypeId} {pos:String} {af:Array Edge} {g:Option (Nat × Bool)}
abbrev Yl (P:Program) (ρ:Operand→Value) (op:Op) (d:Option Nat) (ty:TypeId) (pos:String) (af:Array Edge) (g:Option (Nat × Bool)) (w:World) (v:Value):Prop:=
 (execOp ρ ⟨d,op,ty,pos,af,g⟩).run P w=.ok (.value v) w
theorem xMove {x:Operand}:Yl P ρ (.move x) d ty pos af g w (ρ x):=rfl
theorem xPickT {c x y:Operand} (hc:ρ c=.bool true):Yl P ρ (.pick c x y) d ty pos af g w (ρ x):=by simp [Yl,execOp,hc,asBool]
theorem xPickF {c x y:Operand} (hc:ρ c=.bool false):Yl P ρ (.pick c x y) d ty pos af g w (ρ y):=by simp [Yl,execOp,hc,asBool]
theorem xMvI {x:Operand} {k:IntKind} {a:Int} (h:ρ x=.int k a):Yl P ρ (.move x) d ty pos af g w (.int k a):=by rw [← h];rfl
theorem xAsI {x:Operand} {k:IntKind} {a:Int} (h:ρ x=.int k a):Yl P ρ (.assign x) d ty pos af g w (.int k a):=by rw [← h];rfl
theorem xMvS {x:Operand} {A:Option Addr} {n c:Nat} (h:ρ x=.slice A n c):Yl P ρ (.move x) d ty pos af g w (.slice A n c):=by rw [← h];rfl
theorem xAsS {x:Operand} {A:Option Addr} {n c:Nat} (h:ρ x=.slice A n c):Yl P ρ (.assign x) d ty pos af g w (.slice A n c):=by rw [← h];rfl
theorem xMvB {x:Operand} {b:Bool} (h:ρ x=.bool b):Yl P ρ (.move x) d ty pos af g w (.bool b):=by rw [← h];rfl
theorem xAsB {x:Operand} {b:Bool} (h:ρ x=.bool b):Yl P ρ (.assign x) d ty pos af g w (.bool b):=by rw [← h];rfl
theorem xPkTB {c' x y:Operand} {b:Bool} (hc:ρ c'=.bool true) (h:ρ x=.bool b):Yl P ρ (.pick c' x y) d ty pos af g w (.bool b):=by rw [← h];exact xPickT hc
theorem xPkFB {c' x y:Operand} {b:Bool} (hc:ρ c'=.bool false) (h:ρ y=.bool b):Yl P ρ (.pick c' x y) d ty pos af g w (.bool b):=by rw [← h];exact xPickF hc
theorem xMvP {x:Operand} {p:Option Addr} (h:ρ x=.pointer p):Yl P ρ (.move x) d ty pos af g w (.pointer p):=by rw [← h];rfl
theorem xAsP {x:Operand} {p:Option Addr} (h:ρ x=.pointer p):Yl P ρ (.assign x) d ty pos af g w (.pointer p):=by rw [← h];rfl
theorem xMvT {x:Operand} {s:ByteArray} (h:ρ x=.string s):Yl P ρ (.move x) d ty pos af g w (.string s):=by rw [← h];rfl
theorem xAsT {x:Operand} {s:ByteArray} (h:ρ x=.string s):Yl P ρ (.assign x) d ty pos af g w (.string s):=by rw [← h];rfl
theorem xMvM {x:Operand} {r:Option Nat} (h:ρ x=.map r):Yl P ρ (.move x) d ty pos af g w (.map r):=by rw [← h];rfl
theorem xAsM {x:Operand} {r:Option Nat} (h:ρ x=.map r):Yl P ρ (.assign x) d ty pos af g w (.map r):=by rw [← h];rfl
section ints
variable {t t':TypeId} {x y:Operand} {k:IntKind} {a b:Int}
theorem xAdd (hx:ρ x=.int k a) (hy:ρ y=.int k b):Yl P ρ (.binOp .add t x y t') d ty pos af g w (.int k (k.wrap (a+b))):=by
 simp [Yl,execOp,hx,hy,binOp,eqGuard,Op.intArith]
theorem xSub (hx:ρ x=.int k a) (hy:ρ y=.int k b):Yl P ρ (.binOp .sub t x y t') d ty pos af g w (.int k (k.wrap (a - b))):=by
 simp [Yl,execOp,hx,hy,binOp,eqGuard,Op.intArith]
theorem xMul (hx:ρ x=.int k a) (hy:ρ y=.int k b):Yl P ρ (.binOp .mul t x y t') d ty pos af g w (.int k (k.wrap (a * b))):=by
 simp [Yl,execOp,hx,hy,binOp,eqGuard,Op.intArith]
theorem xQuo (hx:ρ x=.int k a) (hy:ρ y=.int k b) (h0:b≠0):Yl P ρ (.binOp .quo t x y t') d ty pos af g w (.int k (k.wrap (a.tdiv b))):=by
 simp [Yl,execOp,hx,hy,binOp,eqGuard,Op.intDiv,h0]
theorem xRem (hx:ρ x=.int k a) (hy:ρ y=.int k b) (h0:b≠0):Yl P ρ (.binOp .rem t x y t') d ty pos af g w (.int k (a.tmod b)):=by
 simp [Yl,execOp,hx,hy,binOp,eqGuard,Op.intDiv,h0]
theorem w64 {n:Int} (h1:-9223372036854775808≤n) (h2:n≤9223372036854775807):IntKind.i64.wrap n=n:=IntWalk.i64_in n ⟨h1,h2⟩
theorem xAdd64 (hx:ρ x=.int .i64 a) (hy:ρ y=.int .i64 b) (h1:-9223372036854775808≤a+b) (h2:a+b≤9223372036854775807):Yl P ρ (.binOp .add t x y t') d ty pos af g w (.int .i64 (a+b)):=by
 have:=xAdd (P:=P) (w:=w) (d:=d) (ty:=ty) (pos:=pos) (af:=af) (g:=g) (t:=t) (t':=t') hx hy
 rwa [w64 h1 h2] at this
theorem xLss (hx:ρ x=.int k a) (hy:ρ y=.int k b):Yl P ρ (.binOp .lss t x y t') d ty pos af g w (.bool (decide (a < b))):=by simp [Yl,execOp,hx,hy,binOp,eqGuard,Op.intCmp]
theorem xLeq (hx:ρ x=.int k a) (hy:ρ y=.int k b):Yl P ρ (.binOp .leq t x y t') d ty pos af g w (.bool (decide (a≤b))):=by simp [Yl,execOp,hx,hy,binOp,eqGuard,Op.intCmp]
theorem xGtr (hx:ρ x=.int k a) (hy:ρ y=.int k b):Yl P ρ (.binOp .gtr t x y t') d ty pos af g w (.bool (decide (b < a))):=by simp [Yl,execOp,hx,hy,binOp,eqGuard,Op.intCmp]
theorem xGeq (hx:ρ x=.int k a) (hy:ρ y=.int k b):Yl P ρ (.binOp .geq t x y t') d ty pos af g w (.bool (decide (b≤a))):=by simp [Yl,execOp,hx,hy,binOp,eqGuard,Op.intCmp]
theorem xEql (hx:ρ x=.int k a) (hy:ρ y=.int k b):Yl P ρ (.binOp .eql t x y t') d ty pos af g w (.bool (a == b)):=by simp [Yl,execOp,hx,hy,binOp,eqGuard,Op.intCmp]
theorem xNeq (hx:ρ x=.int k a) (hy:ρ y=.int k b):Yl P ρ (.binOp .neq t x y t') d ty pos af g w (.bool (a != b)):=by simp [Yl,execOp,hx,hy,binOp,eqGuard,Op.intCmp]
theorem xEqlD (hx:ρ x=.int k a) (hy:ρ y=.int k b):Yl P ρ (.binOp .eql t x y t') d ty pos af g w (.bool (decide (a=b))):=by
 have:=xEql (P:=P) (w:=w) (d:=d) (ty:=ty) (pos:=pos) (af:=af) (g:=g) (t:=t) (t':=t') hx hy
 rwa [show (a == b)=decide (a=b) from rfl] at this
theorem xNeqD (hx:ρ x=.int k a) (hy:ρ y=.int k b):Yl P ρ (.binOp .neq t x y t') d ty pos af g w (.bool (decide (a≠b))):=by
 have:=xNeq (P:=P) (w:=w) (d:=d) (ty:=ty) (pos:=pos) (af:=af) (g:=g) (t:=t) (t':=t') hx hy
 have e:(a != b)=decide (a≠b):=by by_cases h:a=b <;> simp [h]
 rwa [e] at this
theorem xLssT (hx:ρ x=.int k a) (hy:ρ y=.int k b) (h:a < b):Yl P ρ (.binOp .lss t x y t') d ty pos af g w (.bool true):=by have:=xLss (P:=P) (w:=w) (d:=d) (ty:=ty) (pos:=pos) (af:=af) (g:=g) (t:=t) (t':=t') hx hy;rwa [decide_eq_true h] at this
theorem xLssF (hx:ρ x=.int k a) (hy:ρ y=.int k b) (h:¬ a < b):Yl P ρ (.binOp .lss t x y t') d ty pos af g w (.bool false):=by have:=xLss (P:=P) (w:=w) (d:=d) (ty:=ty) (pos:=pos) (af:=af) (g:=g) (t:=t) (t':=t') hx hy;rwa [decide_eq_false h] at this
theorem xConv {s t:TypeId} {k':IntKind} (x:Operand) (hs:∃ dsc,P.underlying s=some dsc) (ht:P.underlying t=some (.int k')) (hx:ρ x=.int k a):Yl P ρ (.convert s t x) d ty pos af g w (.int k' (k'.wrap a)):=by
 obtain ⟨dsc,hs⟩:=hs
 simp [Yl,execOp,hx,convert,run_underlying hs,run_underlying ht,Conv.intToInt]
theorem xNot {x:Operand} {b:Bool} (hx:ρ x=.bool b):Yl P ρ (.unOp .not t x) d ty pos af g w (.bool (!b)):=by simp [Yl,execOp,hx,Op.unary]
end ints
theorem xLen {t e:TypeId} {x:Operand} {A:Option Addr} {n c:Nat} (ht:P.underlying t=some (.slice e)) (hx:ρ x=.slice A n c) :
  Yl P ρ (.call { callee:=.builtin .len,args:=#[x],argTypes:=#[t] }) d ty pos af g w (.int .i64 n):=by
 simp [Yl,execOp,resolve,invoke,builtin,Builtin.len_,run_underlying ht,hx,goInt]
theorem xLenS {t:TypeId} {x:Operand} {s:ByteArray} (ht:P.underlying t=some .string) (hx:ρ x=.string s) :
  Yl P ρ (.call { callee:=.builtin .len,args:=#[x],argTypes:=#[t] }) d ty pos af g w (.int .i64 s.size):=by
 simp [Yl,execOp,resolve,invoke,builtin,Builtin.len_,run_underlying ht,hx,goInt]
theorem xExtract {x:Operand} {vs:Array Value} {i:Nat} {v:Value} (hx:ρ x=.tuple vs) (hv:vs[i]?=some v):Yl P ρ (.extract x i) d ty pos af g w v:=by
 simp [Yl,execOp,hx,Instr.extract,hv]
def Callable (P : Program) (k : FuncId) : Prop := ∃ fn, P.funcs[k]? = some fn ∧ (fn.name == "runtime.NumGoroutine") = false ∧ fn.body.isNone = false
theorem run_callFunc {k:FuncId} (h:Callable P k) (args:Array Value):(callFunc k args).run P w=.ok (.enter k args) w:=by
 obtain ⟨fn,h1,h2,h3⟩:=h
 have h4 : ¬ fn.name = "runtime.NumGoroutine" := by simpa using h2
 have h5:¬ fn.body=none:=by intro e;rw [e] at h3;cases h3
 simp [callFunc,h1,h4,h5]
abbrev En (P:Program) (ρ:Operand→Value) (op:Op) (d:Option Nat) (ty:TypeId) (pos:String) (af:Array Edge) (g:Option (Nat × Bool)) (w:World) (k:FuncId) (args:Array Value):Prop:=
 (execOp ρ ⟨d,op,ty,pos,af,g⟩).run P w=.ok (.enter k args) w
theorem eCall {k:FuncId} {xs:List Operand} {ts:Array TypeId} (h:Callable P k) (hf:ρ (.func k)=.func (.func k) #[] #[]) :
  En P ρ (.call { callee:=.value (.func k),args:=xs.toArray,argTypes:=ts }) d ty pos af g w k (xs.map ρ).toArray:=by
 simp [En,execOp,resolve,hf,Deferred.ofValue,invoke,run_callFunc h]
end
end Go.Fw
