/- The kinds of the seat's types. No condition. -/
import Derived.Test.YtcnigpigmhpakaaGreatDoorV11
import Derived.KernelRfl
import Derived.Test.YtcnigpigmhpakaaGreatDoorRows
namespace Go.Vm
abbrev B8 := List UInt8
open Go.Proofs
set_option linter.unusedVariables false
open Go.Proofs
theorem Fu : ∀ x∈([("internal/strconv.uint64pow10", .u64,Go.Lib.pow10Tab)]:List (String×IntKind×List Int)), ∃ g,Tryz.prog.globalNamed x.1=some g∧g<8:=by
 intro x hx
 simp only [List.mem_cons,List.not_mem_nil,or_false] at hx
 rcases hx with rfl
 ·exact ⟨3,by kernel_rfl,by decide⟩
noncomputable def kt:KT:={ k:=fun t=>if t=3 then some .i64 else if t=4 then some .bo else if t=5 then some .u8 else if t=9 then some .str else if t=20 then some .jv else if t=21 then some .i32 else if t=25 then some .ac else if t=80 then some .er else if t=122 then some .u64 else if t=127 then some .u32 else if t=133 then some .me else none,j:={ nu:=118,bo:=4,it:=3,st:=9,li:=137,ob:=130,er:=168,nd:=by decide },gl:=GlW Tryz.prog 8 [("internal/strconv.uint64pow10", .u64,Go.Lib.pow10Tab)] [6,7] (fun w=>Go.Lib.Utf8Tabs 0 1 w∧ze [2] w),gb:=8,gl_sz:=fun w h=>h.sz,gl_ok:=fun w w' h hw=>h.on Fu (by decide) (fun w w' h hw=>⟨Ht (by decide) (by decide) w w' h.1 hw,B0 (by decide) w w' h.2 hw⟩) hw }
noncomputable abbrev TT:=aX kt
theorem hm:Tryz.prog.follows .mixedOrders=true:=by kernel_rfl
noncomputable def aw (f:Nat):Code:=((Tryz.prog.funcs[f]?).bind (·.body)).getD .skip
theorem aW (F:Nat) {s:Spec Kd} {M:tyS El s.params→Option (s.R El)} {f:FuncId} {fn:Func} {code:Code} {env:Env El} (hf:Tryz.prog.funcs[f]? = some fn) (henv : ∀ f,Ctr TT Tryz.prog f (env f))
 (hM : ∀ x,o6 TT Tryz.prog env s code F x=M x) (hb:fn.body=some code:=by kernel_rfl) (hname:(fn.name == "runtime.NumGoroutine")=false:=by kernel_rfl) (hts:fn.results=s.vars:=by kernel_rfl) (hnt:fn.ntmps=s.pl.nt:=by kernel_rfl)
 (hk:mY (lZ 0 s.params) code=true:=by kernel_rfl):Ctr TT Tryz.prog f (ak TT s M):=nh hf hb hname hts hnt henv hm hk (fun x r h=>⟨F,(hM x).trans h⟩)
end Go.Vm
