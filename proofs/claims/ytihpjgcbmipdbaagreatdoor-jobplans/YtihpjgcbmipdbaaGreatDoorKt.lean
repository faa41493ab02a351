import Derived.Test.YtihpjgcbmipdbaaGreatDoorV11
import Derived.KernelRfl
import Derived.Test.YtihpjgcbmipdbaaGreatDoorRows
set_option linter.unusedVariables false
namespace Go.Vm
abbrev B8 := List UInt8
open Go.Proofs
open Go.Proofs
theorem P4:∀ x∈([("internal/strconv.uint64pow10",.u64,Go.Lib.pow10Tab)]:List (String×IntKind×List Int)),∃ g,Tryz.prog.globalNamed x.1=some g/\g<6:=by
 intro x hx;simp only[List.mem_cons,List.not_mem_nil,or_false] at hx;rcases hx with rfl
 ·exact ⟨5,by kernel_rfl,by decide⟩
noncomputable def kt:KT:={ k:=fun t=>if t=3 then some .i64 else if t=4 then some .bo else if t=5 then some .u8 else if t=9 then some .str else if t=20 then some .jv else if t=21 then some .i32 else if t=35 then some .en else if t=39 then some .rd else if t=62 then some .ph else if t=82 then some .pl else if t=89 then some .ens else if t=95 then some .rl else if t=172 then some .pc else if t=174 then some .er else if t=206 then some .me else if t=250 then some .u64 else if t=252 then some .u32 else none,j:={ nu:=227,bo:=4,it:=3,st:=9,li:=200,ob:=203,er:=259,nd:=by decide },gl:=GlW Tryz.prog 6 [("internal/strconv.uint64pow10",.u64,Go.Lib.pow10Tab)] [3,4] (fun w=>Go.Lib.Utf8Tabs 1 2 w/\EV [0] w),gb:=6,gl_sz:=fun w h=>h.sz,gl_ok:=fun w w' h hw=>h.on P4 (by decide) (fun w w' h hw=>⟨Se (by decide) (by decide) w w' h.1 hw,J7 (by decide) w w' h.2 hw⟩) hw }
noncomputable abbrev TT:=bg kt
theorem hm:Tryz.prog.follows .mixedOrders=true:=by kernel_rfl
noncomputable def aj (f:Nat):Code:=((Tryz.prog.funcs[f]?).bind (·.body)).getD .skip
theorem ar (F:Nat) {s:Spec Kd} {M:tyS El s.params->Option (s.R El)} {f:FuncId} {fn:Func} {code:Code} {env:Env El} (hf:Tryz.prog.funcs[f]? = some fn) (o7:∀ f,Ctr TT Tryz.prog f (env f))
 (hM:∀ x,sc TT Tryz.prog env s code F x=M x) (hb:fn.body=some code:=by kernel_rfl) (iT:(fn.name == "runtime.NumGoroutine")=false:=by kernel_rfl) (UO:fn.results=s.vars:=by kernel_rfl) (Z0:fn.ntmps=s.pl.nt:=by kernel_rfl)
 (hk:r7 (pH 0 s.params) code=true:=by kernel_rfl):Ctr TT Tryz.prog f (ai TT s M):=pU hf hb iT UO Z0 o7 hm hk (fun x r h=>⟨F,(hM x).trans h⟩)
abbrev acC:List (S0 Kd):=[(.int .i64),.str,(.int .i64),(.int .i64),(.int .i64),(.int .i64),.str,(.int .i64),(.int .i64),(.int .i64),.str,.str,.str,.str]
abbrev acD:List (S0 Kd):=[(.int .i64),(.int .i64),.str,(.int .i64),(.int .i64),(.int .i64),(.int .i64),.str,(.int .i64),(.int .i64),(.int .i64),.str,.str,.str,.str,(.int .i64),.str,(.int .i64),(.int .i64),(.int .i64),.str,.str,(.int .i64),(.int .i64),(.int .i64),.str,(.int .i64),(.int .i64)]
abbrev acE:Type:=(Int×B8×Int×Int×Int×Int×B8×Int×Int×Int×B8×B8×B8×B8×Unit)
abbrev acF:List (S0 Kd):=[.str,(.int .i64),(.int .i64),(.int .i64)]
abbrev acG:Type:=(B8×Int×Int×Int×Unit)
abbrev acH:Type:=(Int×Int×B8×Int×Int×Int×Int×B8×Int×Int×Int×B8×B8×B8×B8×Int×B8×Int×Int×Int×B8×B8×Int×Int×Int×B8×Int×Int×Unit)
abbrev acI:List (S0 Kd):=[(.int .i64),(.int .i64),(.int .i64),.str,(.int .i64),(.int .i64),.bool,(.int .i64)]
abbrev acJ:Type:=(Int×B8×B8×Int×List B8×List B8×Unit)
abbrev acK:List (S0 Kd):=[(.int .i64),.str,.str,(.int .i64),(.slc .str),(.slc .str)]
abbrev acL:Type:=(Int×Int×Int×B8×Int×Int×Bool×Int×Unit)
abbrev acM:List (S0 Kd):=[(.int .i64),(.int .i64),(.int .i64),.str,(.int .i64),(.int .i64),.bool,(.int .i64),(.int .i64),.str,(.int .i64),(.int .i64),(.int .i64),(.int .i64),.str,(.int .i64),(.int .i64),(.int .i64),.str,.str,.str,.str,(.slc .ph),(.int .i64),.str,(.int .i64),(.int .i64),(.int .i64),(.int .i64),(.int .i64),(.int .i64),(.int .i64),(.int .i64),(.int .i64),(.int .i64),(.int .i64)]
abbrev acN:Type:=(Int×B8×B8×Int×(List (El .str))×(List (El .str))×Unit)
abbrev acO:List (S0 Kd):=[(.int .i64),(.int .i64),(.int .i64),(.int .i64),(.int .i64),(.int .i64)]
abbrev acP:List (S0 Kd):=[(.int .i64),(.int .i64),.str,(.int .i64),.str,(.int .i64),(.int .i64),(.int .i64),.str,.str]
abbrev acQ:Type:=(Int×B8×Int×B8×Unit)
abbrev acR:List (S0 Kd):=[(.int .i64),.str,(.int .i64),(.int .i64),(.int .i64),(.int .i64)]
abbrev acS:Type:=(Int×Int×Int×Int×Int×Int×Unit)
abbrev acT:Type:=(Int×Int×B8×Int×B8×Int×Int×Int×B8×B8×Unit)
abbrev acU:List (S0 Kd):=[(.int .i64),.str,(.int .i64),.str]
abbrev acV:Type:=(Int×B8×Int×Int×Int×Int×Unit)
abbrev acW:Type:=(Int×B8×B8×Int×List B8×Unit×Unit)
abbrev acX:Type:=(Unit×Unit×Unit)
abbrev acY:List (S0 Kd):=[(.int .i64),(.int .i64),(.int .i64),.str,(.int .i64),(.int .i64)]
abbrev acZ:Type:=(Int×Int×Int×B8×Int×Int×Bool×Int×Int×B8×Int×Int×Int×Int×B8×Int×Int×Int×B8×B8×B8×B8×(List (El .ph))×Int×B8×Int×Int×Int×Int×Int×Int×Int×Int×Int×Int×Int×Unit)
abbrev ac0:Type:=(Unit ⊕ Bool×Unit)
abbrev ac1:Type:=((Unit)×(List (El .u8))×Unit)
abbrev ac2:Type:=(Int×Int×Int×B8×Int×Int×Unit)
abbrev ac3:Type:=(B8×Int×Unit)
abbrev ac4:Type:=(Bool×B8×Unit)
abbrev ac5:S0 Kd:=.int .i64
abbrev ac6:S1 Kd:=.a (.int .i64)
abbrev ac7:S1 Kd:=.a .bool
abbrev ac8:S1 Kd:=.a .str
theorem adp {α : Type _} {a : Option α} {b c : α} (h : a = some b) (e : b = c := by kernel_rfl) : a = some c := h.trans (congrArg some e)
end Go.Vm
