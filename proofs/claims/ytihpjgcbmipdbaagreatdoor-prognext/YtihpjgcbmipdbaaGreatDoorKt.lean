/- The kinds of the seat's types. No condition. -/
import Derived.Test.YtihpjgcbmipdbaaGreatDoorV11
import Derived.KernelRfl
import Derived.Test.YtihpjgcbmipdbaaGreatDoorRows
namespace Go.Vm
abbrev B8 := List UInt8
open Go.Proofs
set_option linter.unusedVariables false
open Go.Proofs
theorem Ib : ∀ x∈([("internal/strconv.uint64pow10", .u64,Go.Lib.pow10Tab)]:List (String×IntKind×List Int)), ∃ g,Tryz.prog.globalNamed x.1=some g∧g<6:=by
 intro x hx
 simp only [List.mem_cons,List.not_mem_nil,or_false] at hx
 rcases hx with rfl
 ·exact ⟨5,by kernel_rfl,by decide⟩
noncomputable def kt:KT:={ k:=fun t=>if t=3 then some .i64 else if t=4 then some .bo else if t=5 then some .u8 else if t=9 then some .str else if t=20 then some .jv else if t=21 then some .i32 else if t=35 then some .en else if t=39 then some .rd else if t=62 then some .ph else if t=82 then some .pl else if t=89 then some .ens else if t=95 then some .rl else if t=172 then some .pc else if t=174 then some .er else if t=206 then some .me else if t=250 then some .u64 else if t=252 then some .u32 else none,j:={ nu:=227,bo:=4,it:=3,st:=9,li:=200,ob:=203,er:=259,nd:=by decide },gl:=GlW Tryz.prog 6 [("internal/strconv.uint64pow10", .u64,Go.Lib.pow10Tab)] [3,4] (fun w=>Go.Lib.Utf8Tabs 1 2 w∧zI [0] w),gb:=6,gl_sz:=fun w h=>h.sz,gl_ok:=fun w w' h hw=>h.on Ib (by decide) (fun w w' h hw=>⟨J3 (by decide) (by decide) w w' h.1 hw,CW (by decide) w w' h.2 hw⟩) hw }
noncomputable abbrev TT:=aH kt
theorem hm:Tryz.prog.follows .mixedOrders=true:=by kernel_rfl
noncomputable def aq (f:Nat):Code:=((Tryz.prog.funcs[f]?).bind (·.body)).getD .skip
theorem aC (F:Nat) {s:Spec Kd} {M:tyS El s.params→Option (s.R El)} {f:FuncId} {fn:Func} {code:Code} {env:Env El} (hf:Tryz.prog.funcs[f]? = some fn) (henv : ∀ f,Ctr TT Tryz.prog f (env f))
 (hM : ∀ x,od TT Tryz.prog env s code F x=M x) (hb:fn.body=some code:=by kernel_rfl) (hname:(fn.name == "runtime.NumGoroutine")=false:=by kernel_rfl) (hts:fn.results=s.vars:=by kernel_rfl) (hnt:fn.ntmps=s.pl.nt:=by kernel_rfl)
 (hk:nw (mh 0 s.params) code=true:=by kernel_rfl):Ctr TT Tryz.prog f (ai TT s M):=mu hf hb hname hts hnt henv hm hk (fun x r h=>⟨F,(hM x).trans h⟩)
end Go.Vm
