import Derived.Test.YtihpjgcbmipdbaaGreatDoorV11
import Derived.KernelRfl
import Derived.Test.YtihpjgcbmipdbaaGreatDoorRows
set_option linter.unusedVariables false
namespace Go.Vm
abbrev B8 := List UInt8
open Go.Proofs
open Go.Proofs
theorem O7 : ∀ x∈([("internal/strconv.uint64pow10", .u64,Go.Lib.pow10Tab)]:List (String×IntKind×List Int)), ∃ g,Tryz.prog.globalNamed x.1=some g∧g<6:=by
 intro x hx;simp only [List.mem_cons,List.not_mem_nil,or_false] at hx;rcases hx with rfl
 ·exact ⟨5,by kernel_rfl,by decide⟩
noncomputable def kt:KT:={ k:=fun t=>if t=3 then some .i64 else if t=4 then some .bo else if t=5 then some .u8 else if t=9 then some .str else if t=20 then some .jv else if t=21 then some .i32 else if t=35 then some .en else if t=39 then some .rd else if t=62 then some .ph else if t=82 then some .pl else if t=89 then some .ens else if t=95 then some .rl else if t=172 then some .pc else if t=174 then some .er else if t=206 then some .me else if t=250 then some .u64 else if t=252 then some .u32 else none,j:={ nu:=227,bo:=4,it:=3,st:=9,li:=200,ob:=203,er:=259,nd:=by decide },gl:=GlW Tryz.prog 6 [("internal/strconv.uint64pow10", .u64,Go.Lib.pow10Tab)] [3,4] (fun w=>Go.Lib.Utf8Tabs 1 2 w∧ET [0] w),gb:=6,gl_sz:=fun w h=>h.sz,gl_ok:=fun w w' h hw=>h.on O7 (by decide) (fun w w' h hw=>⟨Rr (by decide) (by decide) w w' h.1 hw,Js (by decide) w w' h.2 hw⟩) hw }
noncomputable abbrev TT:=aZ kt
theorem hm:Tryz.prog.follows .mixedOrders=true:=by kernel_rfl
noncomputable def ao (f:Nat):Code:=((Tryz.prog.funcs[f]?).bind (·.body)).getD .skip
theorem ay (F:Nat) {s:Spec Kd} {M:tyS El s.params→Option (s.R El)} {f:FuncId} {fn:Func} {code:Code} {env:Env El} (hf:Tryz.prog.funcs[f]? = some fn) (oc : ∀ f,Ctr TT Tryz.prog f (env f))
 (hM : ∀ x,re TT Tryz.prog env s code F x=M x) (hb:fn.body=some code:=by kernel_rfl) (jm:(fn.name == "runtime.NumGoroutine")=false:=by kernel_rfl) (TG:fn.results=s.vars:=by kernel_rfl) (YA:fn.ntmps=s.pl.nt:=by kernel_rfl)
 (hk:qq (ou 0 s.params) code=true:=by kernel_rfl):Ctr TT Tryz.prog f (ah TT s M):=oQ hf hb jm TG YA oc hm hk (fun x r h=>⟨F,(hM x).trans h⟩)
abbrev aa5:List (S0 Kd):=[.str,(.int .i64),(.int .i64),(.int .i64)]
abbrev aa6:Type:=(B8×Int×Int×Int×Unit)
abbrev aa7:List (S0 Kd):=[(.int .i64),(.int .i64),(.int .i64), .str, .str, .str, .str]
abbrev aa8:Type:=(Int×B8×Int×B8×Unit)
abbrev aa9:Type:=(Int×Int×Int×B8×B8×B8×B8×Unit)
abbrev aba:List (S0 Kd):=[(.int .i64), .str, .str,(.int .i64),(.slc .str),(.slc .str)]
abbrev abb:Type:=(Int×B8×B8×Int×List B8×List B8×Unit)
abbrev abc:Type:=(Int×B8×B8×Int×(List (El .str))×(List (El .str))×Unit)
abbrev abd:Type:=(Int×B8×B8×Int×List B8×Unit×Unit)
abbrev abe:List (S0 Kd):=[(.int .i64), .str,(.int .i64), .str]
abbrev abf:Type:=(Unit×Unit×Unit)
abbrev abg:Type:=(Unit ⊕ Bool×Unit)
abbrev abh:Type:=(B8×Unit×Int×Int×List B8×Unit)
abbrev abi:Type:=(B8×Int×Unit)
abbrev abj:Type:=(List B8×List B8×Int×Int×Unit)
abbrev abk:Type:=(B8×Int×Int×Unit)
abbrev abl:Type:=((Unit)×(List (El .u8))×Unit)
abbrev abm:S0 Kd:=.int .i64
theorem abx {α : Type _} {a : Option α} {b c : α} (h : a = some b) (e : b = c := by kernel_rfl) : a = some c := h.trans (congrArg some e)
end Go.Vm
