import Derived.Test.YtihpjgcbmipdbaaGreatDoorPad1
import Derived.Test.YtihpjgcbmipdbaaGreatDoorFref14
set_option linter.unusedVariables false
set_option linter.unusedSimpArgs false
namespace Go.Vm
open Go Go.Proofs
structure Ent where
 te:Int
 key:B8
 st:Int
 ep:Int
 tk:Int
 pt:Int
 pr:B8
 le:Int
 ex:Int
 su:Int
 tx:B8
 me:B8
 pa:B8
 bo:B8
 deriving DecidableEq
abbrev En:Type:=Int×B8×Int×Int×Int×Int×B8×Int×Int×Int×B8×B8×B8×B8×Unit
def Ent.t (e:Ent):En:=(e.te,e.key,e.st,e.ep,e.tk,e.pt,e.pr,e.le,e.ex,e.su,e.tx,e.me,e.pa,e.bo,())
def Ent.zero:Ent:=⟨0,[],0,0,0,0,[],0,0,0,[],[],[],[]⟩
end Go.Vm
namespace Go.Vm
open Go.Proofs
def brT (n lo hi:Int):Int:=if n<lo then lo else if hi<n then hi else n
def wz (n:Int):Int:=brT n 0 1099511627776
theorem Ud (n:Int) {lo hi:Int} (h:lo≤hi):lo≤brT n lo hi∧brT n lo hi≤hi:=by
 unfold brT
 repeat' split
 all_goals omega
theorem Gw (n:Int):0≤wz n∧wz n≤1099511627776:=Ud n (by decide)
end Go.Vm
namespace Go.Vm
open Go.Proofs
open Go.Lib (decodeL decodeN decodeL_N decode_N decodeN_shape decodeL_le)
theorem yF : ∀ s:By,(∀ b∈s,b.toNat<128)→(dZ s).map (·.1)=s.map fun b=>(b.toNat:Int)
 | [],h=>by rw [ju]; rfl
 | c :: s,h=>by
  rw [L5 c (h c (List.mem_cons_self ..)),List.map_cons,List.map_cons,yF s fun b hb=>h b (List.mem_cons_of_mem _ hb)]
abbrev wkB:By := [123,34,115,117,109,34,58,53,125]
end Go.Vm
namespace Go.Vm
open Go.Proofs
open Go.Lib (decodeL decodeN decodeL_N decode_N decodeN_shape decodeL_le)
end Go.Vm
namespace Go.Vm
open Go.Proofs
abbrev DoT:=Int×Int×By×Int×By×Int×Int×Int×By×By×Unit
abbrev EnT.pt (e:EnT):Int:=e.2.2.2.2.2.1
abbrev EnT.tk (e:EnT):Int:=e.2.2.2.2.1
abbrev EnT.ep (e:EnT):Int:=e.2.2.2.1
end Go.Vm
namespace Go.Vm
open Go.Proofs
abbrev JbT:=Int×Int×Int×By×Int×Int×Bool×Int×Unit
abbrev RpT:=Int×By×Int×Int×Int×Int×Unit
abbrev CaT:=Int×By×Int×Int×Int×By×By×Unit
abbrev JbT.cl (j:JbT):Int:=j.1
abbrev JbT.se (j:JbT):Int:=j.2.1
abbrev JbT.te (j:JbT):Int:=j.2.2.1
abbrev JbT.eo (j:JbT):Int:=j.2.2.2.2.1
abbrev JbT.to (j:JbT):Int:=j.2.2.2.2.2.1
abbrev JbT.ph (j:JbT):Int:=j.2.2.2.2.2.2.2.1
abbrev RpT.code (r:RpT):Int:=r.2.2.2.2.2.1
abbrev DoT.ca (d:DoT):CaT:=d.2.2.2
end Go.Vm
