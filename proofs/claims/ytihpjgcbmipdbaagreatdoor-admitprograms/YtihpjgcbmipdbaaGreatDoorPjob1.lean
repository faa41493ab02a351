import Derived.Test.YtihpjgcbmipdbaaGreatDoorPk3
import Derived.Test.YtihpjgcbmipdbaaGreatDoorPad1
import Derived.Test.YtihpjgcbmipdbaaGreatDoorFref14
import Derived.Test.YtihpjgcbmipdbaaGreatDoorPh5
import Derived.Test.YtihpjgcbmipdbaaGreatDoorPrt
/- Entries: whether one may be: the program's answer and the document's are the plain one. (Cut out of the texts of entries.) No condition. -/
namespace Go.Vm
open Go Go.Proofs
set_option linter.unusedVariables false
set_option linter.unusedSimpArgs false
structure Ent where
 te:Int
 key:B8
 st:Int
 ep:Int
 tk:Int
 pt:Int
 pr:B8
 le:Int
 ex:Int
 su:Int
 tx:B8
 me:B8
 pa:B8
 bo:B8
 deriving DecidableEq
abbrev En:Type:=Int×B8×Int×Int×Int×Int×B8×Int×Int×Int×B8×B8×B8×B8×Unit
def Ent.t (e:Ent):En:=(e.te,e.key,e.st,e.ep,e.tk,e.pt,e.pr,e.le,e.ex,e.su,e.tx,e.me,e.pa,e.bo,())
def Ent.zero:Ent:=⟨0,[],0,0,0,0,[],0,0,0,[],[],[],[]⟩
end Go.Vm
/- Leases: plainly: what passing, finishing, failing and releasing leave of an entry. No condition. -/
namespace Go.Vm
open Go.Proofs
set_option linter.unusedVariables false
set_option linter.unusedSimpArgs false
def brT (n lo hi:Int):Int:=if n<lo then lo else if hi<n then hi else n
def oA (n:Int):Int:=brT n 0 1099511627776
theorem MW (n:Int) {lo hi:Int} (h:lo≤hi):lo≤brT n lo hi∧brT n lo hi≤hi:=by
 unfold brT
 repeat' split
 all_goals omega
theorem sC (n:Int):0≤oA n∧oA n≤1099511627776:=MW n (by decide)
end Go.Vm
/- Phrases: gaps; the wake; the law of checks. No condition but on lengths. -/
namespace Go.Vm
open Go.Proofs
open Go.Lib (decodeL decodeN decodeL_N decode_N decodeN_shape decodeL_le)
set_option linter.unusedVariables false
set_option linter.unusedSimpArgs false
theorem vp : ∀ s:By,(∀ b∈s,b.toNat<128)→(de s).map (·.1)=s.map fun b=>(b.toNat:Int)
 | [],h=>by rw [gO]; rfl
 | c :: s,h=>by
  rw [Hn c (h c (List.mem_cons_self ..)),List.map_cons,List.map_cons,vp s fun b hb=>h b (List.mem_cons_of_mem _ hb)]
abbrev wkB:By := [123,34,115,117,109,34,58,53,125]
end Go.Vm
/- Phrases: what the document fills is the plain text. No condition but on lengths. -/
namespace Go.Vm
open Go.Proofs
open Go.Lib (decodeL decodeN decodeL_N decode_N decodeN_shape decodeL_le)
set_option linter.unusedVariables false
set_option linter.unusedSimpArgs false
/-! ### members -/
end Go.Vm
/- Programs: what is to be done next, how many calls are ahead: plainly. No condition. -/
namespace Go.Vm
open Go.Proofs
set_option linter.unusedVariables false
set_option linter.unusedSimpArgs false
abbrev DoT:=Int×Int×By×Int×By×Int×Int×Int×By×By×Unit
abbrev EnT.pt (e:EnT):Int:=e.2.2.2.2.2.1
abbrev EnT.tk (e:EnT):Int:=e.2.2.2.2.1
abbrev EnT.ep (e:EnT):Int:=e.2.2.2.1
end Go.Vm
/- Jobs: plainly: what is planned. No condition. -/
namespace Go.Vm
open Go.Proofs
set_option linter.unusedVariables false
set_option linter.unusedSimpArgs false
abbrev JbT:=Int×Int×Int×By×Int×Int×Bool×Int×Unit
abbrev RpT:=Int×By×Int×Int×Int×Int×Unit
abbrev CaT:=Int×By×Int×Int×Int×By×By×Unit
abbrev JbT.cl (j:JbT):Int:=j.1
abbrev JbT.se (j:JbT):Int:=j.2.1
abbrev JbT.te (j:JbT):Int:=j.2.2.1
abbrev JbT.eo (j:JbT):Int:=j.2.2.2.2.1
abbrev JbT.to (j:JbT):Int:=j.2.2.2.2.2.1
abbrev JbT.ph (j:JbT):Int:=j.2.2.2.2.2.2.2.1
abbrev RpT.code (r:RpT):Int:=r.2.2.2.2.2.1
abbrev DoT.ca (d:DoT):CaT:=d.2.2.2
end Go.Vm
