/- Closed facts of the row ScriptReads. No condition. -/
import Derived.Test.YtcnigpigmhpakaaGreatDoorTie
import Derived.Test.YtcnigpigmhpakaaGreatDoorCards
import Derived.Lay
import Derived.LaidLaws
import Derived.LaidOnce
import Derived.SevenTiedAt
import Derived.MakeChecks
import Derived.Handed
import Derived.Test.YtcnigpigmhpakaaGreatDoorFjson
import Derived.Test.YtcnigpigmhpakaaGreatDoorRows
import Derived.WalkKit
import Derived.ProofKit
import Derived.OpenShut
import Derived.ShutString
import Derived.ChangeOld
import Derived.Below
import Derived.SizedLaws
import Derived.SliceStrings
import Derived.WideKeyPair
namespace Go.Proofs.YtcnigpigmhpakaaGreatDoor.scriptReads
set_option linter.unusedVariables false
theorem k0:(Rows.scriptReadsRow.inPlace == Tryz.pinned.checked.prog.inPlace 5)=true:=by kernel_rfl
theorem k1:(Rows.scriptReadsRow.unfollowed == Tryz.pinned.checked.prog.unfollowed 5)=true:=by kernel_rfl
theorem k2:(Rows.scriptReadsRow.recurses == Tryz.pinned.checked.prog.recurses 5)=true:=by kernel_rfl
theorem k3:(Rows.scriptReadsRow.named == Tryz.pinned.checked.prog.varsNamed 5)=true:=by kernel_rfl
theorem closed:joinedFacts Tryz.pinned.checked.prog 5 Tryz.f5 Rows.scriptReadsSpec Rows.scriptReadsRow=true:=by
 unfold joinedFacts
 simp only [k0,k1,k2,k3]
 kernel_rfl
theorem qH:Rows.scriptReadsRow.wfByText (OpenSpec.ofChange Rows.scriptReadsSpec)=true:=by kernel_rfl
theorem mainIs:Tryz.pinned.checked.prog.mainIs=some ((true, "3b238c32eddde07b08efdb47ab8cf8927795fba977f84941667a6d1288fdc5db").1,(true, "3b238c32eddde07b08efdb47ab8cf8927795fba977f84941667a6d1288fdc5db").2.toList):=by kernel_rfl
theorem looksAt:true=Tryz.pinned.checked.prog.looks []:=by kernel_rfl
theorem goesBy:false=Rows.scriptReadsRow.goesBy Tryz.pinned.checked.prog:=by kernel_rfl
theorem nq:([9].all fun u => !Tryz.prog.wantsStandIn u)=true:=by kernel_rfl
theorem nD:Tryz.prog.funcNamed "concierge/conciergelaw34.ScriptReads" = some 5:=by kernel_rfl
end Go.Proofs.YtcnigpigmhpakaaGreatDoor.scriptReads
