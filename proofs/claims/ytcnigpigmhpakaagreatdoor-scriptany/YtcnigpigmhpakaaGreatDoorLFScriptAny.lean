/- Closed facts of the row ScriptAny. No condition. -/
import Derived.Test.YtcnigpigmhpakaaGreatDoorTie
import Derived.Test.YtcnigpigmhpakaaGreatDoorCards
import Derived.Lay
import Derived.LaidLaws
import Derived.LaidOnce
import Derived.SevenTiedAt
import Derived.MakeChecks
import Derived.Handed
import Derived.Test.YtcnigpigmhpakaaGreatDoorFjson
import Derived.Test.YtcnigpigmhpakaaGreatDoorRows
import Derived.WalkKit
import Derived.ProofKit
import Derived.OpenShut
import Derived.ShutString
import Derived.ChangeOld
import Derived.Below
import Derived.SizedLaws
import Derived.SliceStrings
import Derived.WideKeyPair
namespace Go.Proofs.YtcnigpigmhpakaaGreatDoor.scriptAny
set_option linter.unusedVariables false
theorem k0:(Rows.scriptAnyRow.inPlace == Tryz.pinned.checked.prog.inPlace 4)=true:=by kernel_rfl
theorem k1:(Rows.scriptAnyRow.unfollowed == Tryz.pinned.checked.prog.unfollowed 4)=true:=by kernel_rfl
theorem k2:(Rows.scriptAnyRow.recurses == Tryz.pinned.checked.prog.recurses 4)=true:=by kernel_rfl
theorem k3:(Rows.scriptAnyRow.named == Tryz.pinned.checked.prog.varsNamed 4)=true:=by kernel_rfl
theorem closed:joinedFacts Tryz.pinned.checked.prog 4 Tryz.f4 Rows.scriptAnySpec Rows.scriptAnyRow=true:=by
 unfold joinedFacts
 simp only [k0,k1,k2,k3]
 kernel_rfl
theorem qH:Rows.scriptAnyRow.wfByText (OpenSpec.ofChange Rows.scriptAnySpec)=true:=by kernel_rfl
theorem mainIs:Tryz.pinned.checked.prog.mainIs=some ((true, "3b238c32eddde07b08efdb47ab8cf8927795fba977f84941667a6d1288fdc5db").1,(true, "3b238c32eddde07b08efdb47ab8cf8927795fba977f84941667a6d1288fdc5db").2.toList):=by kernel_rfl
theorem looksAt:true=Tryz.pinned.checked.prog.looks []:=by kernel_rfl
theorem goesBy:false=Rows.scriptAnyRow.goesBy Tryz.pinned.checked.prog:=by kernel_rfl
theorem nq:([9].all fun u => !Tryz.prog.wantsStandIn u)=true:=by kernel_rfl
theorem nD:Tryz.prog.funcNamed "concierge/conciergelaw34.ScriptAny" = some 4:=by kernel_rfl
end Go.Proofs.YtcnigpigmhpakaaGreatDoor.scriptAny
