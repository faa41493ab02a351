/- Closed facts of the row ScriptBack. No condition. -/
import Derived.Test.YtcnigpigmhpakaaGreatDoorTie
import Derived.Test.YtcnigpigmhpakaaGreatDoorCards
import Derived.Lay
import Derived.LaidLaws
import Derived.LaidOnce
import Derived.SevenTiedAt
import Derived.MakeChecks
import Derived.Handed
import Derived.Test.YtcnigpigmhpakaaGreatDoorFjson
import Derived.Test.YtcnigpigmhpakaaGreatDoorRows
import Derived.WalkKit
import Derived.ProofKit
import Derived.OpenShut
import Derived.ShutString
import Derived.ChangeOld
import Derived.Below
import Derived.SizedLaws
import Derived.SliceStrings
import Derived.WideKeyPair
namespace Go.Proofs.YtcnigpigmhpakaaGreatDoor.scriptBack
set_option linter.unusedVariables false
theorem k0:(Rows.scriptBackRow.inPlace == Tryz.pinned.checked.prog.inPlace 3)=true:=by kernel_rfl
theorem k1:(Rows.scriptBackRow.unfollowed == Tryz.pinned.checked.prog.unfollowed 3)=true:=by kernel_rfl
theorem k2:(Rows.scriptBackRow.recurses == Tryz.pinned.checked.prog.recurses 3)=true:=by kernel_rfl
theorem k3:(Rows.scriptBackRow.named == Tryz.pinned.checked.prog.varsNamed 3)=true:=by kernel_rfl
theorem closed:joinedFacts Tryz.pinned.checked.prog 3 Tryz.f3 Rows.scriptBackSpec Rows.scriptBackRow=true:=by
 unfold joinedFacts
 simp only [k0,k1,k2,k3]
 kernel_rfl
theorem qH:Rows.scriptBackRow.wfByText (OpenSpec.ofChange Rows.scriptBackSpec)=true:=by kernel_rfl
theorem mainIs:Tryz.pinned.checked.prog.mainIs=some ((true, "3b238c32eddde07b08efdb47ab8cf8927795fba977f84941667a6d1288fdc5db").1,(true, "3b238c32eddde07b08efdb47ab8cf8927795fba977f84941667a6d1288fdc5db").2.toList):=by kernel_rfl
theorem looksAt:true=Tryz.pinned.checked.prog.looks []:=by kernel_rfl
theorem goesBy:false=Rows.scriptBackRow.goesBy Tryz.pinned.checked.prog:=by kernel_rfl
theorem nq:([25].all fun u => !Tryz.prog.wantsStandIn u)=true:=by kernel_rfl
theorem nD:Tryz.prog.funcNamed "concierge/conciergelaw34.ScriptBack" = some 3:=by kernel_rfl
end Go.Proofs.YtcnigpigmhpakaaGreatDoor.scriptBack
