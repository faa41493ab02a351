/- Closed facts of the row ScriptLines. No condition. -/
import Derived.Test.YtcnigpigmhpakaaGreatDoorTie
import Derived.Test.YtcnigpigmhpakaaGreatDoorCards
import Derived.Lay
import Derived.LaidLaws
import Derived.LaidOnce
import Derived.SevenTiedAt
import Derived.MakeChecks
import Derived.Handed
import Derived.Test.YtcnigpigmhpakaaGreatDoorFjson
import Derived.Test.YtcnigpigmhpakaaGreatDoorRows
import Derived.WalkKit
import Derived.ProofKit
import Derived.OpenShut
import Derived.ShutString
import Derived.ChangeOld
import Derived.Below
import Derived.SizedLaws
import Derived.SliceStrings
import Derived.WideKeyPair
namespace Go.Proofs.YtcnigpigmhpakaaGreatDoor.scriptLines
set_option linter.unusedVariables false
theorem k0:(Rows.scriptLinesRow.inPlace == Tryz.pinned.checked.prog.inPlace 6)=true:=by kernel_rfl
theorem k1:(Rows.scriptLinesRow.unfollowed == Tryz.pinned.checked.prog.unfollowed 6)=true:=by kernel_rfl
theorem k2:(Rows.scriptLinesRow.recurses == Tryz.pinned.checked.prog.recurses 6)=true:=by kernel_rfl
theorem k3:(Rows.scriptLinesRow.named == Tryz.pinned.checked.prog.varsNamed 6)=true:=by kernel_rfl
theorem closed:joinedFacts Tryz.pinned.checked.prog 6 Tryz.f6 Rows.scriptLinesSpec Rows.scriptLinesRow=true:=by
 unfold joinedFacts
 simp only [k0,k1,k2,k3]
 kernel_rfl
theorem qH:Rows.scriptLinesRow.wfByText (OpenSpec.ofChange Rows.scriptLinesSpec)=true:=by kernel_rfl
theorem mainIs:Tryz.pinned.checked.prog.mainIs=some ((true, "3b238c32eddde07b08efdb47ab8cf8927795fba977f84941667a6d1288fdc5db").1,(true, "3b238c32eddde07b08efdb47ab8cf8927795fba977f84941667a6d1288fdc5db").2.toList):=by kernel_rfl
theorem looksAt:true=Tryz.pinned.checked.prog.looks []:=by kernel_rfl
theorem goesBy:false=Rows.scriptLinesRow.goesBy Tryz.pinned.checked.prog:=by kernel_rfl
theorem nq:([28].all fun u => !Tryz.prog.wantsStandIn u)=true:=by kernel_rfl
theorem nD:Tryz.prog.funcNamed "concierge/conciergelaw34.ScriptLines" = some 6:=by kernel_rfl
end Go.Proofs.YtcnigpigmhpakaaGreatDoor.scriptLines
