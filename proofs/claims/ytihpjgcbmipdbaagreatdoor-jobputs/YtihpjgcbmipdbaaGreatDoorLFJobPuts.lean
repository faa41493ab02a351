/- Closed facts of the row JobPuts. No condition. -/
import Derived.Test.YtihpjgcbmipdbaaGreatDoorTie
import Derived.Test.YtihpjgcbmipdbaaGreatDoorCards
import Derived.Lay
import Derived.LaidLaws
import Derived.LaidOnce
import Derived.SevenTiedAt
import Derived.MakeChecks
import Derived.Handed
import Derived.Test.YtihpjgcbmipdbaaGreatDoorRows
import Derived.WalkKit
import Derived.ProofKit
import Derived.OpenShut
import Derived.ShutString
import Derived.ChangeOld
import Derived.Below
import Derived.SizedLaws
import Derived.SliceStrings
import Derived.WideKeyPair
namespace Go.Proofs.YtihpjgcbmipdbaaGreatDoor.jobPuts
set_option linter.unusedVariables false
theorem k0:(Rows.jobPutsRow.inPlace == Tryz.pinned.checked.prog.inPlace 12)=true:=by kernel_rfl
theorem k1:(Rows.jobPutsRow.unfollowed == Tryz.pinned.checked.prog.unfollowed 12)=true:=by kernel_rfl
theorem k2:(Rows.jobPutsRow.recurses == Tryz.pinned.checked.prog.recurses 12)=true:=by kernel_rfl
theorem k3:(Rows.jobPutsRow.named == Tryz.pinned.checked.prog.varsNamed 12)=true:=by kernel_rfl
theorem closed:joinedFacts Tryz.pinned.checked.prog 12 Tryz.f12 Rows.jobPutsSpec Rows.jobPutsRow=true:=by
 unfold joinedFacts
 simp only [k0,k1,k2,k3]
 kernel_rfl
theorem K7:Rows.jobPutsRow.wfByText (OpenSpec.ofChange Rows.jobPutsSpec)=true:=by kernel_rfl
theorem mainIs:Tryz.pinned.checked.prog.mainIs=some ((true, "da3935492ec0576d79377b831898b91da89cf9fc61f90531614775ded8e42c8c").1,(true, "da3935492ec0576d79377b831898b91da89cf9fc61f90531614775ded8e42c8c").2.toList):=by kernel_rfl
theorem looksAt:true=Tryz.pinned.checked.prog.looks []:=by kernel_rfl
theorem goesBy:false=Rows.jobPutsRow.goesBy Tryz.pinned.checked.prog:=by kernel_rfl
theorem IF:([77].all fun u => !Tryz.prog.wantsStandIn u)=true:=by kernel_rfl
theorem Jm:Tryz.prog.funcNamed "concierge/conciergelaw29.JobPuts" = some 12:=by kernel_rfl
end Go.Proofs.YtihpjgcbmipdbaaGreatDoor.jobPuts
