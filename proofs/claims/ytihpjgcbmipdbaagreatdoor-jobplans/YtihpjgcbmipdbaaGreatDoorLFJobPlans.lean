import Derived.Test.YtihpjgcbmipdbaaGreatDoorTie
import Derived.Test.YtihpjgcbmipdbaaGreatDoorCards
import Derived.Lay
import Derived.LaidLaws
import Derived.LaidOnce
import Derived.SevenTiedAt
import Derived.MakeChecks
import Derived.Handed
import Derived.Test.YtihpjgcbmipdbaaGreatDoorRows
import Derived.WalkKit
import Derived.ProofKit
import Derived.OpenShut
import Derived.ShutString
import Derived.ChangeOld
import Derived.Below
import Derived.SizedLaws
import Derived.SliceStrings
import Derived.WideKeyPair
namespace Go.Proofs.YtihpjgcbmipdbaaGreatDoor.jobPlans
set_option linter.unusedVariables false
theorem k0:(Rows.jobPlansRow.inPlace == Tryz.pinned.checked.prog.inPlace 11)=true:=by kernel_rfl
theorem k1:(Rows.jobPlansRow.unfollowed == Tryz.pinned.checked.prog.unfollowed 11)=true:=by kernel_rfl
theorem k2:(Rows.jobPlansRow.recurses == Tryz.pinned.checked.prog.recurses 11)=true:=by kernel_rfl
theorem k3:(Rows.jobPlansRow.named == Tryz.pinned.checked.prog.varsNamed 11)=true:=by kernel_rfl
theorem closed:joinedFacts Tryz.pinned.checked.prog 11 Tryz.f11 Rows.jobPlansSpec Rows.jobPlansRow=true:=by
 unfold joinedFacts
 simp only[k0,k1,k2,k3]
 kernel_rfl
theorem Vg:Rows.jobPlansRow.wfByText (OpenSpec.ofChange Rows.jobPlansSpec)=true:=by kernel_rfl
theorem mainIs:Tryz.pinned.checked.prog.mainIs=some ((true, "da3935492ec0576d79377b831898b91da89cf9fc61f90531614775ded8e42c8c").1,(true, "da3935492ec0576d79377b831898b91da89cf9fc61f90531614775ded8e42c8c").2.toList):=by kernel_rfl
theorem looksAt:true=Tryz.pinned.checked.prog.looks []:=by kernel_rfl
theorem goesBy:false=Rows.jobPlansRow.goesBy Tryz.pinned.checked.prog:=by kernel_rfl
theorem SK:([77].all fun u => !Tryz.prog.wantsStandIn u)=true:=by kernel_rfl
theorem Te:Tryz.prog.funcNamed "concierge/conciergelaw29.JobPlans" = some 11:=by kernel_rfl
end Go.Proofs.YtihpjgcbmipdbaaGreatDoor.jobPlans
