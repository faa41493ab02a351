import Derived.Test.YtihpjgcbmipdbaaGreatDoorTie
import Derived.Test.YtihpjgcbmipdbaaGreatDoorCards
import Derived.Lay
import Derived.LaidLaws
import Derived.LaidOnce
import Derived.SevenTiedAt
import Derived.MakeChecks
import Derived.Handed
import Derived.Test.YtihpjgcbmipdbaaGreatDoorRows
import Derived.WalkKit
import Derived.ProofKit
import Derived.OpenShut
import Derived.ShutString
import Derived.ChangeOld
import Derived.Below
import Derived.SizedLaws
import Derived.SliceStrings
import Derived.WideKeyPair
namespace Go.Proofs.YtihpjgcbmipdbaaGreatDoor.admitJudges
set_option linter.unusedVariables false
theorem k0:(Rows.admitJudgesRow.inPlace == Tryz.pinned.checked.prog.inPlace 3)=true:=by kernel_rfl
theorem k1:(Rows.admitJudgesRow.unfollowed == Tryz.pinned.checked.prog.unfollowed 3)=true:=by kernel_rfl
theorem k2:(Rows.admitJudgesRow.recurses == Tryz.pinned.checked.prog.recurses 3)=true:=by kernel_rfl
theorem k3:(Rows.admitJudgesRow.named == Tryz.pinned.checked.prog.varsNamed 3)=true:=by kernel_rfl
theorem closed:joinedFacts Tryz.pinned.checked.prog 3 Tryz.f3 Rows.admitJudgesSpec Rows.admitJudgesRow=true:=by
 unfold joinedFacts
 simp only [k0,k1,k2,k3]
 kernel_rfl
theorem UK:Rows.admitJudgesRow.wfByText (OpenSpec.ofChange Rows.admitJudgesSpec)=true:=by kernel_rfl
theorem mainIs:Tryz.pinned.checked.prog.mainIs=some ((true, "da3935492ec0576d79377b831898b91da89cf9fc61f90531614775ded8e42c8c").1,(true, "da3935492ec0576d79377b831898b91da89cf9fc61f90531614775ded8e42c8c").2.toList):=by kernel_rfl
theorem looksAt:true=Tryz.pinned.checked.prog.looks []:=by kernel_rfl
theorem goesBy:false=Rows.admitJudgesRow.goesBy Tryz.pinned.checked.prog:=by kernel_rfl
theorem Ry:([23,24].all fun u => !Tryz.prog.wantsStandIn u)=true:=by kernel_rfl
theorem RI:Tryz.prog.funcNamed "concierge/conciergelaw28.AdmitJudges" = some 3:=by kernel_rfl
end Go.Proofs.YtihpjgcbmipdbaaGreatDoor.admitJudges
