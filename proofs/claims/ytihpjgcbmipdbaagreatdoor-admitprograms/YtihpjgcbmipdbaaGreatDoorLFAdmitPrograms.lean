/- Closed facts of the row AdmitPrograms. No condition. -/
import Derived.Test.YtihpjgcbmipdbaaGreatDoorTie
import Derived.Test.YtihpjgcbmipdbaaGreatDoorCards
import Derived.Lay
import Derived.LaidLaws
import Derived.LaidOnce
import Derived.SevenTiedAt
import Derived.MakeChecks
import Derived.Handed
import Derived.Test.YtihpjgcbmipdbaaGreatDoorRows
import Derived.WalkKit
import Derived.ProofKit
import Derived.OpenShut
import Derived.ShutString
import Derived.ChangeOld
import Derived.Below
import Derived.SizedLaws
import Derived.SliceStrings
import Derived.WideKeyPair
namespace Go.Proofs.YtihpjgcbmipdbaaGreatDoor.admitPrograms
set_option linter.unusedVariables false
theorem k0:(Rows.admitProgramsRow.inPlace == Tryz.pinned.checked.prog.inPlace 5)=true:=by kernel_rfl
theorem k1:(Rows.admitProgramsRow.unfollowed == Tryz.pinned.checked.prog.unfollowed 5)=true:=by kernel_rfl
theorem k2:(Rows.admitProgramsRow.recurses == Tryz.pinned.checked.prog.recurses 5)=true:=by kernel_rfl
theorem k3:(Rows.admitProgramsRow.named == Tryz.pinned.checked.prog.varsNamed 5)=true:=by kernel_rfl
theorem closed:joinedFacts Tryz.pinned.checked.prog 5 Tryz.f5 Rows.admitProgramsSpec Rows.admitProgramsRow=true:=by
 unfold joinedFacts
 simp only [k0,k1,k2,k3]
 kernel_rfl
theorem Em:Rows.admitProgramsRow.wfByText (OpenSpec.ofChange Rows.admitProgramsSpec)=true:=by kernel_rfl
theorem mainIs:Tryz.pinned.checked.prog.mainIs=some ((true, "da3935492ec0576d79377b831898b91da89cf9fc61f90531614775ded8e42c8c").1,(true, "da3935492ec0576d79377b831898b91da89cf9fc61f90531614775ded8e42c8c").2.toList):=by kernel_rfl
theorem looksAt:true=Tryz.pinned.checked.prog.looks []:=by kernel_rfl
theorem goesBy:false=Rows.admitProgramsRow.goesBy Tryz.pinned.checked.prog:=by kernel_rfl
theorem A3:([24,35,36].all fun u => !Tryz.prog.wantsStandIn u)=true:=by kernel_rfl
theorem BB:Tryz.prog.funcNamed "concierge/conciergelaw28.AdmitPrograms" = some 5:=by kernel_rfl
end Go.Proofs.YtihpjgcbmipdbaaGreatDoor.admitPrograms
