/- Closed facts of the row ProgEnds. No condition. -/
import Derived.Test.YtihpjgcbmipdbaaGreatDoorTie
import Derived.Test.YtihpjgcbmipdbaaGreatDoorCards
import Derived.Lay
import Derived.LaidLaws
import Derived.LaidOnce
import Derived.SevenTiedAt
import Derived.MakeChecks
import Derived.Handed
import Derived.Test.YtihpjgcbmipdbaaGreatDoorRows
import Derived.WalkKit
import Derived.ProofKit
import Derived.OpenShut
import Derived.ShutString
import Derived.ChangeOld
import Derived.Below
import Derived.SizedLaws
import Derived.SliceStrings
import Derived.WideKeyPair
namespace Go.Proofs.YtihpjgcbmipdbaaGreatDoor.progEnds
set_option linter.unusedVariables false
theorem k0 : (Rows.progEndsRow.inPlace == Tryz.pinned.checked.prog.inPlace 8) = true := by kernel_rfl
theorem k1 : (Rows.progEndsRow.unfollowed == Tryz.pinned.checked.prog.unfollowed 8) = true := by kernel_rfl
theorem k2 : (Rows.progEndsRow.recurses == Tryz.pinned.checked.prog.recurses 8) = true := by kernel_rfl
theorem k3 : (Rows.progEndsRow.named == Tryz.pinned.checked.prog.varsNamed 8) = true := by kernel_rfl
theorem closed : joinedFacts Tryz.pinned.checked.prog 8 Tryz.f8 Rows.progEndsSpec Rows.progEndsRow = true := by
 unfold joinedFacts
 simp only [k0, k1, k2, k3]
 kernel_rfl
theorem byText : Rows.progEndsRow.wfByText (OpenSpec.ofChange Rows.progEndsSpec) = true := by kernel_rfl
theorem mainIs : Tryz.pinned.checked.prog.mainIs = some ((true, "da3935492ec0576d79377b831898b91da89cf9fc61f90531614775ded8e42c8c").1, (true, "da3935492ec0576d79377b831898b91da89cf9fc61f90531614775ded8e42c8c").2.toList) := by kernel_rfl
theorem looksAt : true = Tryz.pinned.checked.prog.looks [] := by kernel_rfl
theorem goesBy : false = Rows.progEndsRow.goesBy Tryz.pinned.checked.prog := by kernel_rfl
theorem noStand : ([27, 35].all fun u => !Tryz.prog.wantsStandIn u) = true := by kernel_rfl
theorem namedAt : Tryz.prog.funcNamed "concierge/conciergelaw23.ProgEnds" = some 8 := by kernel_rfl
end Go.Proofs.YtihpjgcbmipdbaaGreatDoor.progEnds
