/- Closed facts of the row RouteBack. No condition. -/
import Derived.Test.YtocgjbdimjlfhaaGreatDoorTie
import Derived.Test.YtocgjbdimjlfhaaGreatDoorCards
import Derived.Lay
import Derived.LaidLaws
import Derived.LaidOnce
import Derived.SevenTiedAt
import Derived.MakeChecks
import Derived.Handed
import Derived.Test.YtocgjbdimjlfhaaGreatDoorRows
import Derived.WalkKit
import Derived.ProofKit
import Derived.OpenShut
import Derived.ShutString
import Derived.ChangeOld
import Derived.Below
import Derived.SizedLaws
import Derived.SliceStrings
import Derived.WideKeyPair
namespace Go.Proofs.YtocgjbdimjlfhaaGreatDoor.routeBack
set_option linter.unusedVariables false
theorem k0 : (Rows.routeBackRow.inPlace == Tryz.pinned.checked.prog.inPlace 4) = true := by kernel_rfl
theorem k1 : (Rows.routeBackRow.unfollowed == Tryz.pinned.checked.prog.unfollowed 4) = true := by kernel_rfl
theorem k2 : (Rows.routeBackRow.recurses == Tryz.pinned.checked.prog.recurses 4) = true := by kernel_rfl
theorem k3 : (Rows.routeBackRow.named == Tryz.pinned.checked.prog.varsNamed 4) = true := by kernel_rfl
theorem closed : joinedFacts Tryz.pinned.checked.prog 4 Tryz.f4 Rows.routeBackSpec Rows.routeBackRow = true := by
  unfold joinedFacts
  simp only [k0, k1, k2, k3]
  kernel_rfl
theorem byText : Rows.routeBackRow.wfByText (OpenSpec.ofChange Rows.routeBackSpec) = true := by kernel_rfl
theorem mainIs : Tryz.pinned.checked.prog.mainIs = some ((true, "6a8e5d7384cfcc131d58bdbb783b0a1006565c31bde8bf92522a2a8838e28f7e").1, (true, "6a8e5d7384cfcc131d58bdbb783b0a1006565c31bde8bf92522a2a8838e28f7e").2.toList) := by kernel_rfl
theorem looksAt : true = Tryz.pinned.checked.prog.looks [] := by kernel_rfl
theorem goesBy : false = Rows.routeBackRow.goesBy Tryz.pinned.checked.prog := by kernel_rfl
theorem noStand : ([25].all fun u => !Tryz.prog.wantsStandIn u) = true := by kernel_rfl
theorem namedAt : Tryz.prog.funcNamed "concierge/conciergelaw24.RouteBack" = some 4 := by kernel_rfl
end Go.Proofs.YtocgjbdimjlfhaaGreatDoor.routeBack
