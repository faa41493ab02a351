/- Closed facts of the row RouteFinds. No condition. -/
import Derived.Test.YtocgjbdimjlfhaaGreatDoorTie
import Derived.Test.YtocgjbdimjlfhaaGreatDoorCards
import Derived.Lay
import Derived.LaidLaws
import Derived.LaidOnce
import Derived.SevenTiedAt
import Derived.MakeChecks
import Derived.Handed
import Derived.Test.YtocgjbdimjlfhaaGreatDoorRows
import Derived.WalkKit
import Derived.ProofKit
import Derived.OpenShut
import Derived.ShutString
import Derived.ChangeOld
import Derived.Below
import Derived.SizedLaws
import Derived.SliceStrings
import Derived.WideKeyPair
namespace Go.Proofs.YtocgjbdimjlfhaaGreatDoor.routeFinds
set_option linter.unusedVariables false
theorem k0 : (Rows.routeFindsRow.inPlace == Tryz.pinned.checked.prog.inPlace 6) = true := by kernel_rfl
theorem k1 : (Rows.routeFindsRow.unfollowed == Tryz.pinned.checked.prog.unfollowed 6) = true := by kernel_rfl
theorem k2 : (Rows.routeFindsRow.recurses == Tryz.pinned.checked.prog.recurses 6) = true := by kernel_rfl
theorem k3 : (Rows.routeFindsRow.named == Tryz.pinned.checked.prog.varsNamed 6) = true := by kernel_rfl
theorem closed : joinedFacts Tryz.pinned.checked.prog 6 Tryz.f6 Rows.routeFindsSpec Rows.routeFindsRow = true := by
  unfold joinedFacts
  simp only [k0, k1, k2, k3]
  kernel_rfl
theorem byText : Rows.routeFindsRow.wfByText (OpenSpec.ofChange Rows.routeFindsSpec) = true := by kernel_rfl
theorem mainIs : Tryz.pinned.checked.prog.mainIs = some ((true, "6a8e5d7384cfcc131d58bdbb783b0a1006565c31bde8bf92522a2a8838e28f7e").1, (true, "6a8e5d7384cfcc131d58bdbb783b0a1006565c31bde8bf92522a2a8838e28f7e").2.toList) := by kernel_rfl
theorem looksAt : true = Tryz.pinned.checked.prog.looks [] := by kernel_rfl
theorem goesBy : false = Rows.routeFindsRow.goesBy Tryz.pinned.checked.prog := by kernel_rfl
theorem noStand : ([25, 9].all fun u => !Tryz.prog.wantsStandIn u) = true := by kernel_rfl
theorem namedAt : Tryz.prog.funcNamed "concierge/conciergelaw24.RouteFinds" = some 6 := by kernel_rfl
end Go.Proofs.YtocgjbdimjlfhaaGreatDoor.routeFinds
