/- Closed facts of the row HeadAny. No condition. -/
import Derived.Test.YtgeafoacmnlioaaDoorTie
import Derived.Test.YtgeafoacmnlioaaDoorCards
import Derived.Lay
import Derived.LaidLaws
import Derived.LaidOnce
import Derived.SevenTiedAt
import Derived.MakeChecks
import Derived.Handed
import Derived.Test.YtgeafoacmnlioaaDoorFhshp
import Derived.Test.YtgeafoacmnlioaaDoorRows
import Derived.WalkKit
import Derived.ProofKit
import Derived.OpenShut
import Derived.ShutString
import Derived.ChangeOld
import Derived.Below
import Derived.SizedLaws
import Derived.SliceStrings
import Derived.WideKeyPair
namespace Go.Proofs.YtgeafoacmnlioaaDoor.headAny
set_option linter.unusedVariables false
theorem k0 : (Rows.headAnyRow.inPlace == Tryd.pinned.checked.prog.inPlace 5) = true := by kernel_rfl
theorem k1 : (Rows.headAnyRow.unfollowed == Tryd.pinned.checked.prog.unfollowed 5) = true := by kernel_rfl
theorem k2 : (Rows.headAnyRow.recurses == Tryd.pinned.checked.prog.recurses 5) = true := by kernel_rfl
theorem k3 : (Rows.headAnyRow.named == Tryd.pinned.checked.prog.varsNamed 5) = true := by kernel_rfl
theorem closed : joinedFacts Tryd.pinned.checked.prog 5 Tryd.f5 Rows.headAnySpec Rows.headAnyRow = true := by
  unfold joinedFacts
  simp only [k0, k1, k2, k3]
  kernel_rfl
theorem byText : Rows.headAnyRow.wfByText (OpenSpec.ofChange Rows.headAnySpec) = true := by kernel_rfl
theorem mainIs : Tryd.pinned.checked.prog.mainIs = some ((true, "dbc2674e3c58bff7d21401558cef54afe90ea306819bd404b1fca094aa77cd31").1, (true, "dbc2674e3c58bff7d21401558cef54afe90ea306819bd404b1fca094aa77cd31").2.toList) := by kernel_rfl
theorem looksAt : false = Tryd.pinned.checked.prog.looks [] := by kernel_rfl
theorem goesBy : false = Rows.headAnyRow.goesBy Tryd.pinned.checked.prog := by kernel_rfl
theorem noStand : ([9].all fun u => !Tryd.prog.wantsStandIn u) = true := by kernel_rfl
theorem namedAt : Tryd.prog.funcNamed "concierge/conciergelaw38.HeadAny" = some 5 := by kernel_rfl
end Go.Proofs.YtgeafoacmnlioaaDoor.headAny
