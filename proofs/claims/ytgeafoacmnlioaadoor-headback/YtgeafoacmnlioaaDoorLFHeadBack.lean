/- Closed facts of the row HeadBack. No condition. -/
import Derived.Test.YtgeafoacmnlioaaDoorTie
import Derived.Test.YtgeafoacmnlioaaDoorCards
import Derived.Lay
import Derived.LaidLaws
import Derived.LaidOnce
import Derived.SevenTiedAt
import Derived.MakeChecks
import Derived.Handed
import Derived.Test.YtgeafoacmnlioaaDoorFhshp
import Derived.Test.YtgeafoacmnlioaaDoorRows
import Derived.WalkKit
import Derived.ProofKit
import Derived.OpenShut
import Derived.ShutString
import Derived.ChangeOld
import Derived.Below
import Derived.SizedLaws
import Derived.SliceStrings
import Derived.WideKeyPair
namespace Go.Proofs.YtgeafoacmnlioaaDoor.headBack
set_option linter.unusedVariables false
theorem k0 : (Rows.headBackRow.inPlace == Tryd.pinned.checked.prog.inPlace 7) = true := by kernel_rfl
theorem k1 : (Rows.headBackRow.unfollowed == Tryd.pinned.checked.prog.unfollowed 7) = true := by kernel_rfl
theorem k2 : (Rows.headBackRow.recurses == Tryd.pinned.checked.prog.recurses 7) = true := by kernel_rfl
theorem k3 : (Rows.headBackRow.named == Tryd.pinned.checked.prog.varsNamed 7) = true := by kernel_rfl
theorem closed : joinedFacts Tryd.pinned.checked.prog 7 Tryd.f7 Rows.headBackSpec Rows.headBackRow = true := by
  unfold joinedFacts
  simp only [k0, k1, k2, k3]
  kernel_rfl
theorem byText : Rows.headBackRow.wfByText (OpenSpec.ofChange Rows.headBackSpec) = true := by kernel_rfl
theorem mainIs : Tryd.pinned.checked.prog.mainIs = some ((true, "dbc2674e3c58bff7d21401558cef54afe90ea306819bd404b1fca094aa77cd31").1, (true, "dbc2674e3c58bff7d21401558cef54afe90ea306819bd404b1fca094aa77cd31").2.toList) := by kernel_rfl
theorem looksAt : false = Tryd.pinned.checked.prog.looks [] := by kernel_rfl
theorem goesBy : false = Rows.headBackRow.goesBy Tryd.pinned.checked.prog := by kernel_rfl
theorem noStand : ([37].all fun u => !Tryd.prog.wantsStandIn u) = true := by kernel_rfl
theorem namedAt : Tryd.prog.funcNamed "concierge/conciergelaw38.HeadBack" = some 7 := by kernel_rfl
end Go.Proofs.YtgeafoacmnlioaaDoor.headBack
