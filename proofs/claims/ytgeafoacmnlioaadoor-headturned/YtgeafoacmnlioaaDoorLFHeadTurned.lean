/- Closed facts of the row HeadTurned. No condition. -/
import Derived.Test.YtgeafoacmnlioaaDoorTie
import Derived.Test.YtgeafoacmnlioaaDoorCards
import Derived.Lay
import Derived.LaidLaws
import Derived.LaidOnce
import Derived.SevenTiedAt
import Derived.MakeChecks
import Derived.Handed
import Derived.Test.YtgeafoacmnlioaaDoorFhshp
import Derived.Test.YtgeafoacmnlioaaDoorRows
import Derived.WalkKit
import Derived.ProofKit
import Derived.OpenShut
import Derived.ShutString
import Derived.ChangeOld
import Derived.Below
import Derived.SizedLaws
import Derived.SliceStrings
import Derived.WideKeyPair
namespace Go.Proofs.YtgeafoacmnlioaaDoor.headTurned
set_option linter.unusedVariables false
theorem k0 : (Rows.headTurnedRow.inPlace == Tryd.pinned.checked.prog.inPlace 6) = true := by kernel_rfl
theorem k1 : (Rows.headTurnedRow.unfollowed == Tryd.pinned.checked.prog.unfollowed 6) = true := by kernel_rfl
theorem k2 : (Rows.headTurnedRow.recurses == Tryd.pinned.checked.prog.recurses 6) = true := by kernel_rfl
theorem k3 : (Rows.headTurnedRow.named == Tryd.pinned.checked.prog.varsNamed 6) = true := by kernel_rfl
theorem closed : joinedFacts Tryd.pinned.checked.prog 6 Tryd.f6 Rows.headTurnedSpec Rows.headTurnedRow = true := by
  unfold joinedFacts
  simp only [k0, k1, k2, k3]
  kernel_rfl
theorem byText : Rows.headTurnedRow.wfByText (OpenSpec.ofChange Rows.headTurnedSpec) = true := by kernel_rfl
theorem mainIs : Tryd.pinned.checked.prog.mainIs = some ((true, "dbc2674e3c58bff7d21401558cef54afe90ea306819bd404b1fca094aa77cd31").1, (true, "dbc2674e3c58bff7d21401558cef54afe90ea306819bd404b1fca094aa77cd31").2.toList) := by kernel_rfl
theorem looksAt : false = Tryd.pinned.checked.prog.looks [] := by kernel_rfl
theorem goesBy : false = Rows.headTurnedRow.goesBy Tryd.pinned.checked.prog := by kernel_rfl
theorem noStand : ([37].all fun u => !Tryd.prog.wantsStandIn u) = true := by kernel_rfl
theorem namedAt : Tryd.prog.funcNamed "concierge/conciergelaw38.HeadTurned" = some 6 := by kernel_rfl
end Go.Proofs.YtgeafoacmnlioaaDoor.headTurned
