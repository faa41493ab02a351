/- Closed facts of the row PageMarks. No condition. -/
import Derived.Test.YtgeafoacmnlioaaDoorTie
import Derived.Test.YtgeafoacmnlioaaDoorCards
import Derived.Lay
import Derived.LaidLaws
import Derived.LaidOnce
import Derived.SevenTiedAt
import Derived.MakeChecks
import Derived.Handed
import Derived.Test.YtgeafoacmnlioaaDoorFhshp
import Derived.Test.YtgeafoacmnlioaaDoorRows
import Derived.WalkKit
import Derived.ProofKit
import Derived.OpenShut
import Derived.ShutString
import Derived.ChangeOld
import Derived.Below
import Derived.SizedLaws
import Derived.SliceStrings
import Derived.WideKeyPair
namespace Go.Proofs.YtgeafoacmnlioaaDoor.pageMarks
set_option linter.unusedVariables false
theorem k0 : (Rows.pageMarksRow.inPlace == Tryd.pinned.checked.prog.inPlace 3) = true := by kernel_rfl
theorem k1 : (Rows.pageMarksRow.unfollowed == Tryd.pinned.checked.prog.unfollowed 3) = true := by kernel_rfl
theorem k2 : (Rows.pageMarksRow.recurses == Tryd.pinned.checked.prog.recurses 3) = true := by kernel_rfl
theorem k3 : (Rows.pageMarksRow.named == Tryd.pinned.checked.prog.varsNamed 3) = true := by kernel_rfl
theorem closed : joinedFacts Tryd.pinned.checked.prog 3 Tryd.f3 Rows.pageMarksSpec Rows.pageMarksRow = true := by
  unfold joinedFacts
  simp only [k0, k1, k2, k3]
  kernel_rfl
theorem byText : Rows.pageMarksRow.wfByText (OpenSpec.ofChange Rows.pageMarksSpec) = true := by kernel_rfl
theorem mainIs : Tryd.pinned.checked.prog.mainIs = some ((true, "dbc2674e3c58bff7d21401558cef54afe90ea306819bd404b1fca094aa77cd31").1, (true, "dbc2674e3c58bff7d21401558cef54afe90ea306819bd404b1fca094aa77cd31").2.toList) := by kernel_rfl
theorem looksAt : false = Tryd.pinned.checked.prog.looks [] := by kernel_rfl
theorem goesBy : false = Rows.pageMarksRow.goesBy Tryd.pinned.checked.prog := by kernel_rfl
theorem noStand : ([3, 9].all fun u => !Tryd.prog.wantsStandIn u) = true := by kernel_rfl
theorem namedAt : Tryd.prog.funcNamed "concierge/conciergelaw42.PageMarks" = some 3 := by kernel_rfl
end Go.Proofs.YtgeafoacmnlioaaDoor.pageMarks
