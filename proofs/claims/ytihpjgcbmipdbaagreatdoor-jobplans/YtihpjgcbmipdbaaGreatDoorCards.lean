/-
  DERIVED. GIVEN WITH THE SEED: THE CARDS: each row of YtihpjgcbmipdbaaGreatDoorRows.lean that lists a variable, with what it lists TIED to the program's text (the seventh form; the later family's looks); each row that meets fmt, with fmt's text TOLD by the authors' own Lean function (tested against real Go, not proved from fmt's source: count such statements apart). THE CARD IS WHAT COUNTS. Prove the row's statement (the work); the ties are given (YtihpjgcbmipdbaaGreatDoorTie.lean); close each card by the builder's one call (the guide's Derived/Test/ToyasCard.lean, 'card_holds'). Laid BY PROGRAM, IN A SANDBOX (cutbox-door.mjs). By AI agents, Wed Nov 11 2026. No macro, syntax, notation, axiom, sorry.
-/
import Derived.Test.YtihpjgcbmipdbaaGreatDoorRows
import GoSem.ClaimSeven
namespace Go.Proofs.YtihpjgcbmipdbaaGreatDoor
namespace Rows

/-- THE TIED CARD OF 'conciergelaw28.AdmitJudges'. -/
def admitJudgesCard : Claim7 := { stood := { row := admitJudgesRow, standIns := [], harness := (true, "da3935492ec0576d79377b831898b91da89cf9fc61f90531614775ded8e42c8c"), looks := true }, kinds := [], alts := [], laidByText := true, laidKinds := [.data, .data, .data, .data, .sentinel, .sentinel, .pinned], laidTests := true, laidLooks := .later }
def AdmitJudgesCardSaid : Prop := Claim7.holds Tryz.pinned (.plain (OpenSpec.ofChange admitJudgesSpec)) admitJudgesCard

/-- THE TIED CARD OF 'conciergelaw28.AdmitAlike'. -/
def admitAlikeCard : Claim7 := { stood := { row := admitAlikeRow, standIns := [], harness := (true, "da3935492ec0576d79377b831898b91da89cf9fc61f90531614775ded8e42c8c"), looks := true }, kinds := [], alts := [], laidByText := true, laidKinds := [.data, .data, .data, .data, .sentinel, .sentinel, .pinned], laidTests := true, laidLooks := .later }
def AdmitAlikeCardSaid : Prop := Claim7.holds Tryz.pinned (.plain (OpenSpec.ofChange admitAlikeSpec)) admitAlikeCard

/-- THE TIED CARD OF 'conciergelaw28.AdmitPrograms'. -/
def admitProgramsCard : Claim7 := { stood := { row := admitProgramsRow, standIns := [], harness := (true, "da3935492ec0576d79377b831898b91da89cf9fc61f90531614775ded8e42c8c"), looks := true }, kinds := [], alts := [], laidByText := true, laidKinds := [.data, .data, .data, .data, .sentinel, .sentinel, .pinned], laidTests := true, laidLooks := .later }
def AdmitProgramsCardSaid : Prop := Claim7.holds Tryz.pinned (.plain (OpenSpec.ofChange admitProgramsSpec)) admitProgramsCard

/-- THE TIED CARD OF 'conciergelaw23.ProgAny'. -/
def progAnyCard : Claim7 := { stood := { row := progAnyRow, standIns := [], harness := (true, "da3935492ec0576d79377b831898b91da89cf9fc61f90531614775ded8e42c8c"), looks := true }, kinds := [], alts := [], laidByText := true, laidKinds := [.data, .data, .data, .data, .sentinel, .sentinel, .pinned], laidTests := true, laidLooks := .later }
def ProgAnyCardSaid : Prop := Claim7.holds Tryz.pinned (.plain (OpenSpec.ofChange progAnySpec)) progAnyCard

/-- THE TIED CARD OF 'conciergelaw23.ProgNext'. -/
def progNextCard : Claim7 := { stood := { row := progNextRow, standIns := [], harness := (true, "da3935492ec0576d79377b831898b91da89cf9fc61f90531614775ded8e42c8c"), looks := true }, kinds := [], alts := [], laidByText := true, laidKinds := [.data, .data, .data, .data, .sentinel, .sentinel, .pinned], laidTests := true, laidLooks := .later }
def ProgNextCardSaid : Prop := Claim7.holds Tryz.pinned (.plain (OpenSpec.ofChange progNextSpec)) progNextCard

/-- THE TIED CARD OF 'conciergelaw23.ProgEnds'. -/
def progEndsCard : Claim7 := { stood := { row := progEndsRow, standIns := [], harness := (true, "da3935492ec0576d79377b831898b91da89cf9fc61f90531614775ded8e42c8c"), looks := true }, kinds := [], alts := [], laidByText := true, laidKinds := [.data, .data, .data, .data, .sentinel, .sentinel, .pinned], laidTests := true, laidLooks := .later }
def ProgEndsCardSaid : Prop := Claim7.holds Tryz.pinned (.plain (OpenSpec.ofChange progEndsSpec)) progEndsCard

/-- THE TIED CARD OF 'conciergelaw23.ProgBack'. -/
def progBackCard : Claim7 := { stood := { row := progBackRow, standIns := [], harness := (true, "da3935492ec0576d79377b831898b91da89cf9fc61f90531614775ded8e42c8c"), looks := true }, kinds := [], alts := [], laidByText := true, laidKinds := [.data, .data, .data, .data, .sentinel, .sentinel, .pinned], laidTests := true, laidLooks := .later }
def ProgBackCardSaid : Prop := Claim7.holds Tryz.pinned (.plain (OpenSpec.ofChange progBackSpec)) progBackCard

/-- THE TIED CARD OF 'conciergelaw29.JobOf'. -/
def jobOfCard : Claim7 := { stood := { row := jobOfRow, standIns := [], harness := (true, "da3935492ec0576d79377b831898b91da89cf9fc61f90531614775ded8e42c8c"), looks := true }, kinds := [], alts := [], laidByText := true, laidKinds := [.data, .data, .data, .data, .sentinel, .sentinel, .pinned], laidTests := true, laidLooks := .later }
def JobOfCardSaid : Prop := Claim7.holds Tryz.pinned (.plain (OpenSpec.ofChange jobOfSpec)) jobOfCard

/-- THE TIED CARD OF 'conciergelaw29.JobPlans'. -/
def jobPlansCard : Claim7 := { stood := { row := jobPlansRow, standIns := [], harness := (true, "da3935492ec0576d79377b831898b91da89cf9fc61f90531614775ded8e42c8c"), looks := true }, kinds := [], alts := [], laidByText := true, laidKinds := [.data, .data, .data, .data, .sentinel, .sentinel, .pinned], laidTests := true, laidLooks := .later }
def JobPlansCardSaid : Prop := Claim7.holds Tryz.pinned (.plain (OpenSpec.ofChange jobPlansSpec)) jobPlansCard

/-- THE TIED CARD OF 'conciergelaw29.JobPuts'. -/
def jobPutsCard : Claim7 := { stood := { row := jobPutsRow, standIns := [], harness := (true, "da3935492ec0576d79377b831898b91da89cf9fc61f90531614775ded8e42c8c"), looks := true }, kinds := [], alts := [], laidByText := true, laidKinds := [.data, .data, .data, .data, .sentinel, .sentinel, .pinned], laidTests := true, laidLooks := .later }
def JobPutsCardSaid : Prop := Claim7.holds Tryz.pinned (.plain (OpenSpec.ofChange jobPutsSpec)) jobPutsCard

/-- THE TIED CARD OF 'conciergelaw29.JobFails'. -/
def jobFailsCard : Claim7 := { stood := { row := jobFailsRow, standIns := [], harness := (true, "da3935492ec0576d79377b831898b91da89cf9fc61f90531614775ded8e42c8c"), looks := true }, kinds := [], alts := [], laidByText := true, laidKinds := [.data, .data, .data, .data, .sentinel, .sentinel, .pinned], laidTests := true, laidLooks := .later }
def JobFailsCardSaid : Prop := Claim7.holds Tryz.pinned (.plain (OpenSpec.ofChange jobFailsSpec)) jobFailsCard

/-- THE SECOND FORM's CARD OF 'conciergelaw28.AdmitJudges'. -/
def admitJudgesUptoCard : Claim7 := { stood := { row := admitJudgesUptoRow, standIns := [], harness := (true, "da3935492ec0576d79377b831898b91da89cf9fc61f90531614775ded8e42c8c"), looks := true }, kinds := [], alts := [], laidByText := true, laidKinds := [.data, .data, .data, .data, .sentinel, .sentinel, .pinned], laidTests := true, laidLooks := .later }
def AdmitJudgesUptoCardSaid : Prop := Claim7.holds Tryz.pinned (.plain (OpenSpec.upto admitJudgesSpec)) admitJudgesUptoCard

/-- THE SECOND FORM's CARD OF 'conciergelaw28.AdmitAlike'. -/
def admitAlikeUptoCard : Claim7 := { stood := { row := admitAlikeUptoRow, standIns := [], harness := (true, "da3935492ec0576d79377b831898b91da89cf9fc61f90531614775ded8e42c8c"), looks := true }, kinds := [], alts := [], laidByText := true, laidKinds := [.data, .data, .data, .data, .sentinel, .sentinel, .pinned], laidTests := true, laidLooks := .later }
def AdmitAlikeUptoCardSaid : Prop := Claim7.holds Tryz.pinned (.plain (OpenSpec.upto admitAlikeSpec)) admitAlikeUptoCard

/-- THE SECOND FORM's CARD OF 'conciergelaw28.AdmitPrograms'. -/
def admitProgramsUptoCard : Claim7 := { stood := { row := admitProgramsUptoRow, standIns := [], harness := (true, "da3935492ec0576d79377b831898b91da89cf9fc61f90531614775ded8e42c8c"), looks := true }, kinds := [], alts := [], laidByText := true, laidKinds := [.data, .data, .data, .data, .sentinel, .sentinel, .pinned], laidTests := true, laidLooks := .later }
def AdmitProgramsUptoCardSaid : Prop := Claim7.holds Tryz.pinned (.plain (OpenSpec.upto admitProgramsSpec)) admitProgramsUptoCard

/-- THE SECOND FORM's CARD OF 'conciergelaw23.ProgAny'. -/
def progAnyUptoCard : Claim7 := { stood := { row := progAnyUptoRow, standIns := [], harness := (true, "da3935492ec0576d79377b831898b91da89cf9fc61f90531614775ded8e42c8c"), looks := true }, kinds := [], alts := [], laidByText := true, laidKinds := [.data, .data, .data, .data, .sentinel, .sentinel, .pinned], laidTests := true, laidLooks := .later }
def ProgAnyUptoCardSaid : Prop := Claim7.holds Tryz.pinned (.plain (OpenSpec.upto progAnySpec)) progAnyUptoCard

/-- THE SECOND FORM's CARD OF 'conciergelaw23.ProgNext'. -/
def progNextUptoCard : Claim7 := { stood := { row := progNextUptoRow, standIns := [], harness := (true, "da3935492ec0576d79377b831898b91da89cf9fc61f90531614775ded8e42c8c"), looks := true }, kinds := [], alts := [], laidByText := true, laidKinds := [.data, .data, .data, .data, .sentinel, .sentinel, .pinned], laidTests := true, laidLooks := .later }
def ProgNextUptoCardSaid : Prop := Claim7.holds Tryz.pinned (.plain (OpenSpec.upto progNextSpec)) progNextUptoCard

/-- THE SECOND FORM's CARD OF 'conciergelaw23.ProgEnds'. -/
def progEndsUptoCard : Claim7 := { stood := { row := progEndsUptoRow, standIns := [], harness := (true, "da3935492ec0576d79377b831898b91da89cf9fc61f90531614775ded8e42c8c"), looks := true }, kinds := [], alts := [], laidByText := true, laidKinds := [.data, .data, .data, .data, .sentinel, .sentinel, .pinned], laidTests := true, laidLooks := .later }
def ProgEndsUptoCardSaid : Prop := Claim7.holds Tryz.pinned (.plain (OpenSpec.upto progEndsSpec)) progEndsUptoCard

/-- THE SECOND FORM's CARD OF 'conciergelaw23.ProgBack'. -/
def progBackUptoCard : Claim7 := { stood := { row := progBackUptoRow, standIns := [], harness := (true, "da3935492ec0576d79377b831898b91da89cf9fc61f90531614775ded8e42c8c"), looks := true }, kinds := [], alts := [], laidByText := true, laidKinds := [.data, .data, .data, .data, .sentinel, .sentinel, .pinned], laidTests := true, laidLooks := .later }
def ProgBackUptoCardSaid : Prop := Claim7.holds Tryz.pinned (.plain (OpenSpec.upto progBackSpec)) progBackUptoCard

/-- THE SECOND FORM's CARD OF 'conciergelaw29.JobOf'. -/
def jobOfUptoCard : Claim7 := { stood := { row := jobOfUptoRow, standIns := [], harness := (true, "da3935492ec0576d79377b831898b91da89cf9fc61f90531614775ded8e42c8c"), looks := true }, kinds := [], alts := [], laidByText := true, laidKinds := [.data, .data, .data, .data, .sentinel, .sentinel, .pinned], laidTests := true, laidLooks := .later }
def JobOfUptoCardSaid : Prop := Claim7.holds Tryz.pinned (.plain (OpenSpec.upto jobOfSpec)) jobOfUptoCard

/-- THE SECOND FORM's CARD OF 'conciergelaw29.JobPlans'. -/
def jobPlansUptoCard : Claim7 := { stood := { row := jobPlansUptoRow, standIns := [], harness := (true, "da3935492ec0576d79377b831898b91da89cf9fc61f90531614775ded8e42c8c"), looks := true }, kinds := [], alts := [], laidByText := true, laidKinds := [.data, .data, .data, .data, .sentinel, .sentinel, .pinned], laidTests := true, laidLooks := .later }
def JobPlansUptoCardSaid : Prop := Claim7.holds Tryz.pinned (.plain (OpenSpec.upto jobPlansSpec)) jobPlansUptoCard

/-- THE SECOND FORM's CARD OF 'conciergelaw29.JobPuts'. -/
def jobPutsUptoCard : Claim7 := { stood := { row := jobPutsUptoRow, standIns := [], harness := (true, "da3935492ec0576d79377b831898b91da89cf9fc61f90531614775ded8e42c8c"), looks := true }, kinds := [], alts := [], laidByText := true, laidKinds := [.data, .data, .data, .data, .sentinel, .sentinel, .pinned], laidTests := true, laidLooks := .later }
def JobPutsUptoCardSaid : Prop := Claim7.holds Tryz.pinned (.plain (OpenSpec.upto jobPutsSpec)) jobPutsUptoCard

/-- THE SECOND FORM's CARD OF 'conciergelaw29.JobFails'. -/
def jobFailsUptoCard : Claim7 := { stood := { row := jobFailsUptoRow, standIns := [], harness := (true, "da3935492ec0576d79377b831898b91da89cf9fc61f90531614775ded8e42c8c"), looks := true }, kinds := [], alts := [], laidByText := true, laidKinds := [.data, .data, .data, .data, .sentinel, .sentinel, .pinned], laidTests := true, laidLooks := .later }
def JobFailsUptoCardSaid : Prop := Claim7.holds Tryz.pinned (.plain (OpenSpec.upto jobFailsSpec)) jobFailsUptoCard
end Rows
end Go.Proofs.YtihpjgcbmipdbaaGreatDoor
