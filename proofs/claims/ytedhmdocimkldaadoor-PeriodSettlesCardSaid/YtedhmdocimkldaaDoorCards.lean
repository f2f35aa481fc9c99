/-
  DERIVED. GIVEN WITH THE SEED: THE CARDS: each row of YtedhmdocimkldaaDoorRows.lean that lists a variable, with what it lists TIED to the program's text (the seventh form; the later family's looks); each row that meets fmt, with fmt's text TOLD by the authors' own Lean function (tested against real Go, not proved from fmt's source: count such statements apart). THE CARD IS WHAT COUNTS. Prove the row's statement (the work); the ties are given (YtedhmdocimkldaaDoorTie.lean); close each card by the builder's one call (the guide's Derived/Test/ToyasCard.lean, 'card_holds'). Laid BY PROGRAM, IN A SANDBOX (cutbox-door.mjs). By AI agents, Wed Nov 11 2026. No macro, syntax, notation, axiom, sorry.
-/
import Derived.Test.YtedhmdocimkldaaDoorRows
import GoSem.ClaimSeven
namespace Go.Proofs.YtedhmdocimkldaaDoor
namespace Rows

/-- THE TIED CARD OF 'spilelaw50.PeriodChecks'. -/
def periodChecksCard : Claim7 := { stood := { row := periodChecksRow, standIns := [], harness := (true, "fc1ffa9ad3f494cb4545aaf64b5bd9e6b5725f51628690382135752b7b20648d"), looks := true }, kinds := [], alts := [], laidByText := true, laidKinds := [.data, .data, .data, .data], laidTests := true, laidLooks := .later }
def PeriodChecksCardSaid : Prop := Claim7.holds Tryd.pinned (.plain (OpenSpec.ofChange periodChecksSpec)) periodChecksCard

/-- THE TIED CARD OF 'spilelaw50.PeriodPlans'. -/
def periodPlansCard : Claim7 := { stood := { row := periodPlansRow, standIns := [], harness := (true, "fc1ffa9ad3f494cb4545aaf64b5bd9e6b5725f51628690382135752b7b20648d"), looks := true }, kinds := [], alts := [], laidByText := true, laidKinds := [.data, .data, .data, .data], laidTests := true, laidLooks := .later }
def PeriodPlansCardSaid : Prop := Claim7.holds Tryd.pinned (.plain (OpenSpec.ofChange periodPlansSpec)) periodPlansCard

/-- THE TIED CARD OF 'spilelaw50.PeriodAdjusts'. -/
def periodAdjustsCard : Claim7 := { stood := { row := periodAdjustsRow, standIns := [], harness := (true, "fc1ffa9ad3f494cb4545aaf64b5bd9e6b5725f51628690382135752b7b20648d"), looks := true }, kinds := [], alts := [], laidByText := true, laidKinds := [.data, .data, .data, .data], laidTests := true, laidLooks := .later }
def PeriodAdjustsCardSaid : Prop := Claim7.holds Tryd.pinned (.plain (OpenSpec.ofChange periodAdjustsSpec)) periodAdjustsCard

/-- THE TIED CARD OF 'spilelaw50.PeriodCovers'. -/
def periodCoversCard : Claim7 := { stood := { row := periodCoversRow, standIns := [], harness := (true, "fc1ffa9ad3f494cb4545aaf64b5bd9e6b5725f51628690382135752b7b20648d"), looks := true }, kinds := [], alts := [], laidByText := true, laidKinds := [.data, .data, .data, .data], laidTests := true, laidLooks := .later }
def PeriodCoversCardSaid : Prop := Claim7.holds Tryd.pinned (.plain (OpenSpec.ofChange periodCoversSpec)) periodCoversCard

/-- THE TIED CARD OF 'spilelaw50.PeriodOpen'. -/
def periodOpenCard : Claim7 := { stood := { row := periodOpenRow, standIns := [], harness := (true, "fc1ffa9ad3f494cb4545aaf64b5bd9e6b5725f51628690382135752b7b20648d"), looks := true }, kinds := [], alts := [], laidByText := true, laidKinds := [.data, .data, .data, .data], laidTests := true, laidLooks := .later }
def PeriodOpenCardSaid : Prop := Claim7.holds Tryd.pinned (.plain (OpenSpec.ofChange periodOpenSpec)) periodOpenCard

/-- THE TIED CARD OF 'spilelaw50.PeriodSettles'. -/
def periodSettlesCard : Claim7 := { stood := { row := periodSettlesRow, standIns := [], harness := (true, "fc1ffa9ad3f494cb4545aaf64b5bd9e6b5725f51628690382135752b7b20648d"), looks := true }, kinds := [], alts := [], laidByText := true, laidKinds := [.data, .data, .data, .data], laidTests := true, laidLooks := .later }
def PeriodSettlesCardSaid : Prop := Claim7.holds Tryd.pinned (.plain (OpenSpec.ofChange periodSettlesSpec)) periodSettlesCard

/-- THE TIED CARD OF 'spilelaw50.PeriodPlanned'. -/
def periodPlannedCard : Claim7 := { stood := { row := periodPlannedRow, standIns := [], harness := (true, "fc1ffa9ad3f494cb4545aaf64b5bd9e6b5725f51628690382135752b7b20648d"), looks := true }, kinds := [], alts := [], laidByText := true, laidKinds := [.data, .data, .data, .data], laidTests := true, laidLooks := .later }
def PeriodPlannedCardSaid : Prop := Claim7.holds Tryd.pinned (.plain (OpenSpec.ofChange periodPlannedSpec)) periodPlannedCard

/-- THE SECOND FORM's CARD OF 'spilelaw50.PeriodChecks'. -/
def periodChecksUptoCard : Claim7 := { stood := { row := periodChecksUptoRow, standIns := [], harness := (true, "fc1ffa9ad3f494cb4545aaf64b5bd9e6b5725f51628690382135752b7b20648d"), looks := true }, kinds := [], alts := [], laidByText := true, laidKinds := [.data, .data, .data, .data], laidTests := true, laidLooks := .later }
def PeriodChecksUptoCardSaid : Prop := Claim7.holds Tryd.pinned (.plain (OpenSpec.upto periodChecksSpec)) periodChecksUptoCard

/-- THE SECOND FORM's CARD OF 'spilelaw50.PeriodPlans'. -/
def periodPlansUptoCard : Claim7 := { stood := { row := periodPlansUptoRow, standIns := [], harness := (true, "fc1ffa9ad3f494cb4545aaf64b5bd9e6b5725f51628690382135752b7b20648d"), looks := true }, kinds := [], alts := [], laidByText := true, laidKinds := [.data, .data, .data, .data], laidTests := true, laidLooks := .later }
def PeriodPlansUptoCardSaid : Prop := Claim7.holds Tryd.pinned (.plain (OpenSpec.upto periodPlansSpec)) periodPlansUptoCard

/-- THE SECOND FORM's CARD OF 'spilelaw50.PeriodAdjusts'. -/
def periodAdjustsUptoCard : Claim7 := { stood := { row := periodAdjustsUptoRow, standIns := [], harness := (true, "fc1ffa9ad3f494cb4545aaf64b5bd9e6b5725f51628690382135752b7b20648d"), looks := true }, kinds := [], alts := [], laidByText := true, laidKinds := [.data, .data, .data, .data], laidTests := true, laidLooks := .later }
def PeriodAdjustsUptoCardSaid : Prop := Claim7.holds Tryd.pinned (.plain (OpenSpec.upto periodAdjustsSpec)) periodAdjustsUptoCard

/-- THE SECOND FORM's CARD OF 'spilelaw50.PeriodCovers'. -/
def periodCoversUptoCard : Claim7 := { stood := { row := periodCoversUptoRow, standIns := [], harness := (true, "fc1ffa9ad3f494cb4545aaf64b5bd9e6b5725f51628690382135752b7b20648d"), looks := true }, kinds := [], alts := [], laidByText := true, laidKinds := [.data, .data, .data, .data], laidTests := true, laidLooks := .later }
def PeriodCoversUptoCardSaid : Prop := Claim7.holds Tryd.pinned (.plain (OpenSpec.upto periodCoversSpec)) periodCoversUptoCard

/-- THE SECOND FORM's CARD OF 'spilelaw50.PeriodOpen'. -/
def periodOpenUptoCard : Claim7 := { stood := { row := periodOpenUptoRow, standIns := [], harness := (true, "fc1ffa9ad3f494cb4545aaf64b5bd9e6b5725f51628690382135752b7b20648d"), looks := true }, kinds := [], alts := [], laidByText := true, laidKinds := [.data, .data, .data, .data], laidTests := true, laidLooks := .later }
def PeriodOpenUptoCardSaid : Prop := Claim7.holds Tryd.pinned (.plain (OpenSpec.upto periodOpenSpec)) periodOpenUptoCard

/-- THE SECOND FORM's CARD OF 'spilelaw50.PeriodSettles'. -/
def periodSettlesUptoCard : Claim7 := { stood := { row := periodSettlesUptoRow, standIns := [], harness := (true, "fc1ffa9ad3f494cb4545aaf64b5bd9e6b5725f51628690382135752b7b20648d"), looks := true }, kinds := [], alts := [], laidByText := true, laidKinds := [.data, .data, .data, .data], laidTests := true, laidLooks := .later }
def PeriodSettlesUptoCardSaid : Prop := Claim7.holds Tryd.pinned (.plain (OpenSpec.upto periodSettlesSpec)) periodSettlesUptoCard

/-- THE SECOND FORM's CARD OF 'spilelaw50.PeriodPlanned'. -/
def periodPlannedUptoCard : Claim7 := { stood := { row := periodPlannedUptoRow, standIns := [], harness := (true, "fc1ffa9ad3f494cb4545aaf64b5bd9e6b5725f51628690382135752b7b20648d"), looks := true }, kinds := [], alts := [], laidByText := true, laidKinds := [.data, .data, .data, .data], laidTests := true, laidLooks := .later }
def PeriodPlannedUptoCardSaid : Prop := Claim7.holds Tryd.pinned (.plain (OpenSpec.upto periodPlannedSpec)) periodPlannedUptoCard
end Rows
end Go.Proofs.YtedhmdocimkldaaDoor
