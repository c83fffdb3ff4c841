/-
  DERIVED. GIVEN WITH THE SEED: THE CARDS: each row of YtlapjnaaihpeeaaDoorRows.lean that lists a variable, with what it lists TIED to the program's text (the seventh form; the later family's looks); each row that meets fmt, with fmt's text TOLD by the authors' own Lean function (tested against real Go, not proved from fmt's source: count such statements apart). THE CARD IS WHAT COUNTS. Prove the row's statement (the work); the ties are given (YtlapjnaaihpeeaaDoorTie.lean); close each card by the builder's one call (the guide's Derived/Test/ToyasCard.lean, 'card_holds'). Laid BY PROGRAM, IN A SANDBOX (cutbox-door.mjs). By AI agents, Wed Nov 11 2026. No macro, syntax, notation, axiom, sorry.
-/
import Derived.Test.YtlapjnaaihpeeaaDoorRows
import GoSem.ClaimSeven
namespace Go.Proofs.YtlapjnaaihpeeaaDoor
namespace Rows

/-- THE TIED CARD OF 'gambrellaw22.PlanTells'. -/
def planTellsCard : Claim7 := { stood := { row := planTellsRow, standIns := [], harness := (true, "7178c4df4bfc45ec32a9b56049ccb55e5bbffb3112ef19af36ac95ad7b6efc73"), looks := false }, kinds := [], alts := [], laidByText := true, laidKinds := [.data, .pinned], laidTests := true, laidLooks := .later }
def PlanTellsCardSaid : Prop := Claim7.holds Tryd.pinned (.plain (OpenSpec.ofChange planTellsSpec)) planTellsCard

/-- THE TIED CARD OF 'gambrellaw22.PlanAll'. -/
def planAllCard : Claim7 := { stood := { row := planAllRow, standIns := [], harness := (true, "7178c4df4bfc45ec32a9b56049ccb55e5bbffb3112ef19af36ac95ad7b6efc73"), looks := false }, kinds := [], alts := [], laidByText := true, laidKinds := [.data, .pinned], laidTests := true, laidLooks := .later }
def PlanAllCardSaid : Prop := Claim7.holds Tryd.pinned (.plain (OpenSpec.ofChange planAllSpec)) planAllCard

/-- THE TIED CARD OF 'gambrellaw22.PlanParity'. -/
def planParityCard : Claim7 := { stood := { row := planParityRow, standIns := [], harness := (true, "7178c4df4bfc45ec32a9b56049ccb55e5bbffb3112ef19af36ac95ad7b6efc73"), looks := false }, kinds := [], alts := [], laidByText := true, laidKinds := [.data, .pinned], laidTests := true, laidLooks := .later }
def PlanParityCardSaid : Prop := Claim7.holds Tryd.pinned (.plain (OpenSpec.ofChange planParitySpec)) planParityCard

/-- THE TIED CARD OF 'gambrellaw22.PlanBack'. -/
def planBackCard : Claim7 := { stood := { row := planBackRow, standIns := [], harness := (true, "7178c4df4bfc45ec32a9b56049ccb55e5bbffb3112ef19af36ac95ad7b6efc73"), looks := false }, kinds := [], alts := [], laidByText := true, laidKinds := [.data, .pinned], laidTests := true, laidLooks := .later }
def PlanBackCardSaid : Prop := Claim7.holds Tryd.pinned (.plain (OpenSpec.ofChange planBackSpec)) planBackCard

/-- THE SECOND FORM's CARD OF 'gambrellaw22.PlanTells'. -/
def planTellsUptoCard : Claim7 := { stood := { row := planTellsUptoRow, standIns := [], harness := (true, "7178c4df4bfc45ec32a9b56049ccb55e5bbffb3112ef19af36ac95ad7b6efc73"), looks := false }, kinds := [], alts := [], laidByText := true, laidKinds := [.data, .pinned], laidTests := true, laidLooks := .later }
def PlanTellsUptoCardSaid : Prop := Claim7.holds Tryd.pinned (.plain (OpenSpec.upto planTellsSpec)) planTellsUptoCard

/-- THE SECOND FORM's CARD OF 'gambrellaw22.PlanAll'. -/
def planAllUptoCard : Claim7 := { stood := { row := planAllUptoRow, standIns := [], harness := (true, "7178c4df4bfc45ec32a9b56049ccb55e5bbffb3112ef19af36ac95ad7b6efc73"), looks := false }, kinds := [], alts := [], laidByText := true, laidKinds := [.data, .pinned], laidTests := true, laidLooks := .later }
def PlanAllUptoCardSaid : Prop := Claim7.holds Tryd.pinned (.plain (OpenSpec.upto planAllSpec)) planAllUptoCard

/-- THE SECOND FORM's CARD OF 'gambrellaw22.PlanParity'. -/
def planParityUptoCard : Claim7 := { stood := { row := planParityUptoRow, standIns := [], harness := (true, "7178c4df4bfc45ec32a9b56049ccb55e5bbffb3112ef19af36ac95ad7b6efc73"), looks := false }, kinds := [], alts := [], laidByText := true, laidKinds := [.data, .pinned], laidTests := true, laidLooks := .later }
def PlanParityUptoCardSaid : Prop := Claim7.holds Tryd.pinned (.plain (OpenSpec.upto planParitySpec)) planParityUptoCard

/-- THE SECOND FORM's CARD OF 'gambrellaw22.PlanBack'. -/
def planBackUptoCard : Claim7 := { stood := { row := planBackUptoRow, standIns := [], harness := (true, "7178c4df4bfc45ec32a9b56049ccb55e5bbffb3112ef19af36ac95ad7b6efc73"), looks := false }, kinds := [], alts := [], laidByText := true, laidKinds := [.data, .pinned], laidTests := true, laidLooks := .later }
def PlanBackUptoCardSaid : Prop := Claim7.holds Tryd.pinned (.plain (OpenSpec.upto planBackSpec)) planBackUptoCard
end Rows
end Go.Proofs.YtlapjnaaihpeeaaDoor
