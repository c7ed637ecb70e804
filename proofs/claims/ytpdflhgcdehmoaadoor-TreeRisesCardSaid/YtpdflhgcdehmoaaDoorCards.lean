/-
  DERIVED. GIVEN WITH THE SEED: THE CARDS: each row of YtpdflhgcdehmoaaDoorRows.lean that lists a variable, with what it lists TIED to the program's text (the seventh form; the later family's looks); each row that meets fmt, with fmt's text TOLD by the authors' own Lean function (tested against real Go, not proved from fmt's source: count such statements apart). THE CARD IS WHAT COUNTS. Prove the row's statement (the work); the ties are given (YtpdflhgcdehmoaaDoorTie.lean); close each card by the builder's one call (the guide's Derived/Test/ToyasCard.lean, 'card_holds'). Laid BY PROGRAM, IN A SANDBOX (cutbox-door.mjs). By AI agents, Wed Nov 11 2026. No macro, syntax, notation, axiom, sorry.
-/
import Derived.Test.YtpdflhgcdehmoaaDoorRows
import GoSem.ClaimSeven
namespace Go.Proofs.YtpdflhgcdehmoaaDoor
namespace Rows

/-- THE TIED CARD OF 'donjonlaw11.TreeChecks'. -/
def treeChecksCard : Claim7 := { stood := { row := treeChecksRow, standIns := [], harness := (true, "e7323be30741a6aba80bb117ace674a84a68edbd6fa799a1ce0f6f25e92263d3"), looks := false }, kinds := [], alts := [], laidByText := true, laidKinds := [.data, .data, .data, .data, .pinned], laidTests := true, laidLooks := .later }
def TreeChecksCardSaid : Prop := Claim7.holds Tryd.pinned (.plain (OpenSpec.ofChange treeChecksSpec)) treeChecksCard

/-- THE TIED CARD OF 'donjonlaw11.TreeUnders'. -/
def treeUndersCard : Claim7 := { stood := { row := treeUndersRow, standIns := [], harness := (true, "e7323be30741a6aba80bb117ace674a84a68edbd6fa799a1ce0f6f25e92263d3"), looks := false }, kinds := [], alts := [], laidByText := true, laidKinds := [.data, .data, .data], laidTests := true, laidLooks := .later }
def TreeUndersCardSaid : Prop := Claim7.holds Tryd.pinned (.plain (OpenSpec.ofChange treeUndersSpec)) treeUndersCard

/-- THE TIED CARD OF 'donjonlaw11.TreeRises'. -/
def treeRisesCard : Claim7 := { stood := { row := treeRisesRow, standIns := [], harness := (true, "e7323be30741a6aba80bb117ace674a84a68edbd6fa799a1ce0f6f25e92263d3"), looks := false }, kinds := [], alts := [], laidByText := true, laidKinds := [.data, .data, .data, .data, .pinned], laidTests := true, laidLooks := .later }
def TreeRisesCardSaid : Prop := Claim7.holds Tryd.pinned (.plain (OpenSpec.ofChange treeRisesSpec)) treeRisesCard

/-- THE TIED CARD OF 'donjonlaw11.TreeLabels'. -/
def treeLabelsCard : Claim7 := { stood := { row := treeLabelsRow, standIns := [], harness := (true, "e7323be30741a6aba80bb117ace674a84a68edbd6fa799a1ce0f6f25e92263d3"), looks := false }, kinds := [], alts := [], laidByText := true, laidKinds := [.data, .data, .data, .data, .pinned], laidTests := true, laidLooks := .later }
def TreeLabelsCardSaid : Prop := Claim7.holds Tryd.pinned (.plain (OpenSpec.ofChange treeLabelsSpec)) treeLabelsCard

/-- THE TIED CARD OF 'donjonlaw11.TreePlays'. -/
def treePlaysCard : Claim7 := { stood := { row := treePlaysRow, standIns := [], harness := (true, "e7323be30741a6aba80bb117ace674a84a68edbd6fa799a1ce0f6f25e92263d3"), looks := false }, kinds := [], alts := [], laidByText := true, laidKinds := [.data, .data, .data], laidTests := true, laidLooks := .later }
def TreePlaysCardSaid : Prop := Claim7.holds Tryd.pinned (.plain (OpenSpec.ofChange treePlaysSpec)) treePlaysCard

/-- THE SECOND FORM's CARD OF 'donjonlaw11.TreeChecks'. -/
def treeChecksUptoCard : Claim7 := { stood := { row := treeChecksUptoRow, standIns := [], harness := (true, "e7323be30741a6aba80bb117ace674a84a68edbd6fa799a1ce0f6f25e92263d3"), looks := false }, kinds := [], alts := [], laidByText := true, laidKinds := [.data, .data, .data, .data, .pinned], laidTests := true, laidLooks := .later }
def TreeChecksUptoCardSaid : Prop := Claim7.holds Tryd.pinned (.plain (OpenSpec.upto treeChecksSpec)) treeChecksUptoCard

/-- THE SECOND FORM's CARD OF 'donjonlaw11.TreeUnders'. -/
def treeUndersUptoCard : Claim7 := { stood := { row := treeUndersUptoRow, standIns := [], harness := (true, "e7323be30741a6aba80bb117ace674a84a68edbd6fa799a1ce0f6f25e92263d3"), looks := false }, kinds := [], alts := [], laidByText := true, laidKinds := [.data, .data, .data], laidTests := true, laidLooks := .later }
def TreeUndersUptoCardSaid : Prop := Claim7.holds Tryd.pinned (.plain (OpenSpec.upto treeUndersSpec)) treeUndersUptoCard

/-- THE SECOND FORM's CARD OF 'donjonlaw11.TreeRises'. -/
def treeRisesUptoCard : Claim7 := { stood := { row := treeRisesUptoRow, standIns := [], harness := (true, "e7323be30741a6aba80bb117ace674a84a68edbd6fa799a1ce0f6f25e92263d3"), looks := false }, kinds := [], alts := [], laidByText := true, laidKinds := [.data, .data, .data, .data, .pinned], laidTests := true, laidLooks := .later }
def TreeRisesUptoCardSaid : Prop := Claim7.holds Tryd.pinned (.plain (OpenSpec.upto treeRisesSpec)) treeRisesUptoCard

/-- THE SECOND FORM's CARD OF 'donjonlaw11.TreeLabels'. -/
def treeLabelsUptoCard : Claim7 := { stood := { row := treeLabelsUptoRow, standIns := [], harness := (true, "e7323be30741a6aba80bb117ace674a84a68edbd6fa799a1ce0f6f25e92263d3"), looks := false }, kinds := [], alts := [], laidByText := true, laidKinds := [.data, .data, .data, .data, .pinned], laidTests := true, laidLooks := .later }
def TreeLabelsUptoCardSaid : Prop := Claim7.holds Tryd.pinned (.plain (OpenSpec.upto treeLabelsSpec)) treeLabelsUptoCard

/-- THE SECOND FORM's CARD OF 'donjonlaw11.TreePlays'. -/
def treePlaysUptoCard : Claim7 := { stood := { row := treePlaysUptoRow, standIns := [], harness := (true, "e7323be30741a6aba80bb117ace674a84a68edbd6fa799a1ce0f6f25e92263d3"), looks := false }, kinds := [], alts := [], laidByText := true, laidKinds := [.data, .data, .data], laidTests := true, laidLooks := .later }
def TreePlaysUptoCardSaid : Prop := Claim7.holds Tryd.pinned (.plain (OpenSpec.upto treePlaysSpec)) treePlaysUptoCard
end Rows
end Go.Proofs.YtpdflhgcdehmoaaDoor
