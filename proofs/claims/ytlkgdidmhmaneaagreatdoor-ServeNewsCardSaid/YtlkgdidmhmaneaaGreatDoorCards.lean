/-
  DERIVED. GIVEN WITH THE SEED: THE CARDS: each row of YtlkgdidmhmaneaaGreatDoorRows.lean that lists a variable, with what it lists TIED to the program's text (the seventh form; the later family's looks); each row that meets fmt, with fmt's text TOLD by the authors' own Lean function (tested against real Go, not proved from fmt's source: count such statements apart). THE CARD IS WHAT COUNTS. Prove the row's statement (the work); the ties are given (YtlkgdidmhmaneaaGreatDoorTie.lean); close each card by the builder's one call (the guide's Derived/Test/ToyasCard.lean, 'card_holds'). Laid BY PROGRAM, IN A SANDBOX (cutbox-door.mjs). By AI agents, Wed Nov 11 2026. No macro, syntax, notation, axiom, sorry.
-/
import Derived.Test.YtlkgdidmhmaneaaGreatDoorRows
import GoSem.ClaimSeven
namespace Go.Proofs.YtlkgdidmhmaneaaGreatDoor
namespace Rows

/-- THE TIED CARD OF 'truchmanlaw16.ServeNews'. -/
def serveNewsCard : Claim7 := { stood := { row := serveNewsRow, standIns := [], harness := (true, "b9873b30f186ae8be180d561d3afabbb5bd744707ab45719244d868dd260774a"), looks := false }, kinds := [], alts := [], laidByText := true, laidKinds := [.data], laidTests := true, laidLooks := .later }
def ServeNewsCardSaid : Prop := Claim7.holds Tryz.pinned (.plain (OpenSpec.ofChange serveNewsSpec)) serveNewsCard

/-- THE TIED CARD OF 'truchmanlaw16.ServePlays'. -/
def servePlaysCard : Claim7 := { stood := { row := servePlaysRow, standIns := [], harness := (true, "b9873b30f186ae8be180d561d3afabbb5bd744707ab45719244d868dd260774a"), looks := false }, kinds := [], alts := [], laidByText := true, laidKinds := [.data], laidTests := true, laidLooks := .later }
def ServePlaysCardSaid : Prop := Claim7.holds Tryz.pinned (.plain (OpenSpec.ofChange servePlaysSpec)) servePlaysCard

/-- THE TIED CARD OF 'truchmanlaw16.ServeRaw'. -/
def serveRawCard : Claim7 := { stood := { row := serveRawRow, standIns := [], harness := (true, "b9873b30f186ae8be180d561d3afabbb5bd744707ab45719244d868dd260774a"), looks := false }, kinds := [], alts := [], laidByText := true, laidKinds := [.data], laidTests := true, laidLooks := .later }
def ServeRawCardSaid : Prop := Claim7.holds Tryz.pinned (.plain (OpenSpec.ofChange serveRawSpec)) serveRawCard

/-- THE TIED CARD OF 'truchmanlaw16.ServeFiles'. -/
def serveFilesCard : Claim7 := { stood := { row := serveFilesRow, standIns := [], harness := (true, "b9873b30f186ae8be180d561d3afabbb5bd744707ab45719244d868dd260774a"), looks := false }, kinds := [], alts := [], laidByText := true, laidKinds := [.data], laidTests := true, laidLooks := .later }
def ServeFilesCardSaid : Prop := Claim7.holds Tryz.pinned (.plain (OpenSpec.ofChange serveFilesSpec)) serveFilesCard

/-- THE TIED CARD OF 'truchmanlaw16.ServeSame'. -/
def serveSameCard : Claim7 := { stood := { row := serveSameRow, standIns := [], harness := (true, "b9873b30f186ae8be180d561d3afabbb5bd744707ab45719244d868dd260774a"), looks := false }, kinds := [], alts := [], laidByText := true, laidKinds := [.data], laidTests := true, laidLooks := .later }
def ServeSameCardSaid : Prop := Claim7.holds Tryz.pinned (.plain (OpenSpec.ofChange serveSameSpec)) serveSameCard

/-- THE SECOND FORM's CARD OF 'truchmanlaw16.ServeNews'. -/
def serveNewsUptoCard : Claim7 := { stood := { row := serveNewsUptoRow, standIns := [], harness := (true, "b9873b30f186ae8be180d561d3afabbb5bd744707ab45719244d868dd260774a"), looks := false }, kinds := [], alts := [], laidByText := true, laidKinds := [.data], laidTests := true, laidLooks := .later }
def ServeNewsUptoCardSaid : Prop := Claim7.holds Tryz.pinned (.plain (OpenSpec.upto serveNewsSpec)) serveNewsUptoCard

/-- THE SECOND FORM's CARD OF 'truchmanlaw16.ServePlays'. -/
def servePlaysUptoCard : Claim7 := { stood := { row := servePlaysUptoRow, standIns := [], harness := (true, "b9873b30f186ae8be180d561d3afabbb5bd744707ab45719244d868dd260774a"), looks := false }, kinds := [], alts := [], laidByText := true, laidKinds := [.data], laidTests := true, laidLooks := .later }
def ServePlaysUptoCardSaid : Prop := Claim7.holds Tryz.pinned (.plain (OpenSpec.upto servePlaysSpec)) servePlaysUptoCard

/-- THE SECOND FORM's CARD OF 'truchmanlaw16.ServeRaw'. -/
def serveRawUptoCard : Claim7 := { stood := { row := serveRawUptoRow, standIns := [], harness := (true, "b9873b30f186ae8be180d561d3afabbb5bd744707ab45719244d868dd260774a"), looks := false }, kinds := [], alts := [], laidByText := true, laidKinds := [.data], laidTests := true, laidLooks := .later }
def ServeRawUptoCardSaid : Prop := Claim7.holds Tryz.pinned (.plain (OpenSpec.upto serveRawSpec)) serveRawUptoCard

/-- THE SECOND FORM's CARD OF 'truchmanlaw16.ServeFiles'. -/
def serveFilesUptoCard : Claim7 := { stood := { row := serveFilesUptoRow, standIns := [], harness := (true, "b9873b30f186ae8be180d561d3afabbb5bd744707ab45719244d868dd260774a"), looks := false }, kinds := [], alts := [], laidByText := true, laidKinds := [.data], laidTests := true, laidLooks := .later }
def ServeFilesUptoCardSaid : Prop := Claim7.holds Tryz.pinned (.plain (OpenSpec.upto serveFilesSpec)) serveFilesUptoCard

/-- THE SECOND FORM's CARD OF 'truchmanlaw16.ServeSame'. -/
def serveSameUptoCard : Claim7 := { stood := { row := serveSameUptoRow, standIns := [], harness := (true, "b9873b30f186ae8be180d561d3afabbb5bd744707ab45719244d868dd260774a"), looks := false }, kinds := [], alts := [], laidByText := true, laidKinds := [.data], laidTests := true, laidLooks := .later }
def ServeSameUptoCardSaid : Prop := Claim7.holds Tryz.pinned (.plain (OpenSpec.upto serveSameSpec)) serveSameUptoCard
end Rows
end Go.Proofs.YtlkgdidmhmaneaaGreatDoor
