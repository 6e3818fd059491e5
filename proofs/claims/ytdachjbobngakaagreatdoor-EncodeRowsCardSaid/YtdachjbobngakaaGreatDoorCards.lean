/-
  DERIVED. GIVEN WITH THE SEED: THE CARDS: each row of YtdachjbobngakaaGreatDoorRows.lean that lists a variable, with what it lists TIED to the program's text (the seventh form; the later family's looks); each row that meets fmt, with fmt's text TOLD by the authors' own Lean function (tested against real Go, not proved from fmt's source: count such statements apart). THE CARD IS WHAT COUNTS. Prove the row's statement (the work); the ties are given (YtdachjbobngakaaGreatDoorTie.lean); close each card by the builder's one call (the guide's Derived/Test/ToyasCard.lean, 'card_holds'). Laid BY PROGRAM, IN A SANDBOX (cutbox-door.mjs). By AI agents, Wed Nov 11 2026. No macro, syntax, notation, axiom, sorry.
-/
import Derived.Test.YtdachjbobngakaaGreatDoorRows
import GoSem.ClaimSeven
namespace Go.Proofs.YtdachjbobngakaaGreatDoor
namespace Rows

/-- THE TIED CARD OF 'redlinelaw11.SchemaSame'. -/
def schemaSameCard : Claim7 := { stood := { row := schemaSameRow, standIns := [], harness := (true, "e9837edeb1e9bffb22bef7833b285d3ade10546a608069de80187154a04b9550"), looks := true }, kinds := [], alts := [], laidByText := true, laidKinds := [.data, .data, .data, .sentinel, .sentinel, .sentinel, .sentinel, .sentinel, .sentinel, .sentinel, .widerDeep, .sentinel, .sentinel], laidTests := true, laidLooks := .later }
def SchemaSameCardSaid : Prop := Claim7.holds Tryz.pinned (.plain (OpenSpec.ofChange schemaSameSpec)) schemaSameCard

/-- THE TIED CARD OF 'redlinelaw11.SchemaTexts'. -/
def schemaTextsCard : Claim7 := { stood := { row := schemaTextsRow, standIns := [], harness := (true, "e9837edeb1e9bffb22bef7833b285d3ade10546a608069de80187154a04b9550"), looks := true }, kinds := [], alts := [], laidByText := true, laidKinds := [.data, .data, .data, .handle, .sentinel, .sentinel, .sentinel, .sentinel, .sentinel, .sentinel, .sentinel, .sentinel, .sentinel, .sentinel, .sentinel, .sentinel, .sentinel, .sentinel, .sentinel, .sentinel, .sentinel, .sentinel, .sentinel, .widerDeep, .sentinel, .sentinel], laidTests := true, laidLooks := .later }
def SchemaTextsCardSaid : Prop := Claim7.holds Tryz.pinned (.plain (OpenSpec.ofChange schemaTextsSpec)) schemaTextsCard

/-- THE TIED CARD OF 'redlinelaw15.EncodeRows'. -/
def encodeRowsCard : Claim7 := { stood := { row := encodeRowsRow, standIns := [], harness := (true, "e9837edeb1e9bffb22bef7833b285d3ade10546a608069de80187154a04b9550"), looks := true }, kinds := [], alts := [], laidByText := true, laidKinds := [.data, .data, .data, .sentinel, .sentinel, .sentinel, .sentinel, .sentinel, .sentinel, .sentinel, .sentinel, .sentinel, .sentinel, .sentinel, .sentinel, .sentinel, .widerDeep, .sentinel, .sentinel], laidTests := true, laidLooks := .later }
def EncodeRowsCardSaid : Prop := Claim7.holds Tryz.pinned (.plain (OpenSpec.ofChange encodeRowsSpec)) encodeRowsCard

/-- THE SECOND FORM's CARD OF 'redlinelaw11.SchemaSame'. -/
def schemaSameUptoCard : Claim7 := { stood := { row := schemaSameUptoRow, standIns := [], harness := (true, "e9837edeb1e9bffb22bef7833b285d3ade10546a608069de80187154a04b9550"), looks := true }, kinds := [], alts := [], laidByText := true, laidKinds := [.data, .data, .data, .sentinel, .sentinel, .sentinel, .sentinel, .sentinel, .sentinel, .sentinel, .widerDeep, .sentinel, .sentinel], laidTests := true, laidLooks := .later }
def SchemaSameUptoCardSaid : Prop := Claim7.holds Tryz.pinned (.plain (OpenSpec.upto schemaSameSpec)) schemaSameUptoCard

/-- THE SECOND FORM's CARD OF 'redlinelaw11.SchemaTexts'. -/
def schemaTextsUptoCard : Claim7 := { stood := { row := schemaTextsUptoRow, standIns := [], harness := (true, "e9837edeb1e9bffb22bef7833b285d3ade10546a608069de80187154a04b9550"), looks := true }, kinds := [], alts := [], laidByText := true, laidKinds := [.data, .data, .data, .handle, .sentinel, .sentinel, .sentinel, .sentinel, .sentinel, .sentinel, .sentinel, .sentinel, .sentinel, .sentinel, .sentinel, .sentinel, .sentinel, .sentinel, .sentinel, .sentinel, .sentinel, .sentinel, .sentinel, .widerDeep, .sentinel, .sentinel], laidTests := true, laidLooks := .later }
def SchemaTextsUptoCardSaid : Prop := Claim7.holds Tryz.pinned (.plain (OpenSpec.upto schemaTextsSpec)) schemaTextsUptoCard

/-- THE SECOND FORM's CARD OF 'redlinelaw15.EncodeRows'. -/
def encodeRowsUptoCard : Claim7 := { stood := { row := encodeRowsUptoRow, standIns := [], harness := (true, "e9837edeb1e9bffb22bef7833b285d3ade10546a608069de80187154a04b9550"), looks := true }, kinds := [], alts := [], laidByText := true, laidKinds := [.data, .data, .data, .sentinel, .sentinel, .sentinel, .sentinel, .sentinel, .sentinel, .sentinel, .sentinel, .sentinel, .sentinel, .sentinel, .sentinel, .sentinel, .widerDeep, .sentinel, .sentinel], laidTests := true, laidLooks := .later }
def EncodeRowsUptoCardSaid : Prop := Claim7.holds Tryz.pinned (.plain (OpenSpec.upto encodeRowsSpec)) encodeRowsUptoCard
end Rows
end Go.Proofs.YtdachjbobngakaaGreatDoor
