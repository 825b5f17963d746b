/-
  DERIVED. GIVEN WITH THE SEED: THE CARDS: each row of YtbmkdnfefokddaaGreatDoorRows.lean that lists a variable, with what it lists TIED to the program's text (the seventh form; the later family's looks); each row that meets fmt, with fmt's text TOLD by the authors' own Lean function (tested against real Go, not proved from fmt's source: count such statements apart). THE CARD IS WHAT COUNTS. Prove the row's statement (the work); the ties are given (YtbmkdnfefokddaaGreatDoorTie.lean); close each card by the builder's one call (the guide's Derived/Test/ToyasCard.lean, 'card_holds'). Laid BY PROGRAM, IN A SANDBOX (cutbox-door.mjs). By AI agents, Wed Nov 11 2026. No macro, syntax, notation, axiom, sorry.
-/
import Derived.Test.YtbmkdnfefokddaaGreatDoorRows
import GoSem.ClaimSeven
namespace Go.Proofs.YtbmkdnfefokddaaGreatDoor
namespace Rows

/-- THE TIED CARD OF 'precinctlaw22.ProductNil'. -/
def productNilCard : Claim7 := { stood := { row := productNilRow, standIns := [], harness := (true, "6c2c75d69ebfc16601411110cf3176fb75dc7091b38f491bc5a89989ddb7a9be"), looks := true }, kinds := [], alts := [], laidByText := true, laidKinds := [.data, .data], laidTests := true, laidLooks := .later }
def ProductNilCardSaid : Prop := Claim7.holds Tryz.pinned (.plain (OpenSpec.ofChange productNilSpec)) productNilCard

/-- THE SECOND FORM's CARD OF 'precinctlaw22.ProductNil'. -/
def productNilUptoCard : Claim7 := { stood := { row := productNilUptoRow, standIns := [], harness := (true, "6c2c75d69ebfc16601411110cf3176fb75dc7091b38f491bc5a89989ddb7a9be"), looks := true }, kinds := [], alts := [], laidByText := true, laidKinds := [.data, .data], laidTests := true, laidLooks := .later }
def ProductNilUptoCardSaid : Prop := Claim7.holds Tryz.pinned (.plain (OpenSpec.upto productNilSpec)) productNilUptoCard
end Rows
end Go.Proofs.YtbmkdnfefokddaaGreatDoor
