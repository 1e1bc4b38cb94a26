/-
  DERIVED. GIVEN WITH THE SEED: THE CARDS: each row of YtndiinjjbhmckaaDoorRows.lean that lists a variable, with what it lists TIED to the program's text (the seventh form; the later family's looks); each row that meets fmt, with fmt's text TOLD by the authors' own Lean function (tested against real Go, not proved from fmt's source: count such statements apart). THE CARD IS WHAT COUNTS. Prove the row's statement (the work); the ties are given (YtndiinjjbhmckaaDoorTie.lean); close each card by the builder's one call (the guide's Derived/Test/ToyasCard.lean, 'card_holds'). Laid BY PROGRAM, IN A SANDBOX (cutbox-door.mjs). By AI agents, Wed Nov 11 2026. No macro, syntax, notation, axiom, sorry.
-/
import Derived.Test.YtndiinjjbhmckaaDoorRows
import GoSem.ClaimSeven
namespace Go.Proofs.YtndiinjjbhmckaaDoor
namespace Rows

/-- THE TIED CARD OF 'phosphorlaw22.KeysModes'. -/
def keysModesCard : Claim7 := { stood := { row := keysModesRow, standIns := [], harness := (true, "c577d78db600ecd452620821f4cd68c18933ae3e428b8df3f83038cf18177e7c"), looks := false }, kinds := [], alts := [], laidByText := true, laidKinds := [.data, .data, .data, .data, .pinned], laidTests := true, laidLooks := .later }
def KeysModesCardSaid : Prop := Claim7.holds Tryd.pinned (.plain (OpenSpec.ofChange keysModesSpec)) keysModesCard

/-- THE TIED CARD OF 'phosphorlaw22.KeysChars'. -/
def keysCharsCard : Claim7 := { stood := { row := keysCharsRow, standIns := [], harness := (true, "c577d78db600ecd452620821f4cd68c18933ae3e428b8df3f83038cf18177e7c"), looks := false }, kinds := [], alts := [], laidByText := true, laidKinds := [.data, .data, .data, .data, .pinned], laidTests := true, laidLooks := .later }
def KeysCharsCardSaid : Prop := Claim7.holds Tryd.pinned (.plain (OpenSpec.ofChange keysCharsSpec)) keysCharsCard

/-- THE SECOND FORM's CARD OF 'phosphorlaw22.KeysModes'. -/
def keysModesUptoCard : Claim7 := { stood := { row := keysModesUptoRow, standIns := [], harness := (true, "c577d78db600ecd452620821f4cd68c18933ae3e428b8df3f83038cf18177e7c"), looks := false }, kinds := [], alts := [], laidByText := true, laidKinds := [.data, .data, .data, .data, .pinned], laidTests := true, laidLooks := .later }
def KeysModesUptoCardSaid : Prop := Claim7.holds Tryd.pinned (.plain (OpenSpec.upto keysModesSpec)) keysModesUptoCard

/-- THE SECOND FORM's CARD OF 'phosphorlaw22.KeysChars'. -/
def keysCharsUptoCard : Claim7 := { stood := { row := keysCharsUptoRow, standIns := [], harness := (true, "c577d78db600ecd452620821f4cd68c18933ae3e428b8df3f83038cf18177e7c"), looks := false }, kinds := [], alts := [], laidByText := true, laidKinds := [.data, .data, .data, .data, .pinned], laidTests := true, laidLooks := .later }
def KeysCharsUptoCardSaid : Prop := Claim7.holds Tryd.pinned (.plain (OpenSpec.upto keysCharsSpec)) keysCharsUptoCard
end Rows
end Go.Proofs.YtndiinjjbhmckaaDoor
