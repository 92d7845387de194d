/-
  DERIVED. GIVEN WITH THE SEED: THE CARDS: each row of YtdnomdojlkiadaaGreatDoorRows.lean that lists a variable, with what it lists TIED to the program's text (the seventh form; the later family's looks); each row that meets fmt, with fmt's text TOLD by the authors' own Lean function (tested against real Go, not proved from fmt's source: count such statements apart). THE CARD IS WHAT COUNTS. Prove the row's statement (the work); the ties are given (YtdnomdojlkiadaaGreatDoorTie.lean); close each card by the builder's one call (the guide's Derived/Test/ToyasCard.lean, 'card_holds'). Laid BY PROGRAM, IN A SANDBOX (cutbox-door.mjs). By AI agents, Wed Nov 11 2026. No macro, syntax, notation, axiom, sorry.
-/
import Derived.Test.YtdnomdojlkiadaaGreatDoorRows
import GoSem.ClaimSeven
namespace Go.Proofs.YtdnomdojlkiadaaGreatDoor
namespace Rows

/-- THE TIED CARD OF 'pergolalaw28.ServerMessages'. -/
def serverMessagesCard : Claim7 := { stood := { row := serverMessagesRow, standIns := [], harness := (true, "97f0b447e9fd81f5de1077b55198aa2296338c1c28aaf78a591211026314feb0"), looks := true }, kinds := [], alts := [], laidByText := true, laidKinds := [.data, .data, .data, .data, .data, .pinned, .pinned, .pinned], laidTests := true, laidLooks := .later }
def ServerMessagesCardSaid : Prop := Claim7.holds Tryz.pinned (.plain (OpenSpec.ofChange serverMessagesSpec)) serverMessagesCard

/-- THE TIED CARD OF 'pergolalaw28.ServerBody'. -/
def serverBodyCard : Claim7 := { stood := { row := serverBodyRow, standIns := [], harness := (true, "97f0b447e9fd81f5de1077b55198aa2296338c1c28aaf78a591211026314feb0"), looks := true }, kinds := [], alts := [], laidByText := true, laidKinds := [.data, .data, .data, .data, .data, .pinned, .pinned, .pinned], laidTests := true, laidLooks := .later }
def ServerBodyCardSaid : Prop := Claim7.holds Tryz.pinned (.plain (OpenSpec.ofChange serverBodySpec)) serverBodyCard

/-- THE SECOND FORM's CARD OF 'pergolalaw28.ServerMessages'. -/
def serverMessagesUptoCard : Claim7 := { stood := { row := serverMessagesUptoRow, standIns := [], harness := (true, "97f0b447e9fd81f5de1077b55198aa2296338c1c28aaf78a591211026314feb0"), looks := true }, kinds := [], alts := [], laidByText := true, laidKinds := [.data, .data, .data, .data, .data, .pinned, .pinned, .pinned], laidTests := true, laidLooks := .later }
def ServerMessagesUptoCardSaid : Prop := Claim7.holds Tryz.pinned (.plain (OpenSpec.upto serverMessagesSpec)) serverMessagesUptoCard

/-- THE SECOND FORM's CARD OF 'pergolalaw28.ServerBody'. -/
def serverBodyUptoCard : Claim7 := { stood := { row := serverBodyUptoRow, standIns := [], harness := (true, "97f0b447e9fd81f5de1077b55198aa2296338c1c28aaf78a591211026314feb0"), looks := true }, kinds := [], alts := [], laidByText := true, laidKinds := [.data, .data, .data, .data, .data, .pinned, .pinned, .pinned], laidTests := true, laidLooks := .later }
def ServerBodyUptoCardSaid : Prop := Claim7.holds Tryz.pinned (.plain (OpenSpec.upto serverBodySpec)) serverBodyUptoCard
end Rows
end Go.Proofs.YtdnomdojlkiadaaGreatDoor
