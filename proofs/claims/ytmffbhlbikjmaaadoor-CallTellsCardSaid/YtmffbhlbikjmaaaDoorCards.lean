/-
  DERIVED. GIVEN WITH THE SEED: THE CARDS: each row of YtmffbhlbikjmaaaDoorRows.lean that lists a variable, with what it lists TIED to the program's text (the seventh form; the later family's looks); each row that meets fmt, with fmt's text TOLD by the authors' own Lean function (tested against real Go, not proved from fmt's source: count such statements apart). THE CARD IS WHAT COUNTS. Prove the row's statement (the work); the ties are given (YtmffbhlbikjmaaaDoorTie.lean); close each card by the builder's one call (the guide's Derived/Test/ToyasCard.lean, 'card_holds'). Laid BY PROGRAM, IN A SANDBOX (cutbox-door.mjs). By AI agents, Wed Nov 11 2026. No macro, syntax, notation, axiom, sorry.
-/
import Derived.Test.YtmffbhlbikjmaaaDoorRows
import GoSem.ClaimSeven
namespace Go.Proofs.YtmffbhlbikjmaaaDoor
namespace Rows

/-- THE TIED CARD OF 'transomlaw12.CallKnown'. -/
def callKnownCard : Claim7 := { stood := { row := callKnownRow, standIns := [], harness := (true, "4a3dc3379dd925dc98ce1f7b294f95112fb58e3f7d27271dca74f14a007441e5"), looks := false }, kinds := [], alts := [], laidByText := true, laidKinds := [.data], laidTests := true, laidLooks := .later }
def CallKnownCardSaid : Prop := Claim7.holds Tryd.pinned (.plain (OpenSpec.ofChange callKnownSpec)) callKnownCard

/-- THE TIED CARD OF 'transomlaw12.CallTells'. -/
def callTellsCard : Claim7 := { stood := { row := callTellsRow, standIns := [], harness := (true, "4a3dc3379dd925dc98ce1f7b294f95112fb58e3f7d27271dca74f14a007441e5"), looks := false }, kinds := [], alts := [], laidByText := true, laidKinds := [.data], laidTests := true, laidLooks := .later }
def CallTellsCardSaid : Prop := Claim7.holds Tryd.pinned (.plain (OpenSpec.ofChange callTellsSpec)) callTellsCard

/-- THE SECOND FORM's CARD OF 'transomlaw12.CallKnown'. -/
def callKnownUptoCard : Claim7 := { stood := { row := callKnownUptoRow, standIns := [], harness := (true, "4a3dc3379dd925dc98ce1f7b294f95112fb58e3f7d27271dca74f14a007441e5"), looks := false }, kinds := [], alts := [], laidByText := true, laidKinds := [.data], laidTests := true, laidLooks := .later }
def CallKnownUptoCardSaid : Prop := Claim7.holds Tryd.pinned (.plain (OpenSpec.upto callKnownSpec)) callKnownUptoCard

/-- THE SECOND FORM's CARD OF 'transomlaw12.CallTells'. -/
def callTellsUptoCard : Claim7 := { stood := { row := callTellsUptoRow, standIns := [], harness := (true, "4a3dc3379dd925dc98ce1f7b294f95112fb58e3f7d27271dca74f14a007441e5"), looks := false }, kinds := [], alts := [], laidByText := true, laidKinds := [.data], laidTests := true, laidLooks := .later }
def CallTellsUptoCardSaid : Prop := Claim7.holds Tryd.pinned (.plain (OpenSpec.upto callTellsSpec)) callTellsUptoCard
end Rows
end Go.Proofs.YtmffbhlbikjmaaaDoor
