/-
  DERIVED. GIVEN WITH THE SEED: THE CARDS: each row of YtgbfbcbblndnoaaDoorRows.lean that lists a variable, with what it lists TIED to the program's text (the seventh form; the later family's looks); each row that meets fmt, with fmt's text TOLD by the authors' own Lean function (tested against real Go, not proved from fmt's source: count such statements apart). THE CARD IS WHAT COUNTS. Prove the row's statement (the work); the ties are given (YtgbfbcbblndnoaaDoorTie.lean); close each card by the builder's one call (the guide's Derived/Test/ToyasCard.lean, 'card_holds'). Laid BY PROGRAM, IN A SANDBOX (cutbox-door.mjs). By AI agents, Wed Nov 11 2026. No macro, syntax, notation, axiom, sorry.
-/
import Derived.Test.YtgbfbcbblndnoaaDoorRows
import GoSem.ClaimSeven
namespace Go.Proofs.YtgbfbcbblndnoaaDoor
namespace Rows

/-- THE TIED CARD OF 'carapacelaw06.PathTells'. -/
def pathTellsCard : Claim7 := { stood := { row := pathTellsRow, standIns := [], harness := (true, "102b07cfa05f41885a6b20bcf025416c2c830d5af7ab9503ec42da432b02bc47"), looks := false }, kinds := [], alts := [], laidByText := true, laidKinds := [.data, .pinned], laidTests := true, laidLooks := .later }
def PathTellsCardSaid : Prop := Claim7.holds Tryd.pinned (.plain (OpenSpec.ofChange pathTellsSpec)) pathTellsCard

/-- THE TIED CARD OF 'carapacelaw06.PathOrder'. -/
def pathOrderCard : Claim7 := { stood := { row := pathOrderRow, standIns := [], harness := (true, "102b07cfa05f41885a6b20bcf025416c2c830d5af7ab9503ec42da432b02bc47"), looks := false }, kinds := [], alts := [], laidByText := true, laidKinds := [.data, .pinned], laidTests := true, laidLooks := .later }
def PathOrderCardSaid : Prop := Claim7.holds Tryd.pinned (.plain (OpenSpec.ofChange pathOrderSpec)) pathOrderCard

/-- THE TIED CARD OF 'carapacelaw06.PathBegins'. -/
def pathBeginsCard : Claim7 := { stood := { row := pathBeginsRow, standIns := [], harness := (true, "102b07cfa05f41885a6b20bcf025416c2c830d5af7ab9503ec42da432b02bc47"), looks := false }, kinds := [], alts := [], laidByText := true, laidKinds := [.data, .pinned], laidTests := true, laidLooks := .later }
def PathBeginsCardSaid : Prop := Claim7.holds Tryd.pinned (.plain (OpenSpec.ofChange pathBeginsSpec)) pathBeginsCard

/-- THE SECOND FORM's CARD OF 'carapacelaw06.PathTells'. -/
def pathTellsUptoCard : Claim7 := { stood := { row := pathTellsUptoRow, standIns := [], harness := (true, "102b07cfa05f41885a6b20bcf025416c2c830d5af7ab9503ec42da432b02bc47"), looks := false }, kinds := [], alts := [], laidByText := true, laidKinds := [.data, .pinned], laidTests := true, laidLooks := .later }
def PathTellsUptoCardSaid : Prop := Claim7.holds Tryd.pinned (.plain (OpenSpec.upto pathTellsSpec)) pathTellsUptoCard

/-- THE SECOND FORM's CARD OF 'carapacelaw06.PathOrder'. -/
def pathOrderUptoCard : Claim7 := { stood := { row := pathOrderUptoRow, standIns := [], harness := (true, "102b07cfa05f41885a6b20bcf025416c2c830d5af7ab9503ec42da432b02bc47"), looks := false }, kinds := [], alts := [], laidByText := true, laidKinds := [.data, .pinned], laidTests := true, laidLooks := .later }
def PathOrderUptoCardSaid : Prop := Claim7.holds Tryd.pinned (.plain (OpenSpec.upto pathOrderSpec)) pathOrderUptoCard

/-- THE SECOND FORM's CARD OF 'carapacelaw06.PathBegins'. -/
def pathBeginsUptoCard : Claim7 := { stood := { row := pathBeginsUptoRow, standIns := [], harness := (true, "102b07cfa05f41885a6b20bcf025416c2c830d5af7ab9503ec42da432b02bc47"), looks := false }, kinds := [], alts := [], laidByText := true, laidKinds := [.data, .pinned], laidTests := true, laidLooks := .later }
def PathBeginsUptoCardSaid : Prop := Claim7.holds Tryd.pinned (.plain (OpenSpec.upto pathBeginsSpec)) pathBeginsUptoCard
end Rows
end Go.Proofs.YtgbfbcbblndnoaaDoor
