/-
  DERIVED. GIVEN WITH THE SEED: THE CARDS: each row of YtenoecffjfcifaaDoorRows.lean that lists a variable, with what it lists TIED to the program's text (the seventh form; the later family's looks); each row that meets fmt, with fmt's text TOLD by the authors' own Lean function (tested against real Go, not proved from fmt's source: count such statements apart). THE CARD IS WHAT COUNTS. Prove the row's statement (the work); the ties are given (YtenoecffjfcifaaDoorTie.lean); close each card by the builder's one call (the guide's Derived/Test/ToyasCard.lean, 'card_holds'). Laid BY PROGRAM, IN A SANDBOX (cutbox-door.mjs). By AI agents, Wed Nov 11 2026. No macro, syntax, notation, axiom, sorry.
-/
import Derived.Test.YtenoecffjfcifaaDoorRows
import GoSem.ClaimSeven
namespace Go.Proofs.YtenoecffjfcifaaDoor
namespace Rows

/-- THE TIED CARD OF 'carapacelaw15.DirTells'. -/
def dirTellsCard : Claim7 := { stood := { row := dirTellsRow, standIns := [], harness := (true, "3069d2918e5e2d5bbdb4f12e8f7ceb7e5352faa6ae0e00314eb68e323c822b05"), looks := false }, kinds := [], alts := [], laidByText := true, laidKinds := [.data, .pinned], laidTests := true, laidLooks := .later }
def DirTellsCardSaid : Prop := Claim7.holds Tryd.pinned (.plain (OpenSpec.ofChange dirTellsSpec)) dirTellsCard

/-- THE TIED CARD OF 'carapacelaw15.DirFiles'. -/
def dirFilesCard : Claim7 := { stood := { row := dirFilesRow, standIns := [], harness := (true, "3069d2918e5e2d5bbdb4f12e8f7ceb7e5352faa6ae0e00314eb68e323c822b05"), looks := false }, kinds := [], alts := [], laidByText := true, laidKinds := [.data, .pinned], laidTests := true, laidLooks := .later }
def DirFilesCardSaid : Prop := Claim7.holds Tryd.pinned (.plain (OpenSpec.ofChange dirFilesSpec)) dirFilesCard

/-- THE TIED CARD OF 'carapacelaw15.DirBack'. -/
def dirBackCard : Claim7 := { stood := { row := dirBackRow, standIns := [], harness := (true, "3069d2918e5e2d5bbdb4f12e8f7ceb7e5352faa6ae0e00314eb68e323c822b05"), looks := false }, kinds := [], alts := [], laidByText := true, laidKinds := [.data, .pinned], laidTests := true, laidLooks := .later }
def DirBackCardSaid : Prop := Claim7.holds Tryd.pinned (.plain (OpenSpec.ofChange dirBackSpec)) dirBackCard

/-- THE SECOND FORM's CARD OF 'carapacelaw15.DirTells'. -/
def dirTellsUptoCard : Claim7 := { stood := { row := dirTellsUptoRow, standIns := [], harness := (true, "3069d2918e5e2d5bbdb4f12e8f7ceb7e5352faa6ae0e00314eb68e323c822b05"), looks := false }, kinds := [], alts := [], laidByText := true, laidKinds := [.data, .pinned], laidTests := true, laidLooks := .later }
def DirTellsUptoCardSaid : Prop := Claim7.holds Tryd.pinned (.plain (OpenSpec.upto dirTellsSpec)) dirTellsUptoCard

/-- THE SECOND FORM's CARD OF 'carapacelaw15.DirFiles'. -/
def dirFilesUptoCard : Claim7 := { stood := { row := dirFilesUptoRow, standIns := [], harness := (true, "3069d2918e5e2d5bbdb4f12e8f7ceb7e5352faa6ae0e00314eb68e323c822b05"), looks := false }, kinds := [], alts := [], laidByText := true, laidKinds := [.data, .pinned], laidTests := true, laidLooks := .later }
def DirFilesUptoCardSaid : Prop := Claim7.holds Tryd.pinned (.plain (OpenSpec.upto dirFilesSpec)) dirFilesUptoCard

/-- THE SECOND FORM's CARD OF 'carapacelaw15.DirBack'. -/
def dirBackUptoCard : Claim7 := { stood := { row := dirBackUptoRow, standIns := [], harness := (true, "3069d2918e5e2d5bbdb4f12e8f7ceb7e5352faa6ae0e00314eb68e323c822b05"), looks := false }, kinds := [], alts := [], laidByText := true, laidKinds := [.data, .pinned], laidTests := true, laidLooks := .later }
def DirBackUptoCardSaid : Prop := Claim7.holds Tryd.pinned (.plain (OpenSpec.upto dirBackSpec)) dirBackUptoCard
end Rows
end Go.Proofs.YtenoecffjfcifaaDoor
