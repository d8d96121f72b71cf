/-
  No cell of these rows narrows 'for every input' (looked for: loops, veiled, ifaces, maps, wideKeys, modest, calm, conditions, laid).
  DERIVED. THE GIVEN ROWS OF THIS SEAT. 3 by the template 'for every input the law returns true; each argument reads behind the call as it read before'; 0 by the template 'total and deterministic' (their statements: YteocmeidkdhmiaaTotals.lean).
  GIVEN WITH THE SEED: the statements are not yours to turn. If you find one false, say at which input.
  Laid BY PROGRAM, IN A SANDBOX (cutbox-rows.mjs): the forced cells as the released guide's own fill.sh prints them over the translation 3c9e04efe58e9871… (all of the seat's roots in one cut). By AI agents, Wed Nov 11 2026. No macro, syntax, notation, axiom, sorry.
-/
import Derived.Test.YteocmeidkdhmiaaChecked
import GoSem.Claim
import GoSem.ClaimJoined
import GoSem.ClaimMapViews
import Derived.JoinedTies
import Derived.KernelRfl
namespace Go.Proofs.Yteocmeidkdhmiaa
/- THE CELL 'sum', in the pinned program and in every row, IS THE sha256 OF THE DUMP (.gsa) THAT YteocmeidkdhmiaaProg.lean LOADS. Nothing in Lean hashes anything: it is a label: what it is worth is what the hold of that sum in a sandbox is worth. -/
noncomputable def Try.pinned : Pinned := { name := "yteocmeidkdhmiaa", sum := "3c9e04efe58e987149261ba7884efd914ee369c46a6e462ca2590f6a99e22c1e", checked := Try.checked }
namespace Rows
def none {H : Type} : Left H := { results := [], args := [] }

/-- 'carapacelaw16.CodecTells': WHATEVER THE INPUT: true; the input reads as it did. -/
def codecTellsSpec : ChangeSpec := { name := "codecTells", fn := fun _ => fun
  | [d1, d2, d3] => { results := [.lit (.bool true)], args := [d1, d2, d3] }
  | _ => none }
def codecTellsRow : OpenClaim := { program := "yteocmeidkdhmiaa", sum := "3c9e04efe58e987149261ba7884efd914ee369c46a6e462ca2590f6a99e22c1e", func := "carapace/carapacelaw16.CodecTells", spec := "codecTells", unfollowed := true, recurses := true, apart := false }
def CodecTellsSaid : Prop := codecTellsRow.holds Try.pinned (OpenSpec.ofChange codecTellsSpec)

/-- ITS FALSE NEIGHBOUR: 'it returns false'. Refute it at one input. -/
def codecTellsWrong : ChangeSpec := { name := "codecTells", fn := fun _ => fun
  | [d1, d2, d3] => { results := [.lit (.bool false)], args := [d1, d2, d3] }
  | _ => none }
def CodecTellsWrongFalsely : Prop := codecTellsRow.holds Try.pinned (OpenSpec.ofChange codecTellsWrong)

/-- 'carapacelaw16.CodecBack': WHATEVER THE INPUT: true; the input reads as it did. -/
def codecBackSpec : ChangeSpec := { name := "codecBack", fn := fun _ => fun
  | [d1, d2, d3] => { results := [.lit (.bool true)], args := [d1, d2, d3] }
  | _ => none }
def codecBackRow : OpenClaim := { program := "yteocmeidkdhmiaa", sum := "3c9e04efe58e987149261ba7884efd914ee369c46a6e462ca2590f6a99e22c1e", func := "carapace/carapacelaw16.CodecBack", spec := "codecBack", unfollowed := true, recurses := true, apart := false }
def CodecBackSaid : Prop := codecBackRow.holds Try.pinned (OpenSpec.ofChange codecBackSpec)

/-- ITS FALSE NEIGHBOUR: 'it returns false'. Refute it at one input. -/
def codecBackWrong : ChangeSpec := { name := "codecBack", fn := fun _ => fun
  | [d1, d2, d3] => { results := [.lit (.bool false)], args := [d1, d2, d3] }
  | _ => none }
def CodecBackWrongFalsely : Prop := codecBackRow.holds Try.pinned (OpenSpec.ofChange codecBackWrong)

/-- 'carapacelaw16.CodecBounds': WHATEVER THE INPUT: true; the input reads as it did. -/
def codecBoundsSpec : ChangeSpec := { name := "codecBounds", fn := fun _ => fun
  | [d] => { results := [.lit (.bool true)], args := [d] }
  | _ => none }
def codecBoundsRow : OpenClaim := { program := "yteocmeidkdhmiaa", sum := "3c9e04efe58e987149261ba7884efd914ee369c46a6e462ca2590f6a99e22c1e", func := "carapace/carapacelaw16.CodecBounds", spec := "codecBounds", unfollowed := true, recurses := true, apart := false }
def CodecBoundsSaid : Prop := codecBoundsRow.holds Try.pinned (OpenSpec.ofChange codecBoundsSpec)

/-- ITS FALSE NEIGHBOUR: 'it returns false'. Refute it at one input. -/
def codecBoundsWrong : ChangeSpec := { name := "codecBounds", fn := fun _ => fun
  | [d] => { results := [.lit (.bool false)], args := [d] }
  | _ => none }
def CodecBoundsWrongFalsely : Prop := codecBoundsRow.holds Try.pinned (OpenSpec.ofChange codecBoundsWrong)

/- THE SECOND FORM. 'bulk': how many values and letters a reading holds, each counted each time it is reached (what is shared counts as often as it is met; a slice's spare places count too). A statement '..UptoSaid' is the law's where the arguments, and the package variables that the reading takes, are together of bulk at most 1048576: NARROWER than '..Said'. Prove '..Said' where nothing that the law and all that it calls make is longer than what came in: it says more and counts as full. Else prove '..UptoSaid'. A law counts once. -/
mutual
def uptoBulk {H : Type} : DataW H → Nat
  | .lit (.string bytes) => bytes.length + 1
  | .lit _ => 1
  | .nil => 1
  | .ptr d => uptoBulk d + 1
  | .slice elems spare => uptoBulkAll elems + uptoBulkAll spare + 1
  | .agg parts => uptoBulkAll parts + 1
  | .iface _ d => uptoBulk d + 1
  | .map entries => uptoBulkEntries entries + 1
  | .held _ => 1
def uptoBulkAll {H : Type} : List (DataW H) → Nat
  | [] => 0
  | d :: r => uptoBulk d + uptoBulkAll r
def uptoBulkEntries {H : Type} : List (Lit × DataW H) → Nat
  | [] => 0
  | x :: r => uptoBulkEntry x + uptoBulkEntries r
def uptoBulkEntry {H : Type} : Lit × DataW H → Nat
  | (.string bytes, d) => bytes.length + uptoBulk d + 1
  | (_, d) => uptoBulk d + 1
 end
def uptoSmall : (H : Type) → List (DataW H) → Bool := fun _ ds => decide (uptoBulkAll ds ≤ 1048576)
def OpenSpec.upto (s : _root_.Go.ChangeSpec) : _root_.Go.OpenSpec := { _root_.Go.OpenSpec.ofChange s with cond := some uptoSmall }

/-- 'carapacelaw16.CodecTells', WHERE WHAT IT READS IS OF BULK AT MOST 1048576: true; the input reads as it did. -/
def codecTellsUptoRow : OpenClaim := { program := "yteocmeidkdhmiaa", sum := "3c9e04efe58e987149261ba7884efd914ee369c46a6e462ca2590f6a99e22c1e", func := "carapace/carapacelaw16.CodecTells", spec := "codecTells", unfollowed := true, recurses := true, apart := false, narrowed := true }
def CodecTellsUptoSaid : Prop := codecTellsUptoRow.holds Try.pinned (OpenSpec.upto codecTellsSpec)

/-- 'carapacelaw16.CodecBack', WHERE WHAT IT READS IS OF BULK AT MOST 1048576: true; the input reads as it did. -/
def codecBackUptoRow : OpenClaim := { program := "yteocmeidkdhmiaa", sum := "3c9e04efe58e987149261ba7884efd914ee369c46a6e462ca2590f6a99e22c1e", func := "carapace/carapacelaw16.CodecBack", spec := "codecBack", unfollowed := true, recurses := true, apart := false, narrowed := true }
def CodecBackUptoSaid : Prop := codecBackUptoRow.holds Try.pinned (OpenSpec.upto codecBackSpec)

/-- 'carapacelaw16.CodecBounds', WHERE WHAT IT READS IS OF BULK AT MOST 1048576: true; the input reads as it did. -/
def codecBoundsUptoRow : OpenClaim := { program := "yteocmeidkdhmiaa", sum := "3c9e04efe58e987149261ba7884efd914ee369c46a6e462ca2590f6a99e22c1e", func := "carapace/carapacelaw16.CodecBounds", spec := "codecBounds", unfollowed := true, recurses := true, apart := false, narrowed := true }
def CodecBoundsUptoSaid : Prop := codecBoundsUptoRow.holds Try.pinned (OpenSpec.upto codecBoundsSpec)

end Rows
end Go.Proofs.Yteocmeidkdhmiaa
