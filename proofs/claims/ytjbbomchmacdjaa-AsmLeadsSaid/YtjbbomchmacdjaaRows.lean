/-
  No cell of these rows narrows 'for every input' (looked for: loops, veiled, ifaces, maps, wideKeys, modest, calm, conditions, laid).
  DERIVED. THE GIVEN ROWS OF THIS SEAT. 10 by the template 'for every input the law returns true; each argument reads behind the call as it read before'; 0 by the template 'total and deterministic' (their statements: YtjbbomchmacdjaaTotals.lean).
  GIVEN WITH THE SEED: the statements are not yours to turn. If you find one false, say at which input.
  Laid BY PROGRAM, IN A SANDBOX (cutbox-rows.mjs): the forced cells as the released guide's own fill.sh prints them over the translation d7f6435bc5b5fb9f… (all of the seat's roots in one cut). By AI agents, Wed Nov 11 2026. No macro, syntax, notation, axiom, sorry.
-/
import Derived.Test.YtjbbomchmacdjaaChecked
import GoSem.Claim
import GoSem.ClaimJoined
import GoSem.ClaimMapViews
import Derived.JoinedTies
import Derived.KernelRfl
namespace Go.Proofs.Ytjbbomchmacdjaa
/- THE CELL 'sum', in the pinned program and in every row, IS THE sha256 OF THE DUMP (.gsa) THAT YtjbbomchmacdjaaProg.lean LOADS. Nothing in Lean hashes anything: it is a label: what it is worth is what the hold of that sum in a sandbox is worth. -/
noncomputable def Try.pinned : Pinned := { name := "ytjbbomchmacdjaa", sum := "d7f6435bc5b5fb9f5d58a5772d3429c1e0acd3324cc4086f1b7731ba364dbfbe", checked := Try.checked }
namespace Rows
def none {H : Type} : Left H := { results := [], args := [] }

/-- 'carapacelaw05.RcTells': WHATEVER THE INPUT: true; the input reads as it did. -/
def rcTellsSpec : ChangeSpec := { name := "rcTells", fn := fun _ => fun
  | [d1, d2, d3] => { results := [.lit (.bool true)], args := [d1, d2, d3] }
  | _ => none }
def rcTellsRow : OpenClaim := { program := "ytjbbomchmacdjaa", sum := "d7f6435bc5b5fb9f5d58a5772d3429c1e0acd3324cc4086f1b7731ba364dbfbe", func := "carapace/carapacelaw05.RcTells", spec := "rcTells", unfollowed := true, recurses := true, apart := false }
def RcTellsSaid : Prop := rcTellsRow.holds Try.pinned (OpenSpec.ofChange rcTellsSpec)

/-- ITS FALSE NEIGHBOUR: 'it returns false'. Refute it at one input. -/
def rcTellsWrong : ChangeSpec := { name := "rcTells", fn := fun _ => fun
  | [d1, d2, d3] => { results := [.lit (.bool false)], args := [d1, d2, d3] }
  | _ => none }
def RcTellsWrongFalsely : Prop := rcTellsRow.holds Try.pinned (OpenSpec.ofChange rcTellsWrong)

/-- 'carapacelaw05.RcBack': WHATEVER THE INPUT: true; the input reads as it did. -/
def rcBackSpec : ChangeSpec := { name := "rcBack", fn := fun _ => fun
  | [d1, d2, d3] => { results := [.lit (.bool true)], args := [d1, d2, d3] }
  | _ => none }
def rcBackRow : OpenClaim := { program := "ytjbbomchmacdjaa", sum := "d7f6435bc5b5fb9f5d58a5772d3429c1e0acd3324cc4086f1b7731ba364dbfbe", func := "carapace/carapacelaw05.RcBack", spec := "rcBack", unfollowed := true, recurses := true, apart := false }
def RcBackSaid : Prop := rcBackRow.holds Try.pinned (OpenSpec.ofChange rcBackSpec)

/-- ITS FALSE NEIGHBOUR: 'it returns false'. Refute it at one input. -/
def rcBackWrong : ChangeSpec := { name := "rcBack", fn := fun _ => fun
  | [d1, d2, d3] => { results := [.lit (.bool false)], args := [d1, d2, d3] }
  | _ => none }
def RcBackWrongFalsely : Prop := rcBackRow.holds Try.pinned (OpenSpec.ofChange rcBackWrong)

/-- 'carapacelaw05.RcLearns': WHATEVER THE INPUT: true; the input reads as it did. -/
def rcLearnsSpec : ChangeSpec := { name := "rcLearns", fn := fun _ => fun
  | [d1, d2] => { results := [.lit (.bool true)], args := [d1, d2] }
  | _ => none }
def rcLearnsRow : OpenClaim := { program := "ytjbbomchmacdjaa", sum := "d7f6435bc5b5fb9f5d58a5772d3429c1e0acd3324cc4086f1b7731ba364dbfbe", func := "carapace/carapacelaw05.RcLearns", spec := "rcLearns", unfollowed := true, recurses := true, apart := false }
def RcLearnsSaid : Prop := rcLearnsRow.holds Try.pinned (OpenSpec.ofChange rcLearnsSpec)

/-- ITS FALSE NEIGHBOUR: 'it returns false'. Refute it at one input. -/
def rcLearnsWrong : ChangeSpec := { name := "rcLearns", fn := fun _ => fun
  | [d1, d2] => { results := [.lit (.bool false)], args := [d1, d2] }
  | _ => none }
def RcLearnsWrongFalsely : Prop := rcLearnsRow.holds Try.pinned (OpenSpec.ofChange rcLearnsWrong)

/-- 'carapacelaw14.LinkTells': WHATEVER THE INPUT: true; the input reads as it did. -/
def linkTellsSpec : ChangeSpec := { name := "linkTells", fn := fun _ => fun
  | [d1, d2, d3] => { results := [.lit (.bool true)], args := [d1, d2, d3] }
  | _ => none }
def linkTellsRow : OpenClaim := { program := "ytjbbomchmacdjaa", sum := "d7f6435bc5b5fb9f5d58a5772d3429c1e0acd3324cc4086f1b7731ba364dbfbe", func := "carapace/carapacelaw14.LinkTells", spec := "linkTells", inPlace := ["internal/bytealg.IndexByteString"], unfollowed := true, recurses := true, apart := false }
def LinkTellsSaid : Prop := linkTellsRow.holds Try.pinned (OpenSpec.ofChange linkTellsSpec)

/-- ITS FALSE NEIGHBOUR: 'it returns false'. Refute it at one input. -/
def linkTellsWrong : ChangeSpec := { name := "linkTells", fn := fun _ => fun
  | [d1, d2, d3] => { results := [.lit (.bool false)], args := [d1, d2, d3] }
  | _ => none }
def LinkTellsWrongFalsely : Prop := linkTellsRow.holds Try.pinned (OpenSpec.ofChange linkTellsWrong)

/-- 'carapacelaw14.LinkElsewhere': WHATEVER THE INPUT: true; the input reads as it did. -/
def linkElsewhereSpec : ChangeSpec := { name := "linkElsewhere", fn := fun _ => fun
  | [d1, d2, d3] => { results := [.lit (.bool true)], args := [d1, d2, d3] }
  | _ => none }
def linkElsewhereRow : OpenClaim := { program := "ytjbbomchmacdjaa", sum := "d7f6435bc5b5fb9f5d58a5772d3429c1e0acd3324cc4086f1b7731ba364dbfbe", func := "carapace/carapacelaw14.LinkElsewhere", spec := "linkElsewhere", inPlace := ["internal/bytealg.IndexByteString"], unfollowed := true, recurses := true, apart := false }
def LinkElsewhereSaid : Prop := linkElsewhereRow.holds Try.pinned (OpenSpec.ofChange linkElsewhereSpec)

/-- ITS FALSE NEIGHBOUR: 'it returns false'. Refute it at one input. -/
def linkElsewhereWrong : ChangeSpec := { name := "linkElsewhere", fn := fun _ => fun
  | [d1, d2, d3] => { results := [.lit (.bool false)], args := [d1, d2, d3] }
  | _ => none }
def LinkElsewhereWrongFalsely : Prop := linkElsewhereRow.holds Try.pinned (OpenSpec.ofChange linkElsewhereWrong)

/-- 'carapacelaw12.AsmTells': WHATEVER THE INPUT: true; the input reads as it did. -/
def asmTellsSpec : ChangeSpec := { name := "asmTells", fn := fun _ => fun
  | [d1, d2] => { results := [.lit (.bool true)], args := [d1, d2] }
  | _ => none }
def asmTellsRow : OpenClaim := { program := "ytjbbomchmacdjaa", sum := "d7f6435bc5b5fb9f5d58a5772d3429c1e0acd3324cc4086f1b7731ba364dbfbe", func := "carapace/carapacelaw12.AsmTells", spec := "asmTells", inPlace := ["internal/bytealg.IndexByteString"], unfollowed := true, recurses := true, apart := false }
def AsmTellsSaid : Prop := asmTellsRow.holds Try.pinned (OpenSpec.ofChange asmTellsSpec)

/-- ITS FALSE NEIGHBOUR: 'it returns false'. Refute it at one input. -/
def asmTellsWrong : ChangeSpec := { name := "asmTells", fn := fun _ => fun
  | [d1, d2] => { results := [.lit (.bool false)], args := [d1, d2] }
  | _ => none }
def AsmTellsWrongFalsely : Prop := asmTellsRow.holds Try.pinned (OpenSpec.ofChange asmTellsWrong)

/-- 'carapacelaw12.AsmAhead': WHATEVER THE INPUT: true; the input reads as it did. -/
def asmAheadSpec : ChangeSpec := { name := "asmAhead", fn := fun _ => fun
  | [d1, d2] => { results := [.lit (.bool true)], args := [d1, d2] }
  | _ => none }
def asmAheadRow : OpenClaim := { program := "ytjbbomchmacdjaa", sum := "d7f6435bc5b5fb9f5d58a5772d3429c1e0acd3324cc4086f1b7731ba364dbfbe", func := "carapace/carapacelaw12.AsmAhead", spec := "asmAhead", inPlace := ["internal/bytealg.IndexByteString"], unfollowed := true, recurses := true, apart := false }
def AsmAheadSaid : Prop := asmAheadRow.holds Try.pinned (OpenSpec.ofChange asmAheadSpec)

/-- ITS FALSE NEIGHBOUR: 'it returns false'. Refute it at one input. -/
def asmAheadWrong : ChangeSpec := { name := "asmAhead", fn := fun _ => fun
  | [d1, d2] => { results := [.lit (.bool false)], args := [d1, d2] }
  | _ => none }
def AsmAheadWrongFalsely : Prop := asmAheadRow.holds Try.pinned (OpenSpec.ofChange asmAheadWrong)

/-- 'carapacelaw12.AsmSame': WHATEVER THE INPUT: true; the input reads as it did. -/
def asmSameSpec : ChangeSpec := { name := "asmSame", fn := fun _ => fun
  | [d1, d2] => { results := [.lit (.bool true)], args := [d1, d2] }
  | _ => none }
def asmSameRow : OpenClaim := { program := "ytjbbomchmacdjaa", sum := "d7f6435bc5b5fb9f5d58a5772d3429c1e0acd3324cc4086f1b7731ba364dbfbe", func := "carapace/carapacelaw12.AsmSame", spec := "asmSame", inPlace := ["internal/bytealg.IndexByteString"], unfollowed := true, recurses := true, apart := false }
def AsmSameSaid : Prop := asmSameRow.holds Try.pinned (OpenSpec.ofChange asmSameSpec)

/-- ITS FALSE NEIGHBOUR: 'it returns false'. Refute it at one input. -/
def asmSameWrong : ChangeSpec := { name := "asmSame", fn := fun _ => fun
  | [d1, d2] => { results := [.lit (.bool false)], args := [d1, d2] }
  | _ => none }
def AsmSameWrongFalsely : Prop := asmSameRow.holds Try.pinned (OpenSpec.ofChange asmSameWrong)

/-- 'carapacelaw14.LinkParts': WHATEVER THE INPUT: true; the input reads as it did. -/
def linkPartsSpec : ChangeSpec := { name := "linkParts", fn := fun _ => fun
  | [d1, d2] => { results := [.lit (.bool true)], args := [d1, d2] }
  | _ => none }
def linkPartsRow : OpenClaim := { program := "ytjbbomchmacdjaa", sum := "d7f6435bc5b5fb9f5d58a5772d3429c1e0acd3324cc4086f1b7731ba364dbfbe", func := "carapace/carapacelaw14.LinkParts", spec := "linkParts", inPlace := ["internal/bytealg.IndexByteString"], unfollowed := true, recurses := true, apart := false }
def LinkPartsSaid : Prop := linkPartsRow.holds Try.pinned (OpenSpec.ofChange linkPartsSpec)

/-- ITS FALSE NEIGHBOUR: 'it returns false'. Refute it at one input. -/
def linkPartsWrong : ChangeSpec := { name := "linkParts", fn := fun _ => fun
  | [d1, d2] => { results := [.lit (.bool false)], args := [d1, d2] }
  | _ => none }
def LinkPartsWrongFalsely : Prop := linkPartsRow.holds Try.pinned (OpenSpec.ofChange linkPartsWrong)

/-- 'carapacelaw12.AsmLeads': WHATEVER THE INPUT: true; the input reads as it did. -/
def asmLeadsSpec : ChangeSpec := { name := "asmLeads", fn := fun _ => fun
  | [d] => { results := [.lit (.bool true)], args := [d] }
  | _ => none }
def asmLeadsRow : OpenClaim := { program := "ytjbbomchmacdjaa", sum := "d7f6435bc5b5fb9f5d58a5772d3429c1e0acd3324cc4086f1b7731ba364dbfbe", func := "carapace/carapacelaw12.AsmLeads", spec := "asmLeads", inPlace := ["internal/bytealg.IndexByteString"], unfollowed := true, recurses := true, apart := false }
def AsmLeadsSaid : Prop := asmLeadsRow.holds Try.pinned (OpenSpec.ofChange asmLeadsSpec)

/-- ITS FALSE NEIGHBOUR: 'it returns false'. Refute it at one input. -/
def asmLeadsWrong : ChangeSpec := { name := "asmLeads", fn := fun _ => fun
  | [d] => { results := [.lit (.bool false)], args := [d] }
  | _ => none }
def AsmLeadsWrongFalsely : Prop := asmLeadsRow.holds Try.pinned (OpenSpec.ofChange asmLeadsWrong)

/- THE SECOND FORM. 'bulk': how many values and letters a reading holds, each counted each time it is reached (what is shared counts as often as it is met; a slice's spare places count too). A statement '..UptoSaid' is the law's where the arguments, and the package variables that the reading takes, are together of bulk at most 1048576: NARROWER than '..Said'. Prove '..Said' where nothing that the law and all that it calls make is longer than what came in: it says more and counts as full. Else prove '..UptoSaid'. A law counts once. -/
mutual
def uptoBulk {H : Type} : DataW H → Nat
  | .lit (.string bytes) => bytes.length + 1
  | .lit _ => 1
  | .nil => 1
  | .ptr d => uptoBulk d + 1
  | .slice elems spare => uptoBulkAll elems + uptoBulkAll spare + 1
  | .agg parts => uptoBulkAll parts + 1
  | .iface _ d => uptoBulk d + 1
  | .map entries => uptoBulkEntries entries + 1
  | .held _ => 1
def uptoBulkAll {H : Type} : List (DataW H) → Nat
  | [] => 0
  | d :: r => uptoBulk d + uptoBulkAll r
def uptoBulkEntries {H : Type} : List (Lit × DataW H) → Nat
  | [] => 0
  | x :: r => uptoBulkEntry x + uptoBulkEntries r
def uptoBulkEntry {H : Type} : Lit × DataW H → Nat
  | (.string bytes, d) => bytes.length + uptoBulk d + 1
  | (_, d) => uptoBulk d + 1
 end
def uptoSmall : (H : Type) → List (DataW H) → Bool := fun _ ds => decide (uptoBulkAll ds ≤ 1048576)
def OpenSpec.upto (s : _root_.Go.ChangeSpec) : _root_.Go.OpenSpec := { _root_.Go.OpenSpec.ofChange s with cond := some uptoSmall }

/-- 'carapacelaw05.RcTells', WHERE WHAT IT READS IS OF BULK AT MOST 1048576: true; the input reads as it did. -/
def rcTellsUptoRow : OpenClaim := { program := "ytjbbomchmacdjaa", sum := "d7f6435bc5b5fb9f5d58a5772d3429c1e0acd3324cc4086f1b7731ba364dbfbe", func := "carapace/carapacelaw05.RcTells", spec := "rcTells", unfollowed := true, recurses := true, apart := false, narrowed := true }
def RcTellsUptoSaid : Prop := rcTellsUptoRow.holds Try.pinned (OpenSpec.upto rcTellsSpec)

/-- 'carapacelaw05.RcBack', WHERE WHAT IT READS IS OF BULK AT MOST 1048576: true; the input reads as it did. -/
def rcBackUptoRow : OpenClaim := { program := "ytjbbomchmacdjaa", sum := "d7f6435bc5b5fb9f5d58a5772d3429c1e0acd3324cc4086f1b7731ba364dbfbe", func := "carapace/carapacelaw05.RcBack", spec := "rcBack", unfollowed := true, recurses := true, apart := false, narrowed := true }
def RcBackUptoSaid : Prop := rcBackUptoRow.holds Try.pinned (OpenSpec.upto rcBackSpec)

/-- 'carapacelaw05.RcLearns', WHERE WHAT IT READS IS OF BULK AT MOST 1048576: true; the input reads as it did. -/
def rcLearnsUptoRow : OpenClaim := { program := "ytjbbomchmacdjaa", sum := "d7f6435bc5b5fb9f5d58a5772d3429c1e0acd3324cc4086f1b7731ba364dbfbe", func := "carapace/carapacelaw05.RcLearns", spec := "rcLearns", unfollowed := true, recurses := true, apart := false, narrowed := true }
def RcLearnsUptoSaid : Prop := rcLearnsUptoRow.holds Try.pinned (OpenSpec.upto rcLearnsSpec)

/-- 'carapacelaw14.LinkTells', WHERE WHAT IT READS IS OF BULK AT MOST 1048576: true; the input reads as it did. -/
def linkTellsUptoRow : OpenClaim := { program := "ytjbbomchmacdjaa", sum := "d7f6435bc5b5fb9f5d58a5772d3429c1e0acd3324cc4086f1b7731ba364dbfbe", func := "carapace/carapacelaw14.LinkTells", spec := "linkTells", inPlace := ["internal/bytealg.IndexByteString"], unfollowed := true, recurses := true, apart := false, narrowed := true }
def LinkTellsUptoSaid : Prop := linkTellsUptoRow.holds Try.pinned (OpenSpec.upto linkTellsSpec)

/-- 'carapacelaw14.LinkElsewhere', WHERE WHAT IT READS IS OF BULK AT MOST 1048576: true; the input reads as it did. -/
def linkElsewhereUptoRow : OpenClaim := { program := "ytjbbomchmacdjaa", sum := "d7f6435bc5b5fb9f5d58a5772d3429c1e0acd3324cc4086f1b7731ba364dbfbe", func := "carapace/carapacelaw14.LinkElsewhere", spec := "linkElsewhere", inPlace := ["internal/bytealg.IndexByteString"], unfollowed := true, recurses := true, apart := false, narrowed := true }
def LinkElsewhereUptoSaid : Prop := linkElsewhereUptoRow.holds Try.pinned (OpenSpec.upto linkElsewhereSpec)

/-- 'carapacelaw12.AsmTells', WHERE WHAT IT READS IS OF BULK AT MOST 1048576: true; the input reads as it did. -/
def asmTellsUptoRow : OpenClaim := { program := "ytjbbomchmacdjaa", sum := "d7f6435bc5b5fb9f5d58a5772d3429c1e0acd3324cc4086f1b7731ba364dbfbe", func := "carapace/carapacelaw12.AsmTells", spec := "asmTells", inPlace := ["internal/bytealg.IndexByteString"], unfollowed := true, recurses := true, apart := false, narrowed := true }
def AsmTellsUptoSaid : Prop := asmTellsUptoRow.holds Try.pinned (OpenSpec.upto asmTellsSpec)

/-- 'carapacelaw12.AsmAhead', WHERE WHAT IT READS IS OF BULK AT MOST 1048576: true; the input reads as it did. -/
def asmAheadUptoRow : OpenClaim := { program := "ytjbbomchmacdjaa", sum := "d7f6435bc5b5fb9f5d58a5772d3429c1e0acd3324cc4086f1b7731ba364dbfbe", func := "carapace/carapacelaw12.AsmAhead", spec := "asmAhead", inPlace := ["internal/bytealg.IndexByteString"], unfollowed := true, recurses := true, apart := false, narrowed := true }
def AsmAheadUptoSaid : Prop := asmAheadUptoRow.holds Try.pinned (OpenSpec.upto asmAheadSpec)

/-- 'carapacelaw12.AsmSame', WHERE WHAT IT READS IS OF BULK AT MOST 1048576: true; the input reads as it did. -/
def asmSameUptoRow : OpenClaim := { program := "ytjbbomchmacdjaa", sum := "d7f6435bc5b5fb9f5d58a5772d3429c1e0acd3324cc4086f1b7731ba364dbfbe", func := "carapace/carapacelaw12.AsmSame", spec := "asmSame", inPlace := ["internal/bytealg.IndexByteString"], unfollowed := true, recurses := true, apart := false, narrowed := true }
def AsmSameUptoSaid : Prop := asmSameUptoRow.holds Try.pinned (OpenSpec.upto asmSameSpec)

/-- 'carapacelaw14.LinkParts', WHERE WHAT IT READS IS OF BULK AT MOST 1048576: true; the input reads as it did. -/
def linkPartsUptoRow : OpenClaim := { program := "ytjbbomchmacdjaa", sum := "d7f6435bc5b5fb9f5d58a5772d3429c1e0acd3324cc4086f1b7731ba364dbfbe", func := "carapace/carapacelaw14.LinkParts", spec := "linkParts", inPlace := ["internal/bytealg.IndexByteString"], unfollowed := true, recurses := true, apart := false, narrowed := true }
def LinkPartsUptoSaid : Prop := linkPartsUptoRow.holds Try.pinned (OpenSpec.upto linkPartsSpec)

/-- 'carapacelaw12.AsmLeads', WHERE WHAT IT READS IS OF BULK AT MOST 1048576: true; the input reads as it did. -/
def asmLeadsUptoRow : OpenClaim := { program := "ytjbbomchmacdjaa", sum := "d7f6435bc5b5fb9f5d58a5772d3429c1e0acd3324cc4086f1b7731ba364dbfbe", func := "carapace/carapacelaw12.AsmLeads", spec := "asmLeads", inPlace := ["internal/bytealg.IndexByteString"], unfollowed := true, recurses := true, apart := false, narrowed := true }
def AsmLeadsUptoSaid : Prop := asmLeadsUptoRow.holds Try.pinned (OpenSpec.upto asmLeadsSpec)

end Rows
end Go.Proofs.Ytjbbomchmacdjaa
