/-
  No cell of these rows narrows 'for every input' (looked for: loops, veiled, ifaces, maps, wideKeys, modest, calm, conditions, laid).
  DERIVED. THE GIVEN ROWS OF THIS SEAT. 12 by the template 'for every input the law returns true; each argument reads behind the call as it read before'; 0 by the template 'total and deterministic' (their statements: YtmibdlapjddfoaaTotals.lean).
  GIVEN WITH THE SEED: the statements are not yours to turn. If you find one false, say at which input.
  Laid BY PROGRAM, IN A SANDBOX (cutbox-rows.mjs): the forced cells as the released guide's own fill.sh prints them over the translation 7f16d9f49003c032… (all of the seat's roots in one cut). By AI agents, Wed Nov 11 2026. No macro, syntax, notation, axiom, sorry.
-/
import Derived.Test.YtmibdlapjddfoaaChecked
import GoSem.Claim
import GoSem.ClaimJoined
import GoSem.ClaimMapViews
import Derived.JoinedTies
import Derived.KernelRfl
namespace Go.Proofs.Ytmibdlapjddfoaa
/- THE CELL 'sum', in the pinned program and in every row, IS THE sha256 OF THE DUMP (.gsa) THAT YtmibdlapjddfoaaProg.lean LOADS. Nothing in Lean hashes anything: it is a label: what it is worth is what the hold of that sum in a sandbox is worth. -/
noncomputable def Try.pinned : Pinned := { name := "ytmibdlapjddfoaa", sum := "7f16d9f49003c0326ac0f8be033088429a607012729bb790d6a0b5a9fd2d5aa0", checked := Try.checked }
namespace Rows
def none {H : Type} : Left H := { results := [], args := [] }

/-- 'carapacelaw01.CrcSums': WHATEVER THE INPUT: true; the input reads as it did. -/
def crcSumsSpec : ChangeSpec := { name := "crcSums", fn := fun _ => fun
  | [d1, d2, d3] => { results := [.lit (.bool true)], args := [d1, d2, d3] }
  | _ => none }
def crcSumsRow : OpenClaim := { program := "ytmibdlapjddfoaa", sum := "7f16d9f49003c0326ac0f8be033088429a607012729bb790d6a0b5a9fd2d5aa0", func := "carapace/carapacelaw01.CrcSums", spec := "crcSums", apart := false }
def CrcSumsSaid : Prop := crcSumsRow.holds Try.pinned (OpenSpec.ofChange crcSumsSpec)

/-- ITS FALSE NEIGHBOUR: 'it returns false'. Refute it at one input. -/
def crcSumsWrong : ChangeSpec := { name := "crcSums", fn := fun _ => fun
  | [d1, d2, d3] => { results := [.lit (.bool false)], args := [d1, d2, d3] }
  | _ => none }
def CrcSumsWrongFalsely : Prop := crcSumsRow.holds Try.pinned (OpenSpec.ofChange crcSumsWrong)

/-- 'carapacelaw01.CrcParts': WHATEVER THE INPUT: true; the input reads as it did. -/
def crcPartsSpec : ChangeSpec := { name := "crcParts", fn := fun _ => fun
  | [d1, d2] => { results := [.lit (.bool true)], args := [d1, d2] }
  | _ => none }
def crcPartsRow : OpenClaim := { program := "ytmibdlapjddfoaa", sum := "7f16d9f49003c0326ac0f8be033088429a607012729bb790d6a0b5a9fd2d5aa0", func := "carapace/carapacelaw01.CrcParts", spec := "crcParts", apart := false }
def CrcPartsSaid : Prop := crcPartsRow.holds Try.pinned (OpenSpec.ofChange crcPartsSpec)

/-- ITS FALSE NEIGHBOUR: 'it returns false'. Refute it at one input. -/
def crcPartsWrong : ChangeSpec := { name := "crcParts", fn := fun _ => fun
  | [d1, d2] => { results := [.lit (.bool false)], args := [d1, d2] }
  | _ => none }
def CrcPartsWrongFalsely : Prop := crcPartsRow.holds Try.pinned (OpenSpec.ofChange crcPartsWrong)

/-- 'carapacelaw01.CrcBursts': WHATEVER THE INPUT: true; the input reads as it did. -/
def crcBurstsSpec : ChangeSpec := { name := "crcBursts", fn := fun _ => fun
  | [d1, d2, d3] => { results := [.lit (.bool true)], args := [d1, d2, d3] }
  | _ => none }
def crcBurstsRow : OpenClaim := { program := "ytmibdlapjddfoaa", sum := "7f16d9f49003c0326ac0f8be033088429a607012729bb790d6a0b5a9fd2d5aa0", func := "carapace/carapacelaw01.CrcBursts", spec := "crcBursts", apart := false }
def CrcBurstsSaid : Prop := crcBurstsRow.holds Try.pinned (OpenSpec.ofChange crcBurstsSpec)

/-- ITS FALSE NEIGHBOUR: 'it returns false'. Refute it at one input. -/
def crcBurstsWrong : ChangeSpec := { name := "crcBursts", fn := fun _ => fun
  | [d1, d2, d3] => { results := [.lit (.bool false)], args := [d1, d2, d3] }
  | _ => none }
def CrcBurstsWrongFalsely : Prop := crcBurstsRow.holds Try.pinned (OpenSpec.ofChange crcBurstsWrong)

/-- 'carapacelaw08.BcjTells': WHATEVER THE INPUT: true; the input reads as it did. -/
def bcjTellsSpec : ChangeSpec := { name := "bcjTells", fn := fun _ => fun
  | [d] => { results := [.lit (.bool true)], args := [d] }
  | _ => none }
def bcjTellsRow : OpenClaim := { program := "ytmibdlapjddfoaa", sum := "7f16d9f49003c0326ac0f8be033088429a607012729bb790d6a0b5a9fd2d5aa0", func := "carapace/carapacelaw08.BcjTells", spec := "bcjTells", unfollowed := true, recurses := true, apart := false }
def BcjTellsSaid : Prop := bcjTellsRow.holds Try.pinned (OpenSpec.ofChange bcjTellsSpec)

/-- ITS FALSE NEIGHBOUR: 'it returns false'. Refute it at one input. -/
def bcjTellsWrong : ChangeSpec := { name := "bcjTells", fn := fun _ => fun
  | [d] => { results := [.lit (.bool false)], args := [d] }
  | _ => none }
def BcjTellsWrongFalsely : Prop := bcjTellsRow.holds Try.pinned (OpenSpec.ofChange bcjTellsWrong)

/-- 'carapacelaw08.BcjBack': WHATEVER THE INPUT: true; the input reads as it did. -/
def bcjBackSpec : ChangeSpec := { name := "bcjBack", fn := fun _ => fun
  | [d] => { results := [.lit (.bool true)], args := [d] }
  | _ => none }
def bcjBackRow : OpenClaim := { program := "ytmibdlapjddfoaa", sum := "7f16d9f49003c0326ac0f8be033088429a607012729bb790d6a0b5a9fd2d5aa0", func := "carapace/carapacelaw08.BcjBack", spec := "bcjBack", unfollowed := true, recurses := true, apart := false }
def BcjBackSaid : Prop := bcjBackRow.holds Try.pinned (OpenSpec.ofChange bcjBackSpec)

/-- ITS FALSE NEIGHBOUR: 'it returns false'. Refute it at one input. -/
def bcjBackWrong : ChangeSpec := { name := "bcjBack", fn := fun _ => fun
  | [d] => { results := [.lit (.bool false)], args := [d] }
  | _ => none }
def BcjBackWrongFalsely : Prop := bcjBackRow.holds Try.pinned (OpenSpec.ofChange bcjBackWrong)

/-- 'carapacelaw08.BcjSame': WHATEVER THE INPUT: true; the input reads as it did. -/
def bcjSameSpec : ChangeSpec := { name := "bcjSame", fn := fun _ => fun
  | [d1, d2] => { results := [.lit (.bool true)], args := [d1, d2] }
  | _ => none }
def bcjSameRow : OpenClaim := { program := "ytmibdlapjddfoaa", sum := "7f16d9f49003c0326ac0f8be033088429a607012729bb790d6a0b5a9fd2d5aa0", func := "carapace/carapacelaw08.BcjSame", spec := "bcjSame", unfollowed := true, recurses := true, apart := false }
def BcjSameSaid : Prop := bcjSameRow.holds Try.pinned (OpenSpec.ofChange bcjSameSpec)

/-- ITS FALSE NEIGHBOUR: 'it returns false'. Refute it at one input. -/
def bcjSameWrong : ChangeSpec := { name := "bcjSame", fn := fun _ => fun
  | [d1, d2] => { results := [.lit (.bool false)], args := [d1, d2] }
  | _ => none }
def BcjSameWrongFalsely : Prop := bcjSameRow.holds Try.pinned (OpenSpec.ofChange bcjSameWrong)

/-- 'carapacelaw03.DeltaTells': WHATEVER THE INPUT: true; the input reads as it did. -/
def deltaTellsSpec : ChangeSpec := { name := "deltaTells", fn := fun _ => fun
  | [d1, d2] => { results := [.lit (.bool true)], args := [d1, d2] }
  | _ => none }
def deltaTellsRow : OpenClaim := { program := "ytmibdlapjddfoaa", sum := "7f16d9f49003c0326ac0f8be033088429a607012729bb790d6a0b5a9fd2d5aa0", func := "carapace/carapacelaw03.DeltaTells", spec := "deltaTells", unfollowed := true, recurses := true, apart := false }
def DeltaTellsSaid : Prop := deltaTellsRow.holds Try.pinned (OpenSpec.ofChange deltaTellsSpec)

/-- ITS FALSE NEIGHBOUR: 'it returns false'. Refute it at one input. -/
def deltaTellsWrong : ChangeSpec := { name := "deltaTells", fn := fun _ => fun
  | [d1, d2] => { results := [.lit (.bool false)], args := [d1, d2] }
  | _ => none }
def DeltaTellsWrongFalsely : Prop := deltaTellsRow.holds Try.pinned (OpenSpec.ofChange deltaTellsWrong)

/-- 'carapacelaw03.DeltaBack': WHATEVER THE INPUT: true; the input reads as it did. -/
def deltaBackSpec : ChangeSpec := { name := "deltaBack", fn := fun _ => fun
  | [d1, d2, d3] => { results := [.lit (.bool true)], args := [d1, d2, d3] }
  | _ => none }
def deltaBackRow : OpenClaim := { program := "ytmibdlapjddfoaa", sum := "7f16d9f49003c0326ac0f8be033088429a607012729bb790d6a0b5a9fd2d5aa0", func := "carapace/carapacelaw03.DeltaBack", spec := "deltaBack", unfollowed := true, recurses := true, apart := false }
def DeltaBackSaid : Prop := deltaBackRow.holds Try.pinned (OpenSpec.ofChange deltaBackSpec)

/-- ITS FALSE NEIGHBOUR: 'it returns false'. Refute it at one input. -/
def deltaBackWrong : ChangeSpec := { name := "deltaBack", fn := fun _ => fun
  | [d1, d2, d3] => { results := [.lit (.bool false)], args := [d1, d2, d3] }
  | _ => none }
def DeltaBackWrongFalsely : Prop := deltaBackRow.holds Try.pinned (OpenSpec.ofChange deltaBackWrong)

/-- 'carapacelaw03.DeltaAhead': WHATEVER THE INPUT: true; the input reads as it did. -/
def deltaAheadSpec : ChangeSpec := { name := "deltaAhead", fn := fun _ => fun
  | [d1, d2, d3] => { results := [.lit (.bool true)], args := [d1, d2, d3] }
  | _ => none }
def deltaAheadRow : OpenClaim := { program := "ytmibdlapjddfoaa", sum := "7f16d9f49003c0326ac0f8be033088429a607012729bb790d6a0b5a9fd2d5aa0", func := "carapace/carapacelaw03.DeltaAhead", spec := "deltaAhead", unfollowed := true, recurses := true, apart := false }
def DeltaAheadSaid : Prop := deltaAheadRow.holds Try.pinned (OpenSpec.ofChange deltaAheadSpec)

/-- ITS FALSE NEIGHBOUR: 'it returns false'. Refute it at one input. -/
def deltaAheadWrong : ChangeSpec := { name := "deltaAhead", fn := fun _ => fun
  | [d1, d2, d3] => { results := [.lit (.bool false)], args := [d1, d2, d3] }
  | _ => none }
def DeltaAheadWrongFalsely : Prop := deltaAheadRow.holds Try.pinned (OpenSpec.ofChange deltaAheadWrong)

/-- 'carapacelaw02.XteaTells': WHATEVER THE INPUT: true; the input reads as it did. -/
def xteaTellsSpec : ChangeSpec := { name := "xteaTells", fn := fun _ => fun
  | [d1, d2, d3] => { results := [.lit (.bool true)], args := [d1, d2, d3] }
  | _ => none }
def xteaTellsRow : OpenClaim := { program := "ytmibdlapjddfoaa", sum := "7f16d9f49003c0326ac0f8be033088429a607012729bb790d6a0b5a9fd2d5aa0", func := "carapace/carapacelaw02.XteaTells", spec := "xteaTells", apart := false }
def XteaTellsSaid : Prop := xteaTellsRow.holds Try.pinned (OpenSpec.ofChange xteaTellsSpec)

/-- ITS FALSE NEIGHBOUR: 'it returns false'. Refute it at one input. -/
def xteaTellsWrong : ChangeSpec := { name := "xteaTells", fn := fun _ => fun
  | [d1, d2, d3] => { results := [.lit (.bool false)], args := [d1, d2, d3] }
  | _ => none }
def XteaTellsWrongFalsely : Prop := xteaTellsRow.holds Try.pinned (OpenSpec.ofChange xteaTellsWrong)

/-- 'carapacelaw02.XteaBack': WHATEVER THE INPUT: true; the input reads as it did. -/
def xteaBackSpec : ChangeSpec := { name := "xteaBack", fn := fun _ => fun
  | [d1, d2, d3] => { results := [.lit (.bool true)], args := [d1, d2, d3] }
  | _ => none }
def xteaBackRow : OpenClaim := { program := "ytmibdlapjddfoaa", sum := "7f16d9f49003c0326ac0f8be033088429a607012729bb790d6a0b5a9fd2d5aa0", func := "carapace/carapacelaw02.XteaBack", spec := "xteaBack", apart := false }
def XteaBackSaid : Prop := xteaBackRow.holds Try.pinned (OpenSpec.ofChange xteaBackSpec)

/-- ITS FALSE NEIGHBOUR: 'it returns false'. Refute it at one input. -/
def xteaBackWrong : ChangeSpec := { name := "xteaBack", fn := fun _ => fun
  | [d1, d2, d3] => { results := [.lit (.bool false)], args := [d1, d2, d3] }
  | _ => none }
def XteaBackWrongFalsely : Prop := xteaBackRow.holds Try.pinned (OpenSpec.ofChange xteaBackWrong)

/-- 'carapacelaw02.XteaNonce': WHATEVER THE INPUT: true; the input reads as it did. -/
def xteaNonceSpec : ChangeSpec := { name := "xteaNonce", fn := fun _ => fun
  | [d1, d2, d3] => { results := [.lit (.bool true)], args := [d1, d2, d3] }
  | _ => none }
def xteaNonceRow : OpenClaim := { program := "ytmibdlapjddfoaa", sum := "7f16d9f49003c0326ac0f8be033088429a607012729bb790d6a0b5a9fd2d5aa0", func := "carapace/carapacelaw02.XteaNonce", spec := "xteaNonce", apart := false }
def XteaNonceSaid : Prop := xteaNonceRow.holds Try.pinned (OpenSpec.ofChange xteaNonceSpec)

/-- ITS FALSE NEIGHBOUR: 'it returns false'. Refute it at one input. -/
def xteaNonceWrong : ChangeSpec := { name := "xteaNonce", fn := fun _ => fun
  | [d1, d2, d3] => { results := [.lit (.bool false)], args := [d1, d2, d3] }
  | _ => none }
def XteaNonceWrongFalsely : Prop := xteaNonceRow.holds Try.pinned (OpenSpec.ofChange xteaNonceWrong)

/- THE SECOND FORM. 'bulk': how many values and letters a reading holds, each counted each time it is reached (what is shared counts as often as it is met; a slice's spare places count too). A statement '..UptoSaid' is the law's where the arguments, and the package variables that the reading takes, are together of bulk at most 1048576: NARROWER than '..Said'. Prove '..Said' where nothing that the law and all that it calls make is longer than what came in: it says more and counts as full. Else prove '..UptoSaid'. A law counts once. -/
mutual
def uptoBulk {H : Type} : DataW H → Nat
  | .lit (.string bytes) => bytes.length + 1
  | .lit _ => 1
  | .nil => 1
  | .ptr d => uptoBulk d + 1
  | .slice elems spare => uptoBulkAll elems + uptoBulkAll spare + 1
  | .agg parts => uptoBulkAll parts + 1
  | .iface _ d => uptoBulk d + 1
  | .map entries => uptoBulkEntries entries + 1
  | .held _ => 1
def uptoBulkAll {H : Type} : List (DataW H) → Nat
  | [] => 0
  | d :: r => uptoBulk d + uptoBulkAll r
def uptoBulkEntries {H : Type} : List (Lit × DataW H) → Nat
  | [] => 0
  | x :: r => uptoBulkEntry x + uptoBulkEntries r
def uptoBulkEntry {H : Type} : Lit × DataW H → Nat
  | (.string bytes, d) => bytes.length + uptoBulk d + 1
  | (_, d) => uptoBulk d + 1
 end
def uptoSmall : (H : Type) → List (DataW H) → Bool := fun _ ds => decide (uptoBulkAll ds ≤ 1048576)
def OpenSpec.upto (s : _root_.Go.ChangeSpec) : _root_.Go.OpenSpec := { _root_.Go.OpenSpec.ofChange s with cond := some uptoSmall }

/-- 'carapacelaw01.CrcSums', WHERE WHAT IT READS IS OF BULK AT MOST 1048576: true; the input reads as it did. -/
def crcSumsUptoRow : OpenClaim := { program := "ytmibdlapjddfoaa", sum := "7f16d9f49003c0326ac0f8be033088429a607012729bb790d6a0b5a9fd2d5aa0", func := "carapace/carapacelaw01.CrcSums", spec := "crcSums", apart := false, narrowed := true }
def CrcSumsUptoSaid : Prop := crcSumsUptoRow.holds Try.pinned (OpenSpec.upto crcSumsSpec)

/-- 'carapacelaw01.CrcParts', WHERE WHAT IT READS IS OF BULK AT MOST 1048576: true; the input reads as it did. -/
def crcPartsUptoRow : OpenClaim := { program := "ytmibdlapjddfoaa", sum := "7f16d9f49003c0326ac0f8be033088429a607012729bb790d6a0b5a9fd2d5aa0", func := "carapace/carapacelaw01.CrcParts", spec := "crcParts", apart := false, narrowed := true }
def CrcPartsUptoSaid : Prop := crcPartsUptoRow.holds Try.pinned (OpenSpec.upto crcPartsSpec)

/-- 'carapacelaw01.CrcBursts', WHERE WHAT IT READS IS OF BULK AT MOST 1048576: true; the input reads as it did. -/
def crcBurstsUptoRow : OpenClaim := { program := "ytmibdlapjddfoaa", sum := "7f16d9f49003c0326ac0f8be033088429a607012729bb790d6a0b5a9fd2d5aa0", func := "carapace/carapacelaw01.CrcBursts", spec := "crcBursts", apart := false, narrowed := true }
def CrcBurstsUptoSaid : Prop := crcBurstsUptoRow.holds Try.pinned (OpenSpec.upto crcBurstsSpec)

/-- 'carapacelaw08.BcjTells', WHERE WHAT IT READS IS OF BULK AT MOST 1048576: true; the input reads as it did. -/
def bcjTellsUptoRow : OpenClaim := { program := "ytmibdlapjddfoaa", sum := "7f16d9f49003c0326ac0f8be033088429a607012729bb790d6a0b5a9fd2d5aa0", func := "carapace/carapacelaw08.BcjTells", spec := "bcjTells", unfollowed := true, recurses := true, apart := false, narrowed := true }
def BcjTellsUptoSaid : Prop := bcjTellsUptoRow.holds Try.pinned (OpenSpec.upto bcjTellsSpec)

/-- 'carapacelaw08.BcjBack', WHERE WHAT IT READS IS OF BULK AT MOST 1048576: true; the input reads as it did. -/
def bcjBackUptoRow : OpenClaim := { program := "ytmibdlapjddfoaa", sum := "7f16d9f49003c0326ac0f8be033088429a607012729bb790d6a0b5a9fd2d5aa0", func := "carapace/carapacelaw08.BcjBack", spec := "bcjBack", unfollowed := true, recurses := true, apart := false, narrowed := true }
def BcjBackUptoSaid : Prop := bcjBackUptoRow.holds Try.pinned (OpenSpec.upto bcjBackSpec)

/-- 'carapacelaw08.BcjSame', WHERE WHAT IT READS IS OF BULK AT MOST 1048576: true; the input reads as it did. -/
def bcjSameUptoRow : OpenClaim := { program := "ytmibdlapjddfoaa", sum := "7f16d9f49003c0326ac0f8be033088429a607012729bb790d6a0b5a9fd2d5aa0", func := "carapace/carapacelaw08.BcjSame", spec := "bcjSame", unfollowed := true, recurses := true, apart := false, narrowed := true }
def BcjSameUptoSaid : Prop := bcjSameUptoRow.holds Try.pinned (OpenSpec.upto bcjSameSpec)

/-- 'carapacelaw03.DeltaTells', WHERE WHAT IT READS IS OF BULK AT MOST 1048576: true; the input reads as it did. -/
def deltaTellsUptoRow : OpenClaim := { program := "ytmibdlapjddfoaa", sum := "7f16d9f49003c0326ac0f8be033088429a607012729bb790d6a0b5a9fd2d5aa0", func := "carapace/carapacelaw03.DeltaTells", spec := "deltaTells", unfollowed := true, recurses := true, apart := false, narrowed := true }
def DeltaTellsUptoSaid : Prop := deltaTellsUptoRow.holds Try.pinned (OpenSpec.upto deltaTellsSpec)

/-- 'carapacelaw03.DeltaBack', WHERE WHAT IT READS IS OF BULK AT MOST 1048576: true; the input reads as it did. -/
def deltaBackUptoRow : OpenClaim := { program := "ytmibdlapjddfoaa", sum := "7f16d9f49003c0326ac0f8be033088429a607012729bb790d6a0b5a9fd2d5aa0", func := "carapace/carapacelaw03.DeltaBack", spec := "deltaBack", unfollowed := true, recurses := true, apart := false, narrowed := true }
def DeltaBackUptoSaid : Prop := deltaBackUptoRow.holds Try.pinned (OpenSpec.upto deltaBackSpec)

/-- 'carapacelaw03.DeltaAhead', WHERE WHAT IT READS IS OF BULK AT MOST 1048576: true; the input reads as it did. -/
def deltaAheadUptoRow : OpenClaim := { program := "ytmibdlapjddfoaa", sum := "7f16d9f49003c0326ac0f8be033088429a607012729bb790d6a0b5a9fd2d5aa0", func := "carapace/carapacelaw03.DeltaAhead", spec := "deltaAhead", unfollowed := true, recurses := true, apart := false, narrowed := true }
def DeltaAheadUptoSaid : Prop := deltaAheadUptoRow.holds Try.pinned (OpenSpec.upto deltaAheadSpec)

/-- 'carapacelaw02.XteaTells', WHERE WHAT IT READS IS OF BULK AT MOST 1048576: true; the input reads as it did. -/
def xteaTellsUptoRow : OpenClaim := { program := "ytmibdlapjddfoaa", sum := "7f16d9f49003c0326ac0f8be033088429a607012729bb790d6a0b5a9fd2d5aa0", func := "carapace/carapacelaw02.XteaTells", spec := "xteaTells", apart := false, narrowed := true }
def XteaTellsUptoSaid : Prop := xteaTellsUptoRow.holds Try.pinned (OpenSpec.upto xteaTellsSpec)

/-- 'carapacelaw02.XteaBack', WHERE WHAT IT READS IS OF BULK AT MOST 1048576: true; the input reads as it did. -/
def xteaBackUptoRow : OpenClaim := { program := "ytmibdlapjddfoaa", sum := "7f16d9f49003c0326ac0f8be033088429a607012729bb790d6a0b5a9fd2d5aa0", func := "carapace/carapacelaw02.XteaBack", spec := "xteaBack", apart := false, narrowed := true }
def XteaBackUptoSaid : Prop := xteaBackUptoRow.holds Try.pinned (OpenSpec.upto xteaBackSpec)

/-- 'carapacelaw02.XteaNonce', WHERE WHAT IT READS IS OF BULK AT MOST 1048576: true; the input reads as it did. -/
def xteaNonceUptoRow : OpenClaim := { program := "ytmibdlapjddfoaa", sum := "7f16d9f49003c0326ac0f8be033088429a607012729bb790d6a0b5a9fd2d5aa0", func := "carapace/carapacelaw02.XteaNonce", spec := "xteaNonce", apart := false, narrowed := true }
def XteaNonceUptoSaid : Prop := xteaNonceUptoRow.holds Try.pinned (OpenSpec.upto xteaNonceSpec)

end Rows
end Go.Proofs.Ytmibdlapjddfoaa
