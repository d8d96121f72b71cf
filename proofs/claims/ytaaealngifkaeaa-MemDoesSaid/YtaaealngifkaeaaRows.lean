/-
  No cell of these rows narrows 'for every input' (looked for: loops, veiled, ifaces, maps, wideKeys, modest, calm, conditions, laid).
  DERIVED. THE GIVEN ROWS OF THIS SEAT. 12 by the template 'for every input the law returns true; each argument reads behind the call as it read before'; 0 by the template 'total and deterministic' (their statements: YtaaealngifkaeaaTotals.lean).
  GIVEN WITH THE SEED: the statements are not yours to turn. If you find one false, say at which input.
  Laid BY PROGRAM, IN A SANDBOX (cutbox-rows.mjs): the forced cells as the released guide's own fill.sh prints them over the translation f993cc7073269af5… (all of the seat's roots in one cut). By AI agents, Wed Nov 11 2026. No macro, syntax, notation, axiom, sorry.
-/
import Derived.Test.YtaaealngifkaeaaChecked
import GoSem.Claim
import GoSem.ClaimJoined
import GoSem.ClaimMapViews
import Derived.JoinedTies
import Derived.KernelRfl
namespace Go.Proofs.Ytaaealngifkaeaa
/- THE CELL 'sum', in the pinned program and in every row, IS THE sha256 OF THE DUMP (.gsa) THAT YtaaealngifkaeaaProg.lean LOADS. Nothing in Lean hashes anything: it is a label: what it is worth is what the hold of that sum in a sandbox is worth. -/
noncomputable def Try.pinned : Pinned := { name := "ytaaealngifkaeaa", sum := "f993cc7073269af556bb0bb0bd5d88d9d9354805c0b386c82a502411910a9155", checked := Try.checked }
namespace Rows
def none {H : Type} : Left H := { results := [], args := [] }

/-- 'carapacelaw10.AluTells': WHATEVER THE INPUT: true; the input reads as it did. -/
def aluTellsSpec : ChangeSpec := { name := "aluTells", fn := fun _ => fun
  | [d1, d2, d3] => { results := [.lit (.bool true)], args := [d1, d2, d3] }
  | _ => none }
def aluTellsRow : OpenClaim := { program := "ytaaealngifkaeaa", sum := "f993cc7073269af556bb0bb0bd5d88d9d9354805c0b386c82a502411910a9155", func := "carapace/carapacelaw10.AluTells", spec := "aluTells", unfollowed := true, recurses := true, apart := false }
def AluTellsSaid : Prop := aluTellsRow.holds Try.pinned (OpenSpec.ofChange aluTellsSpec)

/-- ITS FALSE NEIGHBOUR: 'it returns false'. Refute it at one input. -/
def aluTellsWrong : ChangeSpec := { name := "aluTells", fn := fun _ => fun
  | [d1, d2, d3] => { results := [.lit (.bool false)], args := [d1, d2, d3] }
  | _ => none }
def AluTellsWrongFalsely : Prop := aluTellsRow.holds Try.pinned (OpenSpec.ofChange aluTellsWrong)

/-- 'carapacelaw10.AluMoves': WHATEVER THE INPUT: true; the input reads as it did. -/
def aluMovesSpec : ChangeSpec := { name := "aluMoves", fn := fun _ => fun
  | [d1, d2, d3] => { results := [.lit (.bool true)], args := [d1, d2, d3] }
  | _ => none }
def aluMovesRow : OpenClaim := { program := "ytaaealngifkaeaa", sum := "f993cc7073269af556bb0bb0bd5d88d9d9354805c0b386c82a502411910a9155", func := "carapace/carapacelaw10.AluMoves", spec := "aluMoves", unfollowed := true, recurses := true, apart := false }
def AluMovesSaid : Prop := aluMovesRow.holds Try.pinned (OpenSpec.ofChange aluMovesSpec)

/-- ITS FALSE NEIGHBOUR: 'it returns false'. Refute it at one input. -/
def aluMovesWrong : ChangeSpec := { name := "aluMoves", fn := fun _ => fun
  | [d1, d2, d3] => { results := [.lit (.bool false)], args := [d1, d2, d3] }
  | _ => none }
def AluMovesWrongFalsely : Prop := aluMovesRow.holds Try.pinned (OpenSpec.ofChange aluMovesWrong)

/-- 'carapacelaw10.AluBack': WHATEVER THE INPUT: true; the input reads as it did. -/
def aluBackSpec : ChangeSpec := { name := "aluBack", fn := fun _ => fun
  | [d1, d2] => { results := [.lit (.bool true)], args := [d1, d2] }
  | _ => none }
def aluBackRow : OpenClaim := { program := "ytaaealngifkaeaa", sum := "f993cc7073269af556bb0bb0bd5d88d9d9354805c0b386c82a502411910a9155", func := "carapace/carapacelaw10.AluBack", spec := "aluBack", unfollowed := true, recurses := true, apart := false }
def AluBackSaid : Prop := aluBackRow.holds Try.pinned (OpenSpec.ofChange aluBackSpec)

/-- ITS FALSE NEIGHBOUR: 'it returns false'. Refute it at one input. -/
def aluBackWrong : ChangeSpec := { name := "aluBack", fn := fun _ => fun
  | [d1, d2] => { results := [.lit (.bool false)], args := [d1, d2] }
  | _ => none }
def AluBackWrongFalsely : Prop := aluBackRow.holds Try.pinned (OpenSpec.ofChange aluBackWrong)

/-- 'carapacelaw09.MemDoes': WHATEVER THE INPUT: true; the input reads as it did. -/
def memDoesSpec : ChangeSpec := { name := "memDoes", fn := fun _ => fun
  | [d1, d2] => { results := [.lit (.bool true)], args := [d1, d2] }
  | _ => none }
def memDoesRow : OpenClaim := { program := "ytaaealngifkaeaa", sum := "f993cc7073269af556bb0bb0bd5d88d9d9354805c0b386c82a502411910a9155", func := "carapace/carapacelaw09.MemDoes", spec := "memDoes", apart := false }
def MemDoesSaid : Prop := memDoesRow.holds Try.pinned (OpenSpec.ofChange memDoesSpec)

/-- ITS FALSE NEIGHBOUR: 'it returns false'. Refute it at one input. -/
def memDoesWrong : ChangeSpec := { name := "memDoes", fn := fun _ => fun
  | [d1, d2] => { results := [.lit (.bool false)], args := [d1, d2] }
  | _ => none }
def MemDoesWrongFalsely : Prop := memDoesRow.holds Try.pinned (OpenSpec.ofChange memDoesWrong)

/-- 'carapacelaw09.MemElse': WHATEVER THE INPUT: true; the input reads as it did. -/
def memElseSpec : ChangeSpec := { name := "memElse", fn := fun _ => fun
  | [d1, d2, d3] => { results := [.lit (.bool true)], args := [d1, d2, d3] }
  | _ => none }
def memElseRow : OpenClaim := { program := "ytaaealngifkaeaa", sum := "f993cc7073269af556bb0bb0bd5d88d9d9354805c0b386c82a502411910a9155", func := "carapace/carapacelaw09.MemElse", spec := "memElse", apart := false }
def MemElseSaid : Prop := memElseRow.holds Try.pinned (OpenSpec.ofChange memElseSpec)

/-- ITS FALSE NEIGHBOUR: 'it returns false'. Refute it at one input. -/
def memElseWrong : ChangeSpec := { name := "memElse", fn := fun _ => fun
  | [d1, d2, d3] => { results := [.lit (.bool false)], args := [d1, d2, d3] }
  | _ => none }
def MemElseWrongFalsely : Prop := memElseRow.holds Try.pinned (OpenSpec.ofChange memElseWrong)

/-- 'carapacelaw09.MemWords': WHATEVER THE INPUT: true; the input reads as it did. -/
def memWordsSpec : ChangeSpec := { name := "memWords", fn := fun _ => fun
  | [d1, d2, d3] => { results := [.lit (.bool true)], args := [d1, d2, d3] }
  | _ => none }
def memWordsRow : OpenClaim := { program := "ytaaealngifkaeaa", sum := "f993cc7073269af556bb0bb0bd5d88d9d9354805c0b386c82a502411910a9155", func := "carapace/carapacelaw09.MemWords", spec := "memWords", apart := false }
def MemWordsSaid : Prop := memWordsRow.holds Try.pinned (OpenSpec.ofChange memWordsSpec)

/-- ITS FALSE NEIGHBOUR: 'it returns false'. Refute it at one input. -/
def memWordsWrong : ChangeSpec := { name := "memWords", fn := fun _ => fun
  | [d1, d2, d3] => { results := [.lit (.bool false)], args := [d1, d2, d3] }
  | _ => none }
def MemWordsWrongFalsely : Prop := memWordsRow.holds Try.pinned (OpenSpec.ofChange memWordsWrong)

/-- 'carapacelaw07.InstTells': WHATEVER THE INPUT: true; the input reads as it did. -/
def instTellsSpec : ChangeSpec := { name := "instTells", fn := fun _ => fun
  | [d1, d2, d3] => { results := [.lit (.bool true)], args := [d1, d2, d3] }
  | _ => none }
def instTellsRow : OpenClaim := { program := "ytaaealngifkaeaa", sum := "f993cc7073269af556bb0bb0bd5d88d9d9354805c0b386c82a502411910a9155", func := "carapace/carapacelaw07.InstTells", spec := "instTells", inPlace := ["internal/bytealg.IndexByteString"], apart := false }
def InstTellsSaid : Prop := instTellsRow.holds Try.pinned (OpenSpec.ofChange instTellsSpec)

/-- ITS FALSE NEIGHBOUR: 'it returns false'. Refute it at one input. -/
def instTellsWrong : ChangeSpec := { name := "instTells", fn := fun _ => fun
  | [d1, d2, d3] => { results := [.lit (.bool false)], args := [d1, d2, d3] }
  | _ => none }
def InstTellsWrongFalsely : Prop := instTellsRow.holds Try.pinned (OpenSpec.ofChange instTellsWrong)

/-- 'carapacelaw07.InstBack': WHATEVER THE INPUT: true; the input reads as it did. -/
def instBackSpec : ChangeSpec := { name := "instBack", fn := fun _ => fun
  | [d1, d2] => { results := [.lit (.bool true)], args := [d1, d2] }
  | _ => none }
def instBackRow : OpenClaim := { program := "ytaaealngifkaeaa", sum := "f993cc7073269af556bb0bb0bd5d88d9d9354805c0b386c82a502411910a9155", func := "carapace/carapacelaw07.InstBack", spec := "instBack", inPlace := ["internal/bytealg.IndexByteString"], apart := false }
def InstBackSaid : Prop := instBackRow.holds Try.pinned (OpenSpec.ofChange instBackSpec)

/-- ITS FALSE NEIGHBOUR: 'it returns false'. Refute it at one input. -/
def instBackWrong : ChangeSpec := { name := "instBack", fn := fun _ => fun
  | [d1, d2] => { results := [.lit (.bool false)], args := [d1, d2] }
  | _ => none }
def InstBackWrongFalsely : Prop := instBackRow.holds Try.pinned (OpenSpec.ofChange instBackWrong)

/-- 'carapacelaw07.InstUnlike': WHATEVER THE INPUT: true; the input reads as it did. -/
def instUnlikeSpec : ChangeSpec := { name := "instUnlike", fn := fun _ => fun
  | [d1, d2, d3] => { results := [.lit (.bool true)], args := [d1, d2, d3] }
  | _ => none }
def instUnlikeRow : OpenClaim := { program := "ytaaealngifkaeaa", sum := "f993cc7073269af556bb0bb0bd5d88d9d9354805c0b386c82a502411910a9155", func := "carapace/carapacelaw07.InstUnlike", spec := "instUnlike", inPlace := ["internal/bytealg.IndexByteString"], apart := false }
def InstUnlikeSaid : Prop := instUnlikeRow.holds Try.pinned (OpenSpec.ofChange instUnlikeSpec)

/-- ITS FALSE NEIGHBOUR: 'it returns false'. Refute it at one input. -/
def instUnlikeWrong : ChangeSpec := { name := "instUnlike", fn := fun _ => fun
  | [d1, d2, d3] => { results := [.lit (.bool false)], args := [d1, d2, d3] }
  | _ => none }
def InstUnlikeWrongFalsely : Prop := instUnlikeRow.holds Try.pinned (OpenSpec.ofChange instUnlikeWrong)

/-- 'carapacelaw04.LzTells': WHATEVER THE INPUT: true; the input reads as it did. -/
def lzTellsSpec : ChangeSpec := { name := "lzTells", fn := fun _ => fun
  | [d1, d2, d3] => { results := [.lit (.bool true)], args := [d1, d2, d3] }
  | _ => none }
def lzTellsRow : OpenClaim := { program := "ytaaealngifkaeaa", sum := "f993cc7073269af556bb0bb0bd5d88d9d9354805c0b386c82a502411910a9155", func := "carapace/carapacelaw04.LzTells", spec := "lzTells", unfollowed := true, recurses := true, apart := false }
def LzTellsSaid : Prop := lzTellsRow.holds Try.pinned (OpenSpec.ofChange lzTellsSpec)

/-- ITS FALSE NEIGHBOUR: 'it returns false'. Refute it at one input. -/
def lzTellsWrong : ChangeSpec := { name := "lzTells", fn := fun _ => fun
  | [d1, d2, d3] => { results := [.lit (.bool false)], args := [d1, d2, d3] }
  | _ => none }
def LzTellsWrongFalsely : Prop := lzTellsRow.holds Try.pinned (OpenSpec.ofChange lzTellsWrong)

/-- 'carapacelaw04.LzBack': WHATEVER THE INPUT: true; the input reads as it did. -/
def lzBackSpec : ChangeSpec := { name := "lzBack", fn := fun _ => fun
  | [d1, d2, d3] => { results := [.lit (.bool true)], args := [d1, d2, d3] }
  | _ => none }
def lzBackRow : OpenClaim := { program := "ytaaealngifkaeaa", sum := "f993cc7073269af556bb0bb0bd5d88d9d9354805c0b386c82a502411910a9155", func := "carapace/carapacelaw04.LzBack", spec := "lzBack", unfollowed := true, recurses := true, apart := false }
def LzBackSaid : Prop := lzBackRow.holds Try.pinned (OpenSpec.ofChange lzBackSpec)

/-- ITS FALSE NEIGHBOUR: 'it returns false'. Refute it at one input. -/
def lzBackWrong : ChangeSpec := { name := "lzBack", fn := fun _ => fun
  | [d1, d2, d3] => { results := [.lit (.bool false)], args := [d1, d2, d3] }
  | _ => none }
def LzBackWrongFalsely : Prop := lzBackRow.holds Try.pinned (OpenSpec.ofChange lzBackWrong)

/-- 'carapacelaw04.LzFinds': WHATEVER THE INPUT: true; the input reads as it did. -/
def lzFindsSpec : ChangeSpec := { name := "lzFinds", fn := fun _ => fun
  | [d1, d2] => { results := [.lit (.bool true)], args := [d1, d2] }
  | _ => none }
def lzFindsRow : OpenClaim := { program := "ytaaealngifkaeaa", sum := "f993cc7073269af556bb0bb0bd5d88d9d9354805c0b386c82a502411910a9155", func := "carapace/carapacelaw04.LzFinds", spec := "lzFinds", unfollowed := true, recurses := true, apart := false }
def LzFindsSaid : Prop := lzFindsRow.holds Try.pinned (OpenSpec.ofChange lzFindsSpec)

/-- ITS FALSE NEIGHBOUR: 'it returns false'. Refute it at one input. -/
def lzFindsWrong : ChangeSpec := { name := "lzFinds", fn := fun _ => fun
  | [d1, d2] => { results := [.lit (.bool false)], args := [d1, d2] }
  | _ => none }
def LzFindsWrongFalsely : Prop := lzFindsRow.holds Try.pinned (OpenSpec.ofChange lzFindsWrong)

/- THE SECOND FORM. 'bulk': how many values and letters a reading holds, each counted each time it is reached (what is shared counts as often as it is met; a slice's spare places count too). A statement '..UptoSaid' is the law's where the arguments, and the package variables that the reading takes, are together of bulk at most 1048576: NARROWER than '..Said'. Prove '..Said' where nothing that the law and all that it calls make is longer than what came in: it says more and counts as full. Else prove '..UptoSaid'. A law counts once. -/
mutual
def uptoBulk {H : Type} : DataW H → Nat
  | .lit (.string bytes) => bytes.length + 1
  | .lit _ => 1
  | .nil => 1
  | .ptr d => uptoBulk d + 1
  | .slice elems spare => uptoBulkAll elems + uptoBulkAll spare + 1
  | .agg parts => uptoBulkAll parts + 1
  | .iface _ d => uptoBulk d + 1
  | .map entries => uptoBulkEntries entries + 1
  | .held _ => 1
def uptoBulkAll {H : Type} : List (DataW H) → Nat
  | [] => 0
  | d :: r => uptoBulk d + uptoBulkAll r
def uptoBulkEntries {H : Type} : List (Lit × DataW H) → Nat
  | [] => 0
  | x :: r => uptoBulkEntry x + uptoBulkEntries r
def uptoBulkEntry {H : Type} : Lit × DataW H → Nat
  | (.string bytes, d) => bytes.length + uptoBulk d + 1
  | (_, d) => uptoBulk d + 1
 end
def uptoSmall : (H : Type) → List (DataW H) → Bool := fun _ ds => decide (uptoBulkAll ds ≤ 1048576)
def OpenSpec.upto (s : _root_.Go.ChangeSpec) : _root_.Go.OpenSpec := { _root_.Go.OpenSpec.ofChange s with cond := some uptoSmall }

/-- 'carapacelaw10.AluTells', WHERE WHAT IT READS IS OF BULK AT MOST 1048576: true; the input reads as it did. -/
def aluTellsUptoRow : OpenClaim := { program := "ytaaealngifkaeaa", sum := "f993cc7073269af556bb0bb0bd5d88d9d9354805c0b386c82a502411910a9155", func := "carapace/carapacelaw10.AluTells", spec := "aluTells", unfollowed := true, recurses := true, apart := false, narrowed := true }
def AluTellsUptoSaid : Prop := aluTellsUptoRow.holds Try.pinned (OpenSpec.upto aluTellsSpec)

/-- 'carapacelaw10.AluMoves', WHERE WHAT IT READS IS OF BULK AT MOST 1048576: true; the input reads as it did. -/
def aluMovesUptoRow : OpenClaim := { program := "ytaaealngifkaeaa", sum := "f993cc7073269af556bb0bb0bd5d88d9d9354805c0b386c82a502411910a9155", func := "carapace/carapacelaw10.AluMoves", spec := "aluMoves", unfollowed := true, recurses := true, apart := false, narrowed := true }
def AluMovesUptoSaid : Prop := aluMovesUptoRow.holds Try.pinned (OpenSpec.upto aluMovesSpec)

/-- 'carapacelaw10.AluBack', WHERE WHAT IT READS IS OF BULK AT MOST 1048576: true; the input reads as it did. -/
def aluBackUptoRow : OpenClaim := { program := "ytaaealngifkaeaa", sum := "f993cc7073269af556bb0bb0bd5d88d9d9354805c0b386c82a502411910a9155", func := "carapace/carapacelaw10.AluBack", spec := "aluBack", unfollowed := true, recurses := true, apart := false, narrowed := true }
def AluBackUptoSaid : Prop := aluBackUptoRow.holds Try.pinned (OpenSpec.upto aluBackSpec)

/-- 'carapacelaw09.MemDoes', WHERE WHAT IT READS IS OF BULK AT MOST 1048576: true; the input reads as it did. -/
def memDoesUptoRow : OpenClaim := { program := "ytaaealngifkaeaa", sum := "f993cc7073269af556bb0bb0bd5d88d9d9354805c0b386c82a502411910a9155", func := "carapace/carapacelaw09.MemDoes", spec := "memDoes", apart := false, narrowed := true }
def MemDoesUptoSaid : Prop := memDoesUptoRow.holds Try.pinned (OpenSpec.upto memDoesSpec)

/-- 'carapacelaw09.MemElse', WHERE WHAT IT READS IS OF BULK AT MOST 1048576: true; the input reads as it did. -/
def memElseUptoRow : OpenClaim := { program := "ytaaealngifkaeaa", sum := "f993cc7073269af556bb0bb0bd5d88d9d9354805c0b386c82a502411910a9155", func := "carapace/carapacelaw09.MemElse", spec := "memElse", apart := false, narrowed := true }
def MemElseUptoSaid : Prop := memElseUptoRow.holds Try.pinned (OpenSpec.upto memElseSpec)

/-- 'carapacelaw09.MemWords', WHERE WHAT IT READS IS OF BULK AT MOST 1048576: true; the input reads as it did. -/
def memWordsUptoRow : OpenClaim := { program := "ytaaealngifkaeaa", sum := "f993cc7073269af556bb0bb0bd5d88d9d9354805c0b386c82a502411910a9155", func := "carapace/carapacelaw09.MemWords", spec := "memWords", apart := false, narrowed := true }
def MemWordsUptoSaid : Prop := memWordsUptoRow.holds Try.pinned (OpenSpec.upto memWordsSpec)

/-- 'carapacelaw07.InstTells', WHERE WHAT IT READS IS OF BULK AT MOST 1048576: true; the input reads as it did. -/
def instTellsUptoRow : OpenClaim := { program := "ytaaealngifkaeaa", sum := "f993cc7073269af556bb0bb0bd5d88d9d9354805c0b386c82a502411910a9155", func := "carapace/carapacelaw07.InstTells", spec := "instTells", inPlace := ["internal/bytealg.IndexByteString"], apart := false, narrowed := true }
def InstTellsUptoSaid : Prop := instTellsUptoRow.holds Try.pinned (OpenSpec.upto instTellsSpec)

/-- 'carapacelaw07.InstBack', WHERE WHAT IT READS IS OF BULK AT MOST 1048576: true; the input reads as it did. -/
def instBackUptoRow : OpenClaim := { program := "ytaaealngifkaeaa", sum := "f993cc7073269af556bb0bb0bd5d88d9d9354805c0b386c82a502411910a9155", func := "carapace/carapacelaw07.InstBack", spec := "instBack", inPlace := ["internal/bytealg.IndexByteString"], apart := false, narrowed := true }
def InstBackUptoSaid : Prop := instBackUptoRow.holds Try.pinned (OpenSpec.upto instBackSpec)

/-- 'carapacelaw07.InstUnlike', WHERE WHAT IT READS IS OF BULK AT MOST 1048576: true; the input reads as it did. -/
def instUnlikeUptoRow : OpenClaim := { program := "ytaaealngifkaeaa", sum := "f993cc7073269af556bb0bb0bd5d88d9d9354805c0b386c82a502411910a9155", func := "carapace/carapacelaw07.InstUnlike", spec := "instUnlike", inPlace := ["internal/bytealg.IndexByteString"], apart := false, narrowed := true }
def InstUnlikeUptoSaid : Prop := instUnlikeUptoRow.holds Try.pinned (OpenSpec.upto instUnlikeSpec)

/-- 'carapacelaw04.LzTells', WHERE WHAT IT READS IS OF BULK AT MOST 1048576: true; the input reads as it did. -/
def lzTellsUptoRow : OpenClaim := { program := "ytaaealngifkaeaa", sum := "f993cc7073269af556bb0bb0bd5d88d9d9354805c0b386c82a502411910a9155", func := "carapace/carapacelaw04.LzTells", spec := "lzTells", unfollowed := true, recurses := true, apart := false, narrowed := true }
def LzTellsUptoSaid : Prop := lzTellsUptoRow.holds Try.pinned (OpenSpec.upto lzTellsSpec)

/-- 'carapacelaw04.LzBack', WHERE WHAT IT READS IS OF BULK AT MOST 1048576: true; the input reads as it did. -/
def lzBackUptoRow : OpenClaim := { program := "ytaaealngifkaeaa", sum := "f993cc7073269af556bb0bb0bd5d88d9d9354805c0b386c82a502411910a9155", func := "carapace/carapacelaw04.LzBack", spec := "lzBack", unfollowed := true, recurses := true, apart := false, narrowed := true }
def LzBackUptoSaid : Prop := lzBackUptoRow.holds Try.pinned (OpenSpec.upto lzBackSpec)

/-- 'carapacelaw04.LzFinds', WHERE WHAT IT READS IS OF BULK AT MOST 1048576: true; the input reads as it did. -/
def lzFindsUptoRow : OpenClaim := { program := "ytaaealngifkaeaa", sum := "f993cc7073269af556bb0bb0bd5d88d9d9354805c0b386c82a502411910a9155", func := "carapace/carapacelaw04.LzFinds", spec := "lzFinds", unfollowed := true, recurses := true, apart := false, narrowed := true }
def LzFindsUptoSaid : Prop := lzFindsUptoRow.holds Try.pinned (OpenSpec.upto lzFindsSpec)

end Rows
end Go.Proofs.Ytaaealngifkaeaa
