/-
  No cell of these rows narrows 'for every input' (looked for: loops, veiled, ifaces, maps, wideKeys, modest, calm, conditions, laid).
  DERIVED. THE GIVEN ROWS OF THIS SEAT. 10 by the template 'for every input the law returns true; each argument reads behind the call as it read before'; 0 by the template 'total and deterministic' (their statements: YtmldibphbilghaaTotals.lean).
  GIVEN WITH THE SEED: the statements are not yours to turn. If you find one false, say at which input.
  Laid BY PROGRAM, IN A SANDBOX (cutbox-rows.mjs): the forced cells as the released guide's own fill.sh prints them over the translation 2ea792fade823830… (all of the seat's roots in one cut). By AI agents, Wed Nov 11 2026. No macro, syntax, notation, axiom, sorry.
-/
import Derived.Test.YtmldibphbilghaaChecked
import GoSem.Claim
import GoSem.ClaimJoined
import GoSem.ClaimMapViews
import Derived.JoinedTies
import Derived.KernelRfl
namespace Go.Proofs.Ytmldibphbilghaa
/- THE CELL 'sum', in the pinned program and in every row, IS THE sha256 OF THE DUMP (.gsa) THAT YtmldibphbilghaaProg.lean LOADS. Nothing in Lean hashes anything: it is a label: what it is worth is what the hold of that sum in a sandbox is worth. -/
noncomputable def Try.pinned : Pinned := { name := "ytmldibphbilghaa", sum := "2ea792fade823830fd2e4049eecdcd3eed4bae2c34123aabe93e6bfe6e48fe0c", checked := Try.checked }
namespace Rows
def none {H : Type} : Left H := { results := [], args := [] }

/-- 'gluepotlaw03.SplitFeeds': WHATEVER THE INPUT: true; the input reads as it did. -/
def splitFeedsSpec : ChangeSpec := { name := "splitFeeds", fn := fun _ => fun
  | [d1, d2] => { results := [.lit (.bool true)], args := [d1, d2] }
  | _ => none }
def splitFeedsRow : OpenClaim := { program := "ytmldibphbilghaa", sum := "2ea792fade823830fd2e4049eecdcd3eed4bae2c34123aabe93e6bfe6e48fe0c", func := "gluepot/gluepotlaw03.SplitFeeds", spec := "splitFeeds", inPlace := ["internal/bytealg.IndexByteString"], apart := false }
def SplitFeedsSaid : Prop := splitFeedsRow.holds Try.pinned (OpenSpec.ofChange splitFeedsSpec)

/-- ITS FALSE NEIGHBOUR: 'it returns false'. Refute it at one input. -/
def splitFeedsWrong : ChangeSpec := { name := "splitFeeds", fn := fun _ => fun
  | [d1, d2] => { results := [.lit (.bool false)], args := [d1, d2] }
  | _ => none }
def SplitFeedsWrongFalsely : Prop := splitFeedsRow.holds Try.pinned (OpenSpec.ofChange splitFeedsWrong)

/-- 'gluepotlaw03.SplitWords': WHATEVER THE INPUT: true; the input reads as it did. -/
def splitWordsSpec : ChangeSpec := { name := "splitWords", fn := fun _ => fun
  | [d1, d2] => { results := [.lit (.bool true)], args := [d1, d2] }
  | _ => none }
def splitWordsRow : OpenClaim := { program := "ytmldibphbilghaa", sum := "2ea792fade823830fd2e4049eecdcd3eed4bae2c34123aabe93e6bfe6e48fe0c", func := "gluepot/gluepotlaw03.SplitWords", spec := "splitWords", inPlace := ["internal/bytealg.IndexByteString"], apart := false }
def SplitWordsSaid : Prop := splitWordsRow.holds Try.pinned (OpenSpec.ofChange splitWordsSpec)

/-- ITS FALSE NEIGHBOUR: 'it returns false'. Refute it at one input. -/
def splitWordsWrong : ChangeSpec := { name := "splitWords", fn := fun _ => fun
  | [d1, d2] => { results := [.lit (.bool false)], args := [d1, d2] }
  | _ => none }
def SplitWordsWrongFalsely : Prop := splitWordsRow.holds Try.pinned (OpenSpec.ofChange splitWordsWrong)

/-- 'gluepotlaw03.SplitCuts': WHATEVER THE INPUT: true; the input reads as it did. -/
def splitCutsSpec : ChangeSpec := { name := "splitCuts", fn := fun _ => fun
  | [d1, d2] => { results := [.lit (.bool true)], args := [d1, d2] }
  | _ => none }
def splitCutsRow : OpenClaim := { program := "ytmldibphbilghaa", sum := "2ea792fade823830fd2e4049eecdcd3eed4bae2c34123aabe93e6bfe6e48fe0c", func := "gluepot/gluepotlaw03.SplitCuts", spec := "splitCuts", inPlace := ["internal/bytealg.IndexByteString"], apart := false }
def SplitCutsSaid : Prop := splitCutsRow.holds Try.pinned (OpenSpec.ofChange splitCutsSpec)

/-- ITS FALSE NEIGHBOUR: 'it returns false'. Refute it at one input. -/
def splitCutsWrong : ChangeSpec := { name := "splitCuts", fn := fun _ => fun
  | [d1, d2] => { results := [.lit (.bool false)], args := [d1, d2] }
  | _ => none }
def SplitCutsWrongFalsely : Prop := splitCutsRow.holds Try.pinned (OpenSpec.ofChange splitCutsWrong)

/-- 'gluepotlaw03.SplitJoins': WHATEVER THE INPUT: true; the input reads as it did. -/
def splitJoinsSpec : ChangeSpec := { name := "splitJoins", fn := fun _ => fun
  | [d1, d2] => { results := [.lit (.bool true)], args := [d1, d2] }
  | _ => none }
def splitJoinsRow : OpenClaim := { program := "ytmldibphbilghaa", sum := "2ea792fade823830fd2e4049eecdcd3eed4bae2c34123aabe93e6bfe6e48fe0c", func := "gluepot/gluepotlaw03.SplitJoins", spec := "splitJoins", inPlace := ["internal/bytealg.IndexByteString"], apart := false }
def SplitJoinsSaid : Prop := splitJoinsRow.holds Try.pinned (OpenSpec.ofChange splitJoinsSpec)

/-- ITS FALSE NEIGHBOUR: 'it returns false'. Refute it at one input. -/
def splitJoinsWrong : ChangeSpec := { name := "splitJoins", fn := fun _ => fun
  | [d1, d2] => { results := [.lit (.bool false)], args := [d1, d2] }
  | _ => none }
def SplitJoinsWrongFalsely : Prop := splitJoinsRow.holds Try.pinned (OpenSpec.ofChange splitJoinsWrong)

/-- 'gluepotlaw04.SourceTells': WHATEVER THE INPUT: true; the input reads as it did. -/
def sourceTellsSpec : ChangeSpec := { name := "sourceTells", fn := fun _ => fun
  | [d1, d2] => { results := [.lit (.bool true)], args := [d1, d2] }
  | _ => none }
def sourceTellsRow : OpenClaim := { program := "ytmldibphbilghaa", sum := "2ea792fade823830fd2e4049eecdcd3eed4bae2c34123aabe93e6bfe6e48fe0c", func := "gluepot/gluepotlaw04.SourceTells", spec := "sourceTells", inPlace := ["internal/abi.NoEscape"], unfollowed := true, recurses := true, apart := false }
def SourceTellsSaid : Prop := sourceTellsRow.holds Try.pinned (OpenSpec.ofChange sourceTellsSpec)

/-- ITS FALSE NEIGHBOUR: 'it returns false'. Refute it at one input. -/
def sourceTellsWrong : ChangeSpec := { name := "sourceTells", fn := fun _ => fun
  | [d1, d2] => { results := [.lit (.bool false)], args := [d1, d2] }
  | _ => none }
def SourceTellsWrongFalsely : Prop := sourceTellsRow.holds Try.pinned (OpenSpec.ofChange sourceTellsWrong)

/-- 'gluepotlaw04.SourceKinds': WHATEVER THE INPUT: true; the input reads as it did. -/
def sourceKindsSpec : ChangeSpec := { name := "sourceKinds", fn := fun _ => fun
  | [d1, d2] => { results := [.lit (.bool true)], args := [d1, d2] }
  | _ => none }
def sourceKindsRow : OpenClaim := { program := "ytmldibphbilghaa", sum := "2ea792fade823830fd2e4049eecdcd3eed4bae2c34123aabe93e6bfe6e48fe0c", func := "gluepot/gluepotlaw04.SourceKinds", spec := "sourceKinds", inPlace := ["internal/abi.NoEscape"], unfollowed := true, recurses := true, apart := false }
def SourceKindsSaid : Prop := sourceKindsRow.holds Try.pinned (OpenSpec.ofChange sourceKindsSpec)

/-- ITS FALSE NEIGHBOUR: 'it returns false'. Refute it at one input. -/
def sourceKindsWrong : ChangeSpec := { name := "sourceKinds", fn := fun _ => fun
  | [d1, d2] => { results := [.lit (.bool false)], args := [d1, d2] }
  | _ => none }
def SourceKindsWrongFalsely : Prop := sourceKindsRow.holds Try.pinned (OpenSpec.ofChange sourceKindsWrong)

/-- 'gluepotlaw04.SourcePlain': WHATEVER THE INPUT: true; the input reads as it did. -/
def sourcePlainSpec : ChangeSpec := { name := "sourcePlain", fn := fun _ => fun
  | [d] => { results := [.lit (.bool true)], args := [d] }
  | _ => none }
def sourcePlainRow : OpenClaim := { program := "ytmldibphbilghaa", sum := "2ea792fade823830fd2e4049eecdcd3eed4bae2c34123aabe93e6bfe6e48fe0c", func := "gluepot/gluepotlaw04.SourcePlain", spec := "sourcePlain", inPlace := ["internal/abi.NoEscape"], unfollowed := true, recurses := true, apart := false }
def SourcePlainSaid : Prop := sourcePlainRow.holds Try.pinned (OpenSpec.ofChange sourcePlainSpec)

/-- ITS FALSE NEIGHBOUR: 'it returns false'. Refute it at one input. -/
def sourcePlainWrong : ChangeSpec := { name := "sourcePlain", fn := fun _ => fun
  | [d] => { results := [.lit (.bool false)], args := [d] }
  | _ => none }
def SourcePlainWrongFalsely : Prop := sourcePlainRow.holds Try.pinned (OpenSpec.ofChange sourcePlainWrong)

/-- 'gluepotlaw05.CorpusReads': WHATEVER THE INPUT: true; the input reads as it did. -/
def corpusReadsSpec : ChangeSpec := { name := "corpusReads", fn := fun _ => fun
  | [d1, d2, d3, d4] => { results := [.lit (.bool true)], args := [d1, d2, d3, d4] }
  | _ => none }
def corpusReadsRow : OpenClaim := { program := "ytmldibphbilghaa", sum := "2ea792fade823830fd2e4049eecdcd3eed4bae2c34123aabe93e6bfe6e48fe0c", func := "gluepot/gluepotlaw05.CorpusReads", spec := "corpusReads", inPlace := ["internal/bytealg.IndexByteString"], unfollowed := true, recurses := true, apart := false }
def CorpusReadsSaid : Prop := corpusReadsRow.holds Try.pinned (OpenSpec.ofChange corpusReadsSpec)

/-- ITS FALSE NEIGHBOUR: 'it returns false'. Refute it at one input. -/
def corpusReadsWrong : ChangeSpec := { name := "corpusReads", fn := fun _ => fun
  | [d1, d2, d3, d4] => { results := [.lit (.bool false)], args := [d1, d2, d3, d4] }
  | _ => none }
def CorpusReadsWrongFalsely : Prop := corpusReadsRow.holds Try.pinned (OpenSpec.ofChange corpusReadsWrong)

/-- 'gluepotlaw05.CorpusCuts': WHATEVER THE INPUT: true; the input reads as it did. -/
def corpusCutsSpec : ChangeSpec := { name := "corpusCuts", fn := fun _ => fun
  | [d1, d2, d3] => { results := [.lit (.bool true)], args := [d1, d2, d3] }
  | _ => none }
def corpusCutsRow : OpenClaim := { program := "ytmldibphbilghaa", sum := "2ea792fade823830fd2e4049eecdcd3eed4bae2c34123aabe93e6bfe6e48fe0c", func := "gluepot/gluepotlaw05.CorpusCuts", spec := "corpusCuts", inPlace := ["internal/bytealg.IndexByteString"], unfollowed := true, recurses := true, apart := false }
def CorpusCutsSaid : Prop := corpusCutsRow.holds Try.pinned (OpenSpec.ofChange corpusCutsSpec)

/-- ITS FALSE NEIGHBOUR: 'it returns false'. Refute it at one input. -/
def corpusCutsWrong : ChangeSpec := { name := "corpusCuts", fn := fun _ => fun
  | [d1, d2, d3] => { results := [.lit (.bool false)], args := [d1, d2, d3] }
  | _ => none }
def CorpusCutsWrongFalsely : Prop := corpusCutsRow.holds Try.pinned (OpenSpec.ofChange corpusCutsWrong)

/-- 'gluepotlaw05.CorpusKinds': WHATEVER THE INPUT: true; the input reads as it did. -/
def corpusKindsSpec : ChangeSpec := { name := "corpusKinds", fn := fun _ => fun
  | [d1, d2] => { results := [.lit (.bool true)], args := [d1, d2] }
  | _ => none }
def corpusKindsRow : OpenClaim := { program := "ytmldibphbilghaa", sum := "2ea792fade823830fd2e4049eecdcd3eed4bae2c34123aabe93e6bfe6e48fe0c", func := "gluepot/gluepotlaw05.CorpusKinds", spec := "corpusKinds", inPlace := ["internal/bytealg.IndexByteString"], unfollowed := true, recurses := true, apart := false }
def CorpusKindsSaid : Prop := corpusKindsRow.holds Try.pinned (OpenSpec.ofChange corpusKindsSpec)

/-- ITS FALSE NEIGHBOUR: 'it returns false'. Refute it at one input. -/
def corpusKindsWrong : ChangeSpec := { name := "corpusKinds", fn := fun _ => fun
  | [d1, d2] => { results := [.lit (.bool false)], args := [d1, d2] }
  | _ => none }
def CorpusKindsWrongFalsely : Prop := corpusKindsRow.holds Try.pinned (OpenSpec.ofChange corpusKindsWrong)

/- THE SECOND FORM. 'bulk': how many values and letters a reading holds, each counted each time it is reached (what is shared counts as often as it is met; a slice's spare places count too). A statement '..UptoSaid' is the law's where the arguments, and the package variables that the reading takes, are together of bulk at most 1048576: NARROWER than '..Said'. Prove '..Said' where nothing that the law and all that it calls make is longer than what came in: it says more and counts as full. Else prove '..UptoSaid'. A law counts once. -/
mutual
def uptoBulk {H : Type} : DataW H → Nat
  | .lit (.string bytes) => bytes.length + 1
  | .lit _ => 1
  | .nil => 1
  | .ptr d => uptoBulk d + 1
  | .slice elems spare => uptoBulkAll elems + uptoBulkAll spare + 1
  | .agg parts => uptoBulkAll parts + 1
  | .iface _ d => uptoBulk d + 1
  | .map entries => uptoBulkEntries entries + 1
  | .held _ => 1
def uptoBulkAll {H : Type} : List (DataW H) → Nat
  | [] => 0
  | d :: r => uptoBulk d + uptoBulkAll r
def uptoBulkEntries {H : Type} : List (Lit × DataW H) → Nat
  | [] => 0
  | x :: r => uptoBulkEntry x + uptoBulkEntries r
def uptoBulkEntry {H : Type} : Lit × DataW H → Nat
  | (.string bytes, d) => bytes.length + uptoBulk d + 1
  | (_, d) => uptoBulk d + 1
 end
def uptoSmall : (H : Type) → List (DataW H) → Bool := fun _ ds => decide (uptoBulkAll ds ≤ 1048576)
def OpenSpec.upto (s : _root_.Go.ChangeSpec) : _root_.Go.OpenSpec := { _root_.Go.OpenSpec.ofChange s with cond := some uptoSmall }

/-- 'gluepotlaw03.SplitFeeds', WHERE WHAT IT READS IS OF BULK AT MOST 1048576: true; the input reads as it did. -/
def splitFeedsUptoRow : OpenClaim := { program := "ytmldibphbilghaa", sum := "2ea792fade823830fd2e4049eecdcd3eed4bae2c34123aabe93e6bfe6e48fe0c", func := "gluepot/gluepotlaw03.SplitFeeds", spec := "splitFeeds", inPlace := ["internal/bytealg.IndexByteString"], apart := false, narrowed := true }
def SplitFeedsUptoSaid : Prop := splitFeedsUptoRow.holds Try.pinned (OpenSpec.upto splitFeedsSpec)

/-- 'gluepotlaw03.SplitWords', WHERE WHAT IT READS IS OF BULK AT MOST 1048576: true; the input reads as it did. -/
def splitWordsUptoRow : OpenClaim := { program := "ytmldibphbilghaa", sum := "2ea792fade823830fd2e4049eecdcd3eed4bae2c34123aabe93e6bfe6e48fe0c", func := "gluepot/gluepotlaw03.SplitWords", spec := "splitWords", inPlace := ["internal/bytealg.IndexByteString"], apart := false, narrowed := true }
def SplitWordsUptoSaid : Prop := splitWordsUptoRow.holds Try.pinned (OpenSpec.upto splitWordsSpec)

/-- 'gluepotlaw03.SplitCuts', WHERE WHAT IT READS IS OF BULK AT MOST 1048576: true; the input reads as it did. -/
def splitCutsUptoRow : OpenClaim := { program := "ytmldibphbilghaa", sum := "2ea792fade823830fd2e4049eecdcd3eed4bae2c34123aabe93e6bfe6e48fe0c", func := "gluepot/gluepotlaw03.SplitCuts", spec := "splitCuts", inPlace := ["internal/bytealg.IndexByteString"], apart := false, narrowed := true }
def SplitCutsUptoSaid : Prop := splitCutsUptoRow.holds Try.pinned (OpenSpec.upto splitCutsSpec)

/-- 'gluepotlaw03.SplitJoins', WHERE WHAT IT READS IS OF BULK AT MOST 1048576: true; the input reads as it did. -/
def splitJoinsUptoRow : OpenClaim := { program := "ytmldibphbilghaa", sum := "2ea792fade823830fd2e4049eecdcd3eed4bae2c34123aabe93e6bfe6e48fe0c", func := "gluepot/gluepotlaw03.SplitJoins", spec := "splitJoins", inPlace := ["internal/bytealg.IndexByteString"], apart := false, narrowed := true }
def SplitJoinsUptoSaid : Prop := splitJoinsUptoRow.holds Try.pinned (OpenSpec.upto splitJoinsSpec)

/-- 'gluepotlaw04.SourceTells', WHERE WHAT IT READS IS OF BULK AT MOST 1048576: true; the input reads as it did. -/
def sourceTellsUptoRow : OpenClaim := { program := "ytmldibphbilghaa", sum := "2ea792fade823830fd2e4049eecdcd3eed4bae2c34123aabe93e6bfe6e48fe0c", func := "gluepot/gluepotlaw04.SourceTells", spec := "sourceTells", inPlace := ["internal/abi.NoEscape"], unfollowed := true, recurses := true, apart := false, narrowed := true }
def SourceTellsUptoSaid : Prop := sourceTellsUptoRow.holds Try.pinned (OpenSpec.upto sourceTellsSpec)

/-- 'gluepotlaw04.SourceKinds', WHERE WHAT IT READS IS OF BULK AT MOST 1048576: true; the input reads as it did. -/
def sourceKindsUptoRow : OpenClaim := { program := "ytmldibphbilghaa", sum := "2ea792fade823830fd2e4049eecdcd3eed4bae2c34123aabe93e6bfe6e48fe0c", func := "gluepot/gluepotlaw04.SourceKinds", spec := "sourceKinds", inPlace := ["internal/abi.NoEscape"], unfollowed := true, recurses := true, apart := false, narrowed := true }
def SourceKindsUptoSaid : Prop := sourceKindsUptoRow.holds Try.pinned (OpenSpec.upto sourceKindsSpec)

/-- 'gluepotlaw04.SourcePlain', WHERE WHAT IT READS IS OF BULK AT MOST 1048576: true; the input reads as it did. -/
def sourcePlainUptoRow : OpenClaim := { program := "ytmldibphbilghaa", sum := "2ea792fade823830fd2e4049eecdcd3eed4bae2c34123aabe93e6bfe6e48fe0c", func := "gluepot/gluepotlaw04.SourcePlain", spec := "sourcePlain", inPlace := ["internal/abi.NoEscape"], unfollowed := true, recurses := true, apart := false, narrowed := true }
def SourcePlainUptoSaid : Prop := sourcePlainUptoRow.holds Try.pinned (OpenSpec.upto sourcePlainSpec)

/-- 'gluepotlaw05.CorpusReads', WHERE WHAT IT READS IS OF BULK AT MOST 1048576: true; the input reads as it did. -/
def corpusReadsUptoRow : OpenClaim := { program := "ytmldibphbilghaa", sum := "2ea792fade823830fd2e4049eecdcd3eed4bae2c34123aabe93e6bfe6e48fe0c", func := "gluepot/gluepotlaw05.CorpusReads", spec := "corpusReads", inPlace := ["internal/bytealg.IndexByteString"], unfollowed := true, recurses := true, apart := false, narrowed := true }
def CorpusReadsUptoSaid : Prop := corpusReadsUptoRow.holds Try.pinned (OpenSpec.upto corpusReadsSpec)

/-- 'gluepotlaw05.CorpusCuts', WHERE WHAT IT READS IS OF BULK AT MOST 1048576: true; the input reads as it did. -/
def corpusCutsUptoRow : OpenClaim := { program := "ytmldibphbilghaa", sum := "2ea792fade823830fd2e4049eecdcd3eed4bae2c34123aabe93e6bfe6e48fe0c", func := "gluepot/gluepotlaw05.CorpusCuts", spec := "corpusCuts", inPlace := ["internal/bytealg.IndexByteString"], unfollowed := true, recurses := true, apart := false, narrowed := true }
def CorpusCutsUptoSaid : Prop := corpusCutsUptoRow.holds Try.pinned (OpenSpec.upto corpusCutsSpec)

/-- 'gluepotlaw05.CorpusKinds', WHERE WHAT IT READS IS OF BULK AT MOST 1048576: true; the input reads as it did. -/
def corpusKindsUptoRow : OpenClaim := { program := "ytmldibphbilghaa", sum := "2ea792fade823830fd2e4049eecdcd3eed4bae2c34123aabe93e6bfe6e48fe0c", func := "gluepot/gluepotlaw05.CorpusKinds", spec := "corpusKinds", inPlace := ["internal/bytealg.IndexByteString"], unfollowed := true, recurses := true, apart := false, narrowed := true }
def CorpusKindsUptoSaid : Prop := corpusKindsUptoRow.holds Try.pinned (OpenSpec.upto corpusKindsSpec)

end Rows
end Go.Proofs.Ytmldibphbilghaa
