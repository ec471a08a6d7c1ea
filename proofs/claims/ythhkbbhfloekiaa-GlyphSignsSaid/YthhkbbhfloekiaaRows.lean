/-
  No cell of these rows narrows 'for every input' (looked for: loops, veiled, ifaces, maps, wideKeys, modest, calm, conditions, laid).
  DERIVED. THE GIVEN ROWS OF THIS SEAT. 3 by the template 'for every input the law returns true; each argument reads behind the call as it read before'; 0 by the template 'total and deterministic' (their statements: YthhkbbhfloekiaaTotals.lean).
  GIVEN WITH THE SEED: the statements are not yours to turn. If you find one false, say at which input.
  Laid BY PROGRAM, IN A SANDBOX (cutbox-rows.mjs): the forced cells as the released guide's own fill.sh prints them over the translation 9bd1c28504a63948… (all of the seat's roots in one cut). By AI agents, Wed Nov 11 2026. No macro, syntax, notation, axiom, sorry.
-/
import Derived.Test.YthhkbbhfloekiaaChecked
import GoSem.Claim
import GoSem.ClaimJoined
import GoSem.ClaimMapViews
import Derived.JoinedTies
import Derived.KernelRfl
namespace Go.Proofs.Ythhkbbhfloekiaa
/- THE CELL 'sum', in the pinned program and in every row, IS THE sha256 OF THE DUMP (.gsa) THAT YthhkbbhfloekiaaProg.lean LOADS. Nothing in Lean hashes anything: it is a label: what it is worth is what the hold of that sum in a sandbox is worth. -/
noncomputable def Try.pinned : Pinned := { name := "ythhkbbhfloekiaa", sum := "9bd1c28504a63948292512fb1e3061c5485e387b05e29ff698019e6c7a9fe19b", checked := Try.checked }
namespace Rows
def none {H : Type} : Left H := { results := [], args := [] }

/-- 'gluepotlaw02.GlyphSigns': WHATEVER THE INPUT: true; the input reads as it did. -/
def glyphSignsSpec : ChangeSpec := { name := "glyphSigns", fn := fun _ => fun
  | [d1, d2, d3] => { results := [.lit (.bool true)], args := [d1, d2, d3] }
  | _ => none }
def glyphSignsRow : OpenClaim := { program := "ythhkbbhfloekiaa", sum := "9bd1c28504a63948292512fb1e3061c5485e387b05e29ff698019e6c7a9fe19b", func := "gluepot/gluepotlaw02.GlyphSigns", spec := "glyphSigns", inPlace := ["internal/abi.NoEscape"], apart := false }
def GlyphSignsSaid : Prop := glyphSignsRow.holds Try.pinned (OpenSpec.ofChange glyphSignsSpec)

/-- ITS FALSE NEIGHBOUR: 'it returns false'. Refute it at one input. -/
def glyphSignsWrong : ChangeSpec := { name := "glyphSigns", fn := fun _ => fun
  | [d1, d2, d3] => { results := [.lit (.bool false)], args := [d1, d2, d3] }
  | _ => none }
def GlyphSignsWrongFalsely : Prop := glyphSignsRow.holds Try.pinned (OpenSpec.ofChange glyphSignsWrong)

/-- 'gluepotlaw02.GlyphShows': WHATEVER THE INPUT: true; the input reads as it did. -/
def glyphShowsSpec : ChangeSpec := { name := "glyphShows", fn := fun _ => fun
  | [d] => { results := [.lit (.bool true)], args := [d] }
  | _ => none }
def glyphShowsRow : OpenClaim := { program := "ythhkbbhfloekiaa", sum := "9bd1c28504a63948292512fb1e3061c5485e387b05e29ff698019e6c7a9fe19b", func := "gluepot/gluepotlaw02.GlyphShows", spec := "glyphShows", inPlace := ["internal/abi.NoEscape"], apart := false }
def GlyphShowsSaid : Prop := glyphShowsRow.holds Try.pinned (OpenSpec.ofChange glyphShowsSpec)

/-- ITS FALSE NEIGHBOUR: 'it returns false'. Refute it at one input. -/
def glyphShowsWrong : ChangeSpec := { name := "glyphShows", fn := fun _ => fun
  | [d] => { results := [.lit (.bool false)], args := [d] }
  | _ => none }
def GlyphShowsWrongFalsely : Prop := glyphShowsRow.holds Try.pinned (OpenSpec.ofChange glyphShowsWrong)

/-- 'gluepotlaw02.GlyphReads': WHATEVER THE INPUT: true; the input reads as it did. -/
def glyphReadsSpec : ChangeSpec := { name := "glyphReads", fn := fun _ => fun
  | [d] => { results := [.lit (.bool true)], args := [d] }
  | _ => none }
def glyphReadsRow : OpenClaim := { program := "ythhkbbhfloekiaa", sum := "9bd1c28504a63948292512fb1e3061c5485e387b05e29ff698019e6c7a9fe19b", func := "gluepot/gluepotlaw02.GlyphReads", spec := "glyphReads", inPlace := ["internal/abi.NoEscape"], apart := false }
def GlyphReadsSaid : Prop := glyphReadsRow.holds Try.pinned (OpenSpec.ofChange glyphReadsSpec)

/-- ITS FALSE NEIGHBOUR: 'it returns false'. Refute it at one input. -/
def glyphReadsWrong : ChangeSpec := { name := "glyphReads", fn := fun _ => fun
  | [d] => { results := [.lit (.bool false)], args := [d] }
  | _ => none }
def GlyphReadsWrongFalsely : Prop := glyphReadsRow.holds Try.pinned (OpenSpec.ofChange glyphReadsWrong)

/- THE SECOND FORM. 'bulk': how many values and letters a reading holds, each counted each time it is reached (what is shared counts as often as it is met; a slice's spare places count too). A statement '..UptoSaid' is the law's where the arguments, and the package variables that the reading takes, are together of bulk at most 1048576: NARROWER than '..Said'. Prove '..Said' where nothing that the law and all that it calls make is longer than what came in: it says more and counts as full. Else prove '..UptoSaid'. A law counts once. -/
mutual
def uptoBulk {H : Type} : DataW H → Nat
  | .lit (.string bytes) => bytes.length + 1
  | .lit _ => 1
  | .nil => 1
  | .ptr d => uptoBulk d + 1
  | .slice elems spare => uptoBulkAll elems + uptoBulkAll spare + 1
  | .agg parts => uptoBulkAll parts + 1
  | .iface _ d => uptoBulk d + 1
  | .map entries => uptoBulkEntries entries + 1
  | .held _ => 1
def uptoBulkAll {H : Type} : List (DataW H) → Nat
  | [] => 0
  | d :: r => uptoBulk d + uptoBulkAll r
def uptoBulkEntries {H : Type} : List (Lit × DataW H) → Nat
  | [] => 0
  | x :: r => uptoBulkEntry x + uptoBulkEntries r
def uptoBulkEntry {H : Type} : Lit × DataW H → Nat
  | (.string bytes, d) => bytes.length + uptoBulk d + 1
  | (_, d) => uptoBulk d + 1
 end
def uptoSmall : (H : Type) → List (DataW H) → Bool := fun _ ds => decide (uptoBulkAll ds ≤ 1048576)
def OpenSpec.upto (s : _root_.Go.ChangeSpec) : _root_.Go.OpenSpec := { _root_.Go.OpenSpec.ofChange s with cond := some uptoSmall }

/-- 'gluepotlaw02.GlyphSigns', WHERE WHAT IT READS IS OF BULK AT MOST 1048576: true; the input reads as it did. -/
def glyphSignsUptoRow : OpenClaim := { program := "ythhkbbhfloekiaa", sum := "9bd1c28504a63948292512fb1e3061c5485e387b05e29ff698019e6c7a9fe19b", func := "gluepot/gluepotlaw02.GlyphSigns", spec := "glyphSigns", inPlace := ["internal/abi.NoEscape"], apart := false, narrowed := true }
def GlyphSignsUptoSaid : Prop := glyphSignsUptoRow.holds Try.pinned (OpenSpec.upto glyphSignsSpec)

/-- 'gluepotlaw02.GlyphShows', WHERE WHAT IT READS IS OF BULK AT MOST 1048576: true; the input reads as it did. -/
def glyphShowsUptoRow : OpenClaim := { program := "ythhkbbhfloekiaa", sum := "9bd1c28504a63948292512fb1e3061c5485e387b05e29ff698019e6c7a9fe19b", func := "gluepot/gluepotlaw02.GlyphShows", spec := "glyphShows", inPlace := ["internal/abi.NoEscape"], apart := false, narrowed := true }
def GlyphShowsUptoSaid : Prop := glyphShowsUptoRow.holds Try.pinned (OpenSpec.upto glyphShowsSpec)

/-- 'gluepotlaw02.GlyphReads', WHERE WHAT IT READS IS OF BULK AT MOST 1048576: true; the input reads as it did. -/
def glyphReadsUptoRow : OpenClaim := { program := "ythhkbbhfloekiaa", sum := "9bd1c28504a63948292512fb1e3061c5485e387b05e29ff698019e6c7a9fe19b", func := "gluepot/gluepotlaw02.GlyphReads", spec := "glyphReads", inPlace := ["internal/abi.NoEscape"], apart := false, narrowed := true }
def GlyphReadsUptoSaid : Prop := glyphReadsUptoRow.holds Try.pinned (OpenSpec.upto glyphReadsSpec)

end Rows
end Go.Proofs.Ythhkbbhfloekiaa
