/-
  No cell of these rows narrows 'for every input' (looked for: loops, veiled, ifaces, maps, wideKeys, modest, calm, conditions, laid).
  DERIVED. THE GIVEN ROWS OF THIS SEAT. 5 by the template 'for every input the law returns true; each argument reads behind the call as it read before'; 0 by the template 'total and deterministic' (their statements: YtilpincgjlclpaaGreatTotals.lean).
  GIVEN WITH THE SEED: the statements are not yours to turn. If you find one false, say at which input.
  Laid BY PROGRAM, IN A SANDBOX (cutbox-rows.mjs): the forced cells as the released guide's own fill.sh prints them over the translation 012ee1d3a6683ec4… (all of the seat's roots in one cut). By AI agents, Wed Nov 11 2026. No macro, syntax, notation, axiom, sorry.
-/
import Derived.Test.YtilpincgjlclpaaGreatChecked
import GoSem.Claim
import GoSem.ClaimJoined
import GoSem.ClaimMapViews
import Derived.JoinedTies
import Derived.KernelRfl
namespace Go.Proofs.YtilpincgjlclpaaGreat
/- THE CELL 'sum', in the pinned program and in every row, IS THE sha256 OF THE DUMP (.gsa) THAT YtilpincgjlclpaaGreatProg.lean LOADS. Nothing in Lean hashes anything: it is a label: what it is worth is what the hold of that sum in a sandbox is worth. -/
noncomputable def Tryz.pinned : Pinned := { name := "ytilpincgjlclpaagreat", sum := "012ee1d3a6683ec45acf403758a32c4a04f0e8f29de137ea55b16ccf9fad74d6", checked := Tryz.checked }
namespace Rows
def none {H : Type} : Left H := { results := [], args := [] }

/-- 'gluepottop.WholeTables': WHATEVER THE INPUT: true; the input reads as it did. -/
def wholeTablesSpec : ChangeSpec := { name := "wholeTables", fn := fun _ => fun
  | [d1, d2] => { results := [.lit (.bool true)], args := [d1, d2] }
  | _ => none }
def wholeTablesRow : OpenClaim := { program := "ytilpincgjlclpaagreat", sum := "012ee1d3a6683ec45acf403758a32c4a04f0e8f29de137ea55b16ccf9fad74d6", func := "gluepot/gluepottop.WholeTables", spec := "wholeTables", inPlace := ["internal/bytealg.IndexByteString", "internal/abi.NoEscape"], unfollowed := true, recurses := true, plainKeys := false, apart := false }
def WholeTablesSaid : Prop := wholeTablesRow.holds Tryz.pinned (OpenSpec.ofChange wholeTablesSpec)

/-- ITS FALSE NEIGHBOUR: 'it returns false'. Refute it at one input. -/
def wholeTablesWrong : ChangeSpec := { name := "wholeTables", fn := fun _ => fun
  | [d1, d2] => { results := [.lit (.bool false)], args := [d1, d2] }
  | _ => none }
def WholeTablesWrongFalsely : Prop := wholeTablesRow.holds Tryz.pinned (OpenSpec.ofChange wholeTablesWrong)

/-- 'gluepottop.WholeRight': WHATEVER THE INPUT: true; the input reads as it did. -/
def wholeRightSpec : ChangeSpec := { name := "wholeRight", fn := fun _ => fun
  | [d1, d2, d3] => { results := [.lit (.bool true)], args := [d1, d2, d3] }
  | _ => none }
def wholeRightRow : OpenClaim := { program := "ytilpincgjlclpaagreat", sum := "012ee1d3a6683ec45acf403758a32c4a04f0e8f29de137ea55b16ccf9fad74d6", func := "gluepot/gluepottop.WholeRight", spec := "wholeRight", inPlace := ["internal/bytealg.IndexByteString", "internal/abi.NoEscape"], unfollowed := true, recurses := true, plainKeys := false, apart := false }
def WholeRightSaid : Prop := wholeRightRow.holds Tryz.pinned (OpenSpec.ofChange wholeRightSpec)

/-- ITS FALSE NEIGHBOUR: 'it returns false'. Refute it at one input. -/
def wholeRightWrong : ChangeSpec := { name := "wholeRight", fn := fun _ => fun
  | [d1, d2, d3] => { results := [.lit (.bool false)], args := [d1, d2, d3] }
  | _ => none }
def WholeRightWrongFalsely : Prop := wholeRightRow.holds Tryz.pinned (OpenSpec.ofChange wholeRightWrong)

/-- 'gluepottop.WholeReads': WHATEVER THE INPUT: true; the input reads as it did. -/
def wholeReadsSpec : ChangeSpec := { name := "wholeReads", fn := fun _ => fun
  | [d1, d2] => { results := [.lit (.bool true)], args := [d1, d2] }
  | _ => none }
def wholeReadsRow : OpenClaim := { program := "ytilpincgjlclpaagreat", sum := "012ee1d3a6683ec45acf403758a32c4a04f0e8f29de137ea55b16ccf9fad74d6", func := "gluepot/gluepottop.WholeReads", spec := "wholeReads", inPlace := ["internal/bytealg.IndexByteString", "internal/abi.NoEscape"], unfollowed := true, recurses := true, plainKeys := false, apart := false }
def WholeReadsSaid : Prop := wholeReadsRow.holds Tryz.pinned (OpenSpec.ofChange wholeReadsSpec)

/-- ITS FALSE NEIGHBOUR: 'it returns false'. Refute it at one input. -/
def wholeReadsWrong : ChangeSpec := { name := "wholeReads", fn := fun _ => fun
  | [d1, d2] => { results := [.lit (.bool false)], args := [d1, d2] }
  | _ => none }
def WholeReadsWrongFalsely : Prop := wholeReadsRow.holds Tryz.pinned (OpenSpec.ofChange wholeReadsWrong)

/-- 'gluepottop.WholeBounds': WHATEVER THE INPUT: true; the input reads as it did. -/
def wholeBoundsSpec : ChangeSpec := { name := "wholeBounds", fn := fun _ => fun
  | [d1, d2] => { results := [.lit (.bool true)], args := [d1, d2] }
  | _ => none }
def wholeBoundsRow : OpenClaim := { program := "ytilpincgjlclpaagreat", sum := "012ee1d3a6683ec45acf403758a32c4a04f0e8f29de137ea55b16ccf9fad74d6", func := "gluepot/gluepottop.WholeBounds", spec := "wholeBounds", inPlace := ["internal/bytealg.IndexByteString", "internal/abi.NoEscape"], unfollowed := true, recurses := true, plainKeys := false, apart := false }
def WholeBoundsSaid : Prop := wholeBoundsRow.holds Tryz.pinned (OpenSpec.ofChange wholeBoundsSpec)

/-- ITS FALSE NEIGHBOUR: 'it returns false'. Refute it at one input. -/
def wholeBoundsWrong : ChangeSpec := { name := "wholeBounds", fn := fun _ => fun
  | [d1, d2] => { results := [.lit (.bool false)], args := [d1, d2] }
  | _ => none }
def WholeBoundsWrongFalsely : Prop := wholeBoundsRow.holds Tryz.pinned (OpenSpec.ofChange wholeBoundsWrong)

/-- 'gluepottop.WholeSame': WHATEVER THE INPUT: true; the input reads as it did. -/
def wholeSameSpec : ChangeSpec := { name := "wholeSame", fn := fun _ => fun
  | [d1, d2, d3, d4] => { results := [.lit (.bool true)], args := [d1, d2, d3, d4] }
  | _ => none }
def wholeSameRow : OpenClaim := { program := "ytilpincgjlclpaagreat", sum := "012ee1d3a6683ec45acf403758a32c4a04f0e8f29de137ea55b16ccf9fad74d6", func := "gluepot/gluepottop.WholeSame", spec := "wholeSame", inPlace := ["internal/bytealg.IndexByteString", "internal/abi.NoEscape"], unfollowed := true, recurses := true, plainKeys := false, apart := false }
def WholeSameSaid : Prop := wholeSameRow.holds Tryz.pinned (OpenSpec.ofChange wholeSameSpec)

/-- ITS FALSE NEIGHBOUR: 'it returns false'. Refute it at one input. -/
def wholeSameWrong : ChangeSpec := { name := "wholeSame", fn := fun _ => fun
  | [d1, d2, d3, d4] => { results := [.lit (.bool false)], args := [d1, d2, d3, d4] }
  | _ => none }
def WholeSameWrongFalsely : Prop := wholeSameRow.holds Tryz.pinned (OpenSpec.ofChange wholeSameWrong)

/- THE SECOND FORM. 'bulk': how many values and letters a reading holds, each counted each time it is reached (what is shared counts as often as it is met; a slice's spare places count too). A statement '..UptoSaid' is the law's where the arguments, and the package variables that the reading takes, are together of bulk at most 1048576: NARROWER than '..Said'. Prove '..Said' where nothing that the law and all that it calls make is longer than what came in: it says more and counts as full. Else prove '..UptoSaid'. A law counts once. -/
mutual
def uptoBulk {H : Type} : DataW H → Nat
  | .lit (.string bytes) => bytes.length + 1
  | .lit _ => 1
  | .nil => 1
  | .ptr d => uptoBulk d + 1
  | .slice elems spare => uptoBulkAll elems + uptoBulkAll spare + 1
  | .agg parts => uptoBulkAll parts + 1
  | .iface _ d => uptoBulk d + 1
  | .map entries => uptoBulkEntries entries + 1
  | .held _ => 1
def uptoBulkAll {H : Type} : List (DataW H) → Nat
  | [] => 0
  | d :: r => uptoBulk d + uptoBulkAll r
def uptoBulkEntries {H : Type} : List (Lit × DataW H) → Nat
  | [] => 0
  | x :: r => uptoBulkEntry x + uptoBulkEntries r
def uptoBulkEntry {H : Type} : Lit × DataW H → Nat
  | (.string bytes, d) => bytes.length + uptoBulk d + 1
  | (_, d) => uptoBulk d + 1
 end
def uptoSmall : (H : Type) → List (DataW H) → Bool := fun _ ds => decide (uptoBulkAll ds ≤ 1048576)
def OpenSpec.upto (s : _root_.Go.ChangeSpec) : _root_.Go.OpenSpec := { _root_.Go.OpenSpec.ofChange s with cond := some uptoSmall }

/-- 'gluepottop.WholeTables', WHERE WHAT IT READS IS OF BULK AT MOST 1048576: true; the input reads as it did. -/
def wholeTablesUptoRow : OpenClaim := { program := "ytilpincgjlclpaagreat", sum := "012ee1d3a6683ec45acf403758a32c4a04f0e8f29de137ea55b16ccf9fad74d6", func := "gluepot/gluepottop.WholeTables", spec := "wholeTables", inPlace := ["internal/bytealg.IndexByteString", "internal/abi.NoEscape"], unfollowed := true, recurses := true, plainKeys := false, apart := false, narrowed := true }
def WholeTablesUptoSaid : Prop := wholeTablesUptoRow.holds Tryz.pinned (OpenSpec.upto wholeTablesSpec)

/-- 'gluepottop.WholeRight', WHERE WHAT IT READS IS OF BULK AT MOST 1048576: true; the input reads as it did. -/
def wholeRightUptoRow : OpenClaim := { program := "ytilpincgjlclpaagreat", sum := "012ee1d3a6683ec45acf403758a32c4a04f0e8f29de137ea55b16ccf9fad74d6", func := "gluepot/gluepottop.WholeRight", spec := "wholeRight", inPlace := ["internal/bytealg.IndexByteString", "internal/abi.NoEscape"], unfollowed := true, recurses := true, plainKeys := false, apart := false, narrowed := true }
def WholeRightUptoSaid : Prop := wholeRightUptoRow.holds Tryz.pinned (OpenSpec.upto wholeRightSpec)

/-- 'gluepottop.WholeReads', WHERE WHAT IT READS IS OF BULK AT MOST 1048576: true; the input reads as it did. -/
def wholeReadsUptoRow : OpenClaim := { program := "ytilpincgjlclpaagreat", sum := "012ee1d3a6683ec45acf403758a32c4a04f0e8f29de137ea55b16ccf9fad74d6", func := "gluepot/gluepottop.WholeReads", spec := "wholeReads", inPlace := ["internal/bytealg.IndexByteString", "internal/abi.NoEscape"], unfollowed := true, recurses := true, plainKeys := false, apart := false, narrowed := true }
def WholeReadsUptoSaid : Prop := wholeReadsUptoRow.holds Tryz.pinned (OpenSpec.upto wholeReadsSpec)

/-- 'gluepottop.WholeBounds', WHERE WHAT IT READS IS OF BULK AT MOST 1048576: true; the input reads as it did. -/
def wholeBoundsUptoRow : OpenClaim := { program := "ytilpincgjlclpaagreat", sum := "012ee1d3a6683ec45acf403758a32c4a04f0e8f29de137ea55b16ccf9fad74d6", func := "gluepot/gluepottop.WholeBounds", spec := "wholeBounds", inPlace := ["internal/bytealg.IndexByteString", "internal/abi.NoEscape"], unfollowed := true, recurses := true, plainKeys := false, apart := false, narrowed := true }
def WholeBoundsUptoSaid : Prop := wholeBoundsUptoRow.holds Tryz.pinned (OpenSpec.upto wholeBoundsSpec)

/-- 'gluepottop.WholeSame', WHERE WHAT IT READS IS OF BULK AT MOST 1048576: true; the input reads as it did. -/
def wholeSameUptoRow : OpenClaim := { program := "ytilpincgjlclpaagreat", sum := "012ee1d3a6683ec45acf403758a32c4a04f0e8f29de137ea55b16ccf9fad74d6", func := "gluepot/gluepottop.WholeSame", spec := "wholeSame", inPlace := ["internal/bytealg.IndexByteString", "internal/abi.NoEscape"], unfollowed := true, recurses := true, plainKeys := false, apart := false, narrowed := true }
def WholeSameUptoSaid : Prop := wholeSameUptoRow.holds Tryz.pinned (OpenSpec.upto wholeSameSpec)

end Rows
end Go.Proofs.YtilpincgjlclpaaGreat
