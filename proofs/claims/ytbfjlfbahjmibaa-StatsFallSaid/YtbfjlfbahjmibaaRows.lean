/-
  No cell of these rows narrows 'for every input' (looked for: loops, veiled, ifaces, maps, wideKeys, modest, calm, conditions, laid).
  DERIVED. THE GIVEN ROWS OF THIS SEAT. 6 by the template 'for every input the law returns true; each argument reads behind the call as it read before'; 0 by the template 'total and deterministic' (their statements: YtbfjlfbahjmibaaTotals.lean).
  GIVEN WITH THE SEED: the statements are not yours to turn. If you find one false, say at which input.
  Laid BY PROGRAM, IN A SANDBOX (cutbox-rows.mjs): the forced cells as the released guide's own fill.sh prints them over the translation 5a7ed51ae0715b48… (all of the seat's roots in one cut). By AI agents, Wed Nov 11 2026. No macro, syntax, notation, axiom, sorry.
-/
import Derived.Test.YtbfjlfbahjmibaaChecked
import GoSem.Claim
import GoSem.ClaimJoined
import GoSem.ClaimMapViews
import Derived.JoinedTies
import Derived.KernelRfl
namespace Go.Proofs.Ytbfjlfbahjmibaa
/- THE CELL 'sum', in the pinned program and in every row, IS THE sha256 OF THE DUMP (.gsa) THAT YtbfjlfbahjmibaaProg.lean LOADS. Nothing in Lean hashes anything: it is a label: what it is worth is what the hold of that sum in a sandbox is worth. -/
noncomputable def Try.pinned : Pinned := { name := "ytbfjlfbahjmibaa", sum := "5a7ed51ae0715b48947d6d40103b79beced9bbdcfaacb5524853d52475c53a2e", checked := Try.checked }
namespace Rows
def none {H : Type} : Left H := { results := [], args := [] }

/-- 'gluepotlaw23.StatsGains': WHATEVER THE INPUT: true; the input reads as it did. -/
def statsGainsSpec : ChangeSpec := { name := "statsGains", fn := fun _ => fun
  | [d1, d2] => { results := [.lit (.bool true)], args := [d1, d2] }
  | _ => none }
def statsGainsRow : OpenClaim := { program := "ytbfjlfbahjmibaa", sum := "5a7ed51ae0715b48947d6d40103b79beced9bbdcfaacb5524853d52475c53a2e", func := "gluepot/gluepotlaw23.StatsGains", spec := "statsGains", plainKeys := false, apart := false }
def StatsGainsSaid : Prop := statsGainsRow.holds Try.pinned (OpenSpec.ofChange statsGainsSpec)

/-- ITS FALSE NEIGHBOUR: 'it returns false'. Refute it at one input. -/
def statsGainsWrong : ChangeSpec := { name := "statsGains", fn := fun _ => fun
  | [d1, d2] => { results := [.lit (.bool false)], args := [d1, d2] }
  | _ => none }
def StatsGainsWrongFalsely : Prop := statsGainsRow.holds Try.pinned (OpenSpec.ofChange statsGainsWrong)

/-- 'gluepotlaw23.StatsFall': WHATEVER THE INPUT: true; the input reads as it did. -/
def statsFallSpec : ChangeSpec := { name := "statsFall", fn := fun _ => fun
  | [d1, d2, d3] => { results := [.lit (.bool true)], args := [d1, d2, d3] }
  | _ => none }
def statsFallRow : OpenClaim := { program := "ytbfjlfbahjmibaa", sum := "5a7ed51ae0715b48947d6d40103b79beced9bbdcfaacb5524853d52475c53a2e", func := "gluepot/gluepotlaw23.StatsFall", spec := "statsFall", plainKeys := false, apart := false }
def StatsFallSaid : Prop := statsFallRow.holds Try.pinned (OpenSpec.ofChange statsFallSpec)

/-- ITS FALSE NEIGHBOUR: 'it returns false'. Refute it at one input. -/
def statsFallWrong : ChangeSpec := { name := "statsFall", fn := fun _ => fun
  | [d1, d2, d3] => { results := [.lit (.bool false)], args := [d1, d2, d3] }
  | _ => none }
def StatsFallWrongFalsely : Prop := statsFallRow.holds Try.pinned (OpenSpec.ofChange statsFallWrong)

/-- 'gluepotlaw16.NaiveLearns': WHATEVER THE INPUT: true; the input reads as it did. -/
def naiveLearnsSpec : ChangeSpec := { name := "naiveLearns", fn := fun _ => fun
  | [d1, d2, d3] => { results := [.lit (.bool true)], args := [d1, d2, d3] }
  | _ => none }
def naiveLearnsRow : OpenClaim := { program := "ytbfjlfbahjmibaa", sum := "5a7ed51ae0715b48947d6d40103b79beced9bbdcfaacb5524853d52475c53a2e", func := "gluepot/gluepotlaw16.NaiveLearns", spec := "naiveLearns", plainKeys := false, apart := false }
def NaiveLearnsSaid : Prop := naiveLearnsRow.holds Try.pinned (OpenSpec.ofChange naiveLearnsSpec)

/-- ITS FALSE NEIGHBOUR: 'it returns false'. Refute it at one input. -/
def naiveLearnsWrong : ChangeSpec := { name := "naiveLearns", fn := fun _ => fun
  | [d1, d2, d3] => { results := [.lit (.bool false)], args := [d1, d2, d3] }
  | _ => none }
def NaiveLearnsWrongFalsely : Prop := naiveLearnsRow.holds Try.pinned (OpenSpec.ofChange naiveLearnsWrong)

/-- 'gluepotlaw16.NaiveBest': WHATEVER THE INPUT: true; the input reads as it did. -/
def naiveBestSpec : ChangeSpec := { name := "naiveBest", fn := fun _ => fun
  | [d1, d2, d3] => { results := [.lit (.bool true)], args := [d1, d2, d3] }
  | _ => none }
def naiveBestRow : OpenClaim := { program := "ytbfjlfbahjmibaa", sum := "5a7ed51ae0715b48947d6d40103b79beced9bbdcfaacb5524853d52475c53a2e", func := "gluepot/gluepotlaw16.NaiveBest", spec := "naiveBest", plainKeys := false, apart := false }
def NaiveBestSaid : Prop := naiveBestRow.holds Try.pinned (OpenSpec.ofChange naiveBestSpec)

/-- ITS FALSE NEIGHBOUR: 'it returns false'. Refute it at one input. -/
def naiveBestWrong : ChangeSpec := { name := "naiveBest", fn := fun _ => fun
  | [d1, d2, d3] => { results := [.lit (.bool false)], args := [d1, d2, d3] }
  | _ => none }
def NaiveBestWrongFalsely : Prop := naiveBestRow.holds Try.pinned (OpenSpec.ofChange naiveBestWrong)

/-- 'gluepotlaw16.NaiveGrows': WHATEVER THE INPUT: true; the input reads as it did. -/
def naiveGrowsSpec : ChangeSpec := { name := "naiveGrows", fn := fun _ => fun
  | [d1, d2, d3, d4] => { results := [.lit (.bool true)], args := [d1, d2, d3, d4] }
  | _ => none }
def naiveGrowsRow : OpenClaim := { program := "ytbfjlfbahjmibaa", sum := "5a7ed51ae0715b48947d6d40103b79beced9bbdcfaacb5524853d52475c53a2e", func := "gluepot/gluepotlaw16.NaiveGrows", spec := "naiveGrows", plainKeys := false, apart := false }
def NaiveGrowsSaid : Prop := naiveGrowsRow.holds Try.pinned (OpenSpec.ofChange naiveGrowsSpec)

/-- ITS FALSE NEIGHBOUR: 'it returns false'. Refute it at one input. -/
def naiveGrowsWrong : ChangeSpec := { name := "naiveGrows", fn := fun _ => fun
  | [d1, d2, d3, d4] => { results := [.lit (.bool false)], args := [d1, d2, d3, d4] }
  | _ => none }
def NaiveGrowsWrongFalsely : Prop := naiveGrowsRow.holds Try.pinned (OpenSpec.ofChange naiveGrowsWrong)

/-- 'gluepotlaw23.StatsFit': WHATEVER THE INPUT: true; the input reads as it did. -/
def statsFitSpec : ChangeSpec := { name := "statsFit", fn := fun _ => fun
  | [d1, d2, d3] => { results := [.lit (.bool true)], args := [d1, d2, d3] }
  | _ => none }
def statsFitRow : OpenClaim := { program := "ytbfjlfbahjmibaa", sum := "5a7ed51ae0715b48947d6d40103b79beced9bbdcfaacb5524853d52475c53a2e", func := "gluepot/gluepotlaw23.StatsFit", spec := "statsFit", plainKeys := false, apart := false }
def StatsFitSaid : Prop := statsFitRow.holds Try.pinned (OpenSpec.ofChange statsFitSpec)

/-- ITS FALSE NEIGHBOUR: 'it returns false'. Refute it at one input. -/
def statsFitWrong : ChangeSpec := { name := "statsFit", fn := fun _ => fun
  | [d1, d2, d3] => { results := [.lit (.bool false)], args := [d1, d2, d3] }
  | _ => none }
def StatsFitWrongFalsely : Prop := statsFitRow.holds Try.pinned (OpenSpec.ofChange statsFitWrong)

/- THE SECOND FORM. 'bulk': how many values and letters a reading holds, each counted each time it is reached (what is shared counts as often as it is met; a slice's spare places count too). A statement '..UptoSaid' is the law's where the arguments, and the package variables that the reading takes, are together of bulk at most 1048576: NARROWER than '..Said'. Prove '..Said' where nothing that the law and all that it calls make is longer than what came in: it says more and counts as full. Else prove '..UptoSaid'. A law counts once. -/
mutual
def uptoBulk {H : Type} : DataW H → Nat
  | .lit (.string bytes) => bytes.length + 1
  | .lit _ => 1
  | .nil => 1
  | .ptr d => uptoBulk d + 1
  | .slice elems spare => uptoBulkAll elems + uptoBulkAll spare + 1
  | .agg parts => uptoBulkAll parts + 1
  | .iface _ d => uptoBulk d + 1
  | .map entries => uptoBulkEntries entries + 1
  | .held _ => 1
def uptoBulkAll {H : Type} : List (DataW H) → Nat
  | [] => 0
  | d :: r => uptoBulk d + uptoBulkAll r
def uptoBulkEntries {H : Type} : List (Lit × DataW H) → Nat
  | [] => 0
  | x :: r => uptoBulkEntry x + uptoBulkEntries r
def uptoBulkEntry {H : Type} : Lit × DataW H → Nat
  | (.string bytes, d) => bytes.length + uptoBulk d + 1
  | (_, d) => uptoBulk d + 1
 end
def uptoSmall : (H : Type) → List (DataW H) → Bool := fun _ ds => decide (uptoBulkAll ds ≤ 1048576)
def OpenSpec.upto (s : _root_.Go.ChangeSpec) : _root_.Go.OpenSpec := { _root_.Go.OpenSpec.ofChange s with cond := some uptoSmall }

/-- 'gluepotlaw23.StatsGains', WHERE WHAT IT READS IS OF BULK AT MOST 1048576: true; the input reads as it did. -/
def statsGainsUptoRow : OpenClaim := { program := "ytbfjlfbahjmibaa", sum := "5a7ed51ae0715b48947d6d40103b79beced9bbdcfaacb5524853d52475c53a2e", func := "gluepot/gluepotlaw23.StatsGains", spec := "statsGains", plainKeys := false, apart := false, narrowed := true }
def StatsGainsUptoSaid : Prop := statsGainsUptoRow.holds Try.pinned (OpenSpec.upto statsGainsSpec)

/-- 'gluepotlaw23.StatsFall', WHERE WHAT IT READS IS OF BULK AT MOST 1048576: true; the input reads as it did. -/
def statsFallUptoRow : OpenClaim := { program := "ytbfjlfbahjmibaa", sum := "5a7ed51ae0715b48947d6d40103b79beced9bbdcfaacb5524853d52475c53a2e", func := "gluepot/gluepotlaw23.StatsFall", spec := "statsFall", plainKeys := false, apart := false, narrowed := true }
def StatsFallUptoSaid : Prop := statsFallUptoRow.holds Try.pinned (OpenSpec.upto statsFallSpec)

/-- 'gluepotlaw16.NaiveLearns', WHERE WHAT IT READS IS OF BULK AT MOST 1048576: true; the input reads as it did. -/
def naiveLearnsUptoRow : OpenClaim := { program := "ytbfjlfbahjmibaa", sum := "5a7ed51ae0715b48947d6d40103b79beced9bbdcfaacb5524853d52475c53a2e", func := "gluepot/gluepotlaw16.NaiveLearns", spec := "naiveLearns", plainKeys := false, apart := false, narrowed := true }
def NaiveLearnsUptoSaid : Prop := naiveLearnsUptoRow.holds Try.pinned (OpenSpec.upto naiveLearnsSpec)

/-- 'gluepotlaw16.NaiveBest', WHERE WHAT IT READS IS OF BULK AT MOST 1048576: true; the input reads as it did. -/
def naiveBestUptoRow : OpenClaim := { program := "ytbfjlfbahjmibaa", sum := "5a7ed51ae0715b48947d6d40103b79beced9bbdcfaacb5524853d52475c53a2e", func := "gluepot/gluepotlaw16.NaiveBest", spec := "naiveBest", plainKeys := false, apart := false, narrowed := true }
def NaiveBestUptoSaid : Prop := naiveBestUptoRow.holds Try.pinned (OpenSpec.upto naiveBestSpec)

/-- 'gluepotlaw16.NaiveGrows', WHERE WHAT IT READS IS OF BULK AT MOST 1048576: true; the input reads as it did. -/
def naiveGrowsUptoRow : OpenClaim := { program := "ytbfjlfbahjmibaa", sum := "5a7ed51ae0715b48947d6d40103b79beced9bbdcfaacb5524853d52475c53a2e", func := "gluepot/gluepotlaw16.NaiveGrows", spec := "naiveGrows", plainKeys := false, apart := false, narrowed := true }
def NaiveGrowsUptoSaid : Prop := naiveGrowsUptoRow.holds Try.pinned (OpenSpec.upto naiveGrowsSpec)

/-- 'gluepotlaw23.StatsFit', WHERE WHAT IT READS IS OF BULK AT MOST 1048576: true; the input reads as it did. -/
def statsFitUptoRow : OpenClaim := { program := "ytbfjlfbahjmibaa", sum := "5a7ed51ae0715b48947d6d40103b79beced9bbdcfaacb5524853d52475c53a2e", func := "gluepot/gluepotlaw23.StatsFit", spec := "statsFit", plainKeys := false, apart := false, narrowed := true }
def StatsFitUptoSaid : Prop := statsFitUptoRow.holds Try.pinned (OpenSpec.upto statsFitSpec)

end Rows
end Go.Proofs.Ytbfjlfbahjmibaa
