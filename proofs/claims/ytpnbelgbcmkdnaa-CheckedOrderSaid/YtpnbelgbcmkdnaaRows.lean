/-
  No cell of these rows narrows 'for every input' (looked for: loops, veiled, ifaces, maps, wideKeys, modest, calm, conditions, laid).
  DERIVED. THE GIVEN ROWS OF THIS SEAT. 6 by the template 'for every input the law returns true; each argument reads behind the call as it read before'; 0 by the template 'total and deterministic' (their statements: YtpnbelgbcmkdnaaTotals.lean).
  GIVEN WITH THE SEED: the statements are not yours to turn. If you find one false, say at which input.
  Laid BY PROGRAM, IN A SANDBOX (cutbox-rows.mjs): the forced cells as the released guide's own fill.sh prints them over the translation b6397d9088221db5… (all of the seat's roots in one cut). By AI agents, Wed Nov 11 2026. No macro, syntax, notation, axiom, sorry.
-/
import Derived.Test.YtpnbelgbcmkdnaaChecked
import GoSem.Claim
import GoSem.ClaimJoined
import GoSem.ClaimMapViews
import Derived.JoinedTies
import Derived.KernelRfl
namespace Go.Proofs.Ytpnbelgbcmkdnaa
/- THE CELL 'sum', in the pinned program and in every row, IS THE sha256 OF THE DUMP (.gsa) THAT YtpnbelgbcmkdnaaProg.lean LOADS. Nothing in Lean hashes anything: it is a label: what it is worth is what the hold of that sum in a sandbox is worth. -/
noncomputable def Try.pinned : Pinned := { name := "ytpnbelgbcmkdnaa", sum := "b6397d9088221db5dcbc0a8f89a8a6ef2945a8b994ece560dc996e398893dd5b", checked := Try.checked }
namespace Rows
def none {H : Type} : Left H := { results := [], args := [] }

/-- 'gluepotlaw06.CheckedTells': WHATEVER THE INPUT: true; the input reads as it did. -/
def checkedTellsSpec : ChangeSpec := { name := "checkedTells", fn := fun _ => fun
  | [d1, d2] => { results := [.lit (.bool true)], args := [d1, d2] }
  | _ => none }
def checkedTellsRow : OpenClaim := { program := "ytpnbelgbcmkdnaa", sum := "b6397d9088221db5dcbc0a8f89a8a6ef2945a8b994ece560dc996e398893dd5b", func := "gluepot/gluepotlaw06.CheckedTells", spec := "checkedTells", apart := false }
def CheckedTellsSaid : Prop := checkedTellsRow.holds Try.pinned (OpenSpec.ofChange checkedTellsSpec)

/-- ITS FALSE NEIGHBOUR: 'it returns false'. Refute it at one input. -/
def checkedTellsWrong : ChangeSpec := { name := "checkedTells", fn := fun _ => fun
  | [d1, d2] => { results := [.lit (.bool false)], args := [d1, d2] }
  | _ => none }
def CheckedTellsWrongFalsely : Prop := checkedTellsRow.holds Try.pinned (OpenSpec.ofChange checkedTellsWrong)

/-- 'gluepotlaw01.HexDigits': WHATEVER THE INPUT: true; the input reads as it did. -/
def hexDigitsSpec : ChangeSpec := { name := "hexDigits", fn := fun _ => fun
  | [d] => { results := [.lit (.bool true)], args := [d] }
  | _ => none }
def hexDigitsRow : OpenClaim := { program := "ytpnbelgbcmkdnaa", sum := "b6397d9088221db5dcbc0a8f89a8a6ef2945a8b994ece560dc996e398893dd5b", func := "gluepot/gluepotlaw01.HexDigits", spec := "hexDigits", inPlace := ["internal/abi.NoEscape"], apart := false }
def HexDigitsSaid : Prop := hexDigitsRow.holds Try.pinned (OpenSpec.ofChange hexDigitsSpec)

/-- ITS FALSE NEIGHBOUR: 'it returns false'. Refute it at one input. -/
def hexDigitsWrong : ChangeSpec := { name := "hexDigits", fn := fun _ => fun
  | [d] => { results := [.lit (.bool false)], args := [d] }
  | _ => none }
def HexDigitsWrongFalsely : Prop := hexDigitsRow.holds Try.pinned (OpenSpec.ofChange hexDigitsWrong)

/-- 'gluepotlaw06.CheckedOrder': WHATEVER THE INPUT: true; the input reads as it did. -/
def checkedOrderSpec : ChangeSpec := { name := "checkedOrder", fn := fun _ => fun
  | [d1, d2] => { results := [.lit (.bool true)], args := [d1, d2] }
  | _ => none }
def checkedOrderRow : OpenClaim := { program := "ytpnbelgbcmkdnaa", sum := "b6397d9088221db5dcbc0a8f89a8a6ef2945a8b994ece560dc996e398893dd5b", func := "gluepot/gluepotlaw06.CheckedOrder", spec := "checkedOrder", apart := false }
def CheckedOrderSaid : Prop := checkedOrderRow.holds Try.pinned (OpenSpec.ofChange checkedOrderSpec)

/-- ITS FALSE NEIGHBOUR: 'it returns false'. Refute it at one input. -/
def checkedOrderWrong : ChangeSpec := { name := "checkedOrder", fn := fun _ => fun
  | [d1, d2] => { results := [.lit (.bool false)], args := [d1, d2] }
  | _ => none }
def CheckedOrderWrongFalsely : Prop := checkedOrderRow.holds Try.pinned (OpenSpec.ofChange checkedOrderWrong)

/-- 'gluepotlaw01.HexPuts': WHATEVER THE INPUT: true; the input reads as it did. -/
def hexPutsSpec : ChangeSpec := { name := "hexPuts", fn := fun _ => fun
  | [d] => { results := [.lit (.bool true)], args := [d] }
  | _ => none }
def hexPutsRow : OpenClaim := { program := "ytpnbelgbcmkdnaa", sum := "b6397d9088221db5dcbc0a8f89a8a6ef2945a8b994ece560dc996e398893dd5b", func := "gluepot/gluepotlaw01.HexPuts", spec := "hexPuts", inPlace := ["internal/abi.NoEscape"], apart := false }
def HexPutsSaid : Prop := hexPutsRow.holds Try.pinned (OpenSpec.ofChange hexPutsSpec)

/-- ITS FALSE NEIGHBOUR: 'it returns false'. Refute it at one input. -/
def hexPutsWrong : ChangeSpec := { name := "hexPuts", fn := fun _ => fun
  | [d] => { results := [.lit (.bool false)], args := [d] }
  | _ => none }
def HexPutsWrongFalsely : Prop := hexPutsRow.holds Try.pinned (OpenSpec.ofChange hexPutsWrong)

/-- 'gluepotlaw01.HexTakes': WHATEVER THE INPUT: true; the input reads as it did. -/
def hexTakesSpec : ChangeSpec := { name := "hexTakes", fn := fun _ => fun
  | [d] => { results := [.lit (.bool true)], args := [d] }
  | _ => none }
def hexTakesRow : OpenClaim := { program := "ytpnbelgbcmkdnaa", sum := "b6397d9088221db5dcbc0a8f89a8a6ef2945a8b994ece560dc996e398893dd5b", func := "gluepot/gluepotlaw01.HexTakes", spec := "hexTakes", inPlace := ["internal/abi.NoEscape"], apart := false }
def HexTakesSaid : Prop := hexTakesRow.holds Try.pinned (OpenSpec.ofChange hexTakesSpec)

/-- ITS FALSE NEIGHBOUR: 'it returns false'. Refute it at one input. -/
def hexTakesWrong : ChangeSpec := { name := "hexTakes", fn := fun _ => fun
  | [d] => { results := [.lit (.bool false)], args := [d] }
  | _ => none }
def HexTakesWrongFalsely : Prop := hexTakesRow.holds Try.pinned (OpenSpec.ofChange hexTakesWrong)

/-- 'gluepotlaw06.CheckedSums': WHATEVER THE INPUT: true; the input reads as it did. -/
def checkedSumsSpec : ChangeSpec := { name := "checkedSums", fn := fun _ => fun
  | [d1, d2] => { results := [.lit (.bool true)], args := [d1, d2] }
  | _ => none }
def checkedSumsRow : OpenClaim := { program := "ytpnbelgbcmkdnaa", sum := "b6397d9088221db5dcbc0a8f89a8a6ef2945a8b994ece560dc996e398893dd5b", func := "gluepot/gluepotlaw06.CheckedSums", spec := "checkedSums", apart := false }
def CheckedSumsSaid : Prop := checkedSumsRow.holds Try.pinned (OpenSpec.ofChange checkedSumsSpec)

/-- ITS FALSE NEIGHBOUR: 'it returns false'. Refute it at one input. -/
def checkedSumsWrong : ChangeSpec := { name := "checkedSums", fn := fun _ => fun
  | [d1, d2] => { results := [.lit (.bool false)], args := [d1, d2] }
  | _ => none }
def CheckedSumsWrongFalsely : Prop := checkedSumsRow.holds Try.pinned (OpenSpec.ofChange checkedSumsWrong)

/- THE SECOND FORM. 'bulk': how many values and letters a reading holds, each counted each time it is reached (what is shared counts as often as it is met; a slice's spare places count too). A statement '..UptoSaid' is the law's where the arguments, and the package variables that the reading takes, are together of bulk at most 1048576: NARROWER than '..Said'. Prove '..Said' where nothing that the law and all that it calls make is longer than what came in: it says more and counts as full. Else prove '..UptoSaid'. A law counts once. -/
mutual
def uptoBulk {H : Type} : DataW H → Nat
  | .lit (.string bytes) => bytes.length + 1
  | .lit _ => 1
  | .nil => 1
  | .ptr d => uptoBulk d + 1
  | .slice elems spare => uptoBulkAll elems + uptoBulkAll spare + 1
  | .agg parts => uptoBulkAll parts + 1
  | .iface _ d => uptoBulk d + 1
  | .map entries => uptoBulkEntries entries + 1
  | .held _ => 1
def uptoBulkAll {H : Type} : List (DataW H) → Nat
  | [] => 0
  | d :: r => uptoBulk d + uptoBulkAll r
def uptoBulkEntries {H : Type} : List (Lit × DataW H) → Nat
  | [] => 0
  | x :: r => uptoBulkEntry x + uptoBulkEntries r
def uptoBulkEntry {H : Type} : Lit × DataW H → Nat
  | (.string bytes, d) => bytes.length + uptoBulk d + 1
  | (_, d) => uptoBulk d + 1
 end
def uptoSmall : (H : Type) → List (DataW H) → Bool := fun _ ds => decide (uptoBulkAll ds ≤ 1048576)
def OpenSpec.upto (s : _root_.Go.ChangeSpec) : _root_.Go.OpenSpec := { _root_.Go.OpenSpec.ofChange s with cond := some uptoSmall }

/-- 'gluepotlaw06.CheckedTells', WHERE WHAT IT READS IS OF BULK AT MOST 1048576: true; the input reads as it did. -/
def checkedTellsUptoRow : OpenClaim := { program := "ytpnbelgbcmkdnaa", sum := "b6397d9088221db5dcbc0a8f89a8a6ef2945a8b994ece560dc996e398893dd5b", func := "gluepot/gluepotlaw06.CheckedTells", spec := "checkedTells", apart := false, narrowed := true }
def CheckedTellsUptoSaid : Prop := checkedTellsUptoRow.holds Try.pinned (OpenSpec.upto checkedTellsSpec)

/-- 'gluepotlaw01.HexDigits', WHERE WHAT IT READS IS OF BULK AT MOST 1048576: true; the input reads as it did. -/
def hexDigitsUptoRow : OpenClaim := { program := "ytpnbelgbcmkdnaa", sum := "b6397d9088221db5dcbc0a8f89a8a6ef2945a8b994ece560dc996e398893dd5b", func := "gluepot/gluepotlaw01.HexDigits", spec := "hexDigits", inPlace := ["internal/abi.NoEscape"], apart := false, narrowed := true }
def HexDigitsUptoSaid : Prop := hexDigitsUptoRow.holds Try.pinned (OpenSpec.upto hexDigitsSpec)

/-- 'gluepotlaw06.CheckedOrder', WHERE WHAT IT READS IS OF BULK AT MOST 1048576: true; the input reads as it did. -/
def checkedOrderUptoRow : OpenClaim := { program := "ytpnbelgbcmkdnaa", sum := "b6397d9088221db5dcbc0a8f89a8a6ef2945a8b994ece560dc996e398893dd5b", func := "gluepot/gluepotlaw06.CheckedOrder", spec := "checkedOrder", apart := false, narrowed := true }
def CheckedOrderUptoSaid : Prop := checkedOrderUptoRow.holds Try.pinned (OpenSpec.upto checkedOrderSpec)

/-- 'gluepotlaw01.HexPuts', WHERE WHAT IT READS IS OF BULK AT MOST 1048576: true; the input reads as it did. -/
def hexPutsUptoRow : OpenClaim := { program := "ytpnbelgbcmkdnaa", sum := "b6397d9088221db5dcbc0a8f89a8a6ef2945a8b994ece560dc996e398893dd5b", func := "gluepot/gluepotlaw01.HexPuts", spec := "hexPuts", inPlace := ["internal/abi.NoEscape"], apart := false, narrowed := true }
def HexPutsUptoSaid : Prop := hexPutsUptoRow.holds Try.pinned (OpenSpec.upto hexPutsSpec)

/-- 'gluepotlaw01.HexTakes', WHERE WHAT IT READS IS OF BULK AT MOST 1048576: true; the input reads as it did. -/
def hexTakesUptoRow : OpenClaim := { program := "ytpnbelgbcmkdnaa", sum := "b6397d9088221db5dcbc0a8f89a8a6ef2945a8b994ece560dc996e398893dd5b", func := "gluepot/gluepotlaw01.HexTakes", spec := "hexTakes", inPlace := ["internal/abi.NoEscape"], apart := false, narrowed := true }
def HexTakesUptoSaid : Prop := hexTakesUptoRow.holds Try.pinned (OpenSpec.upto hexTakesSpec)

/-- 'gluepotlaw06.CheckedSums', WHERE WHAT IT READS IS OF BULK AT MOST 1048576: true; the input reads as it did. -/
def checkedSumsUptoRow : OpenClaim := { program := "ytpnbelgbcmkdnaa", sum := "b6397d9088221db5dcbc0a8f89a8a6ef2945a8b994ece560dc996e398893dd5b", func := "gluepot/gluepotlaw06.CheckedSums", spec := "checkedSums", apart := false, narrowed := true }
def CheckedSumsUptoSaid : Prop := checkedSumsUptoRow.holds Try.pinned (OpenSpec.upto checkedSumsSpec)

end Rows
end Go.Proofs.Ytpnbelgbcmkdnaa
