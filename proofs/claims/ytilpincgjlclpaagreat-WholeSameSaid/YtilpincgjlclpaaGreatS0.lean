import Derived.ArgAppend
import Derived.Below
import Derived.BigQuiet
import Derived.Deep.AppendLies
import Derived.Deep.CutBlock
import Derived.Deep.DeepCutAuto
import Derived.Deep.Draws
import Derived.Deep.LoopGhost
import Derived.Deep.OwnRows
import Derived.Deep.QuietTactic
import Derived.Deep.RegionHeld3
import Derived.KernelRfl
import Derived.Laws.BytesArg
import Derived.Laws.IdiomCopy
import Derived.Laws.MakeOwn
import Derived.Laws.OwnMore
import Derived.Laws.Rows
import Derived.Laws.Slices
import Derived.Lib.AppendStr
import Derived.Lib.ConvBytes
import Derived.Maps.AppendAt
import Derived.OwnWalk
import Derived.RowKit
import Derived.RowKit3
import Derived.Tactics
import Derived.WalkKit
import Derived.WideLaws
import Derived.Test.YtilpincgjlclpaaGreatB0
set_option linter.unusedVariables false
set_option linter.unusedSimpArgs false
section
namespace Go.Proofs.ae.au
open Go.RowKit
theorem bt_at (s:ByteArray) (i:Int):∀h:i.toNat<s.size,((s[i.toNat]'h).toNat:Int)=bt s i:=fun h=>by simp[bt,h]
end Go.Proofs.ae.au
end
section
namespace Go.Proofs.ae.au
open Go.RowKit
namespace Kd
def tag {α:Type} (f:Nat->Nat) (d:Kd α):Kd (α×Nat) where
 sz:=d.sz
 E:=d.E
 K:=fun w x cs=>d.K w x.1 cs
 M:=fun w base ok x cs=>d.M w base (fun k=>ok k/\f k=x.2) x.1 cs
 oI:=fun h=>d.oI h
 pJ:=fun h=>d.pJ h
 kN:=fun hb h=>d.kN hb h
 ku:=fun h=>d.ku h
 gP:=fun hok h=>d.gP (fun k hk=>⟨hok k hk.1,hk.2⟩) h
 jP:=fun h=>d.gP (fun _ hk=>⟨⟨hk.1.1,hk.2⟩,hk.1.2⟩) (d.jP h)
 lK:=fun hm h=>d.lK (fun k hk=>hm k hk.1) h
 kP:=fun hb h=>d.kP hb h
def S {α:Type} (d:Kd α) (e:Nat) (w:World) (base:Nat) (ok:Nat->Prop) (v:Value) (xs:List α):Prop:=∃f,(tag f d).R e w base ok v xs.zipIdx
end Kd
end Go.Proofs.ae.au
end
