import Derived.ArgAppend
import Derived.Below
import Derived.BigQuiet
import Derived.Deep.AppendLies
import Derived.Deep.CutBlock
import Derived.Deep.DeepCutAuto
import Derived.Deep.Draws
import Derived.Deep.LoopGhost
import Derived.Deep.OwnRows
import Derived.Deep.QuietTactic
import Derived.Deep.RegionHeld3
import Derived.KernelRfl
import Derived.Laws.BitsLemmas
import Derived.Laws.BytesArg
import Derived.Laws.IdiomCopy
import Derived.Laws.MakeOwn
import Derived.Laws.OwnMore
import Derived.Laws.Rows
import Derived.Laws.Slices
import Derived.Laws.StructEq
import Derived.Lib.AppendStr
import Derived.Lib.ConvBytes
import Derived.Lib.Strings
import Derived.Maps.AppendAt
import Derived.OrdersHeld
import Derived.OwnWalk
import Derived.RowKit
import Derived.RowKit3
import Derived.Tactics
import Derived.Test.YtilpincgjlclpaaGreatProg
import Derived.WalkKit
import Derived.WideLaws
import Derived.Test.YtilpincgjlclpaaGreatB2
import Derived.Test.YtilpincgjlclpaaGreatS0
set_option linter.unusedVariables false
set_option linter.unusedSimpArgs false
section
namespace Go.Proofs.YtilpincgjlclpaaGreat.Pr
open Go.RowKit Go.Proofs.ae.au Go.Proofs.ae.aZ Go.Proofs.ae.bE
attribute [local go_sem] bQ min2_int cB min_two max_three min_three max_four min_four
def qj:Kd eu:=Kd.iso (Kd.pair Kd.string Kd.string) (fun x:eu=>(x.f0,x.f1))
theorem Ep (w:World) (x:eu):qj.K w x [.string x.f0,.string x.f1]:=⟨[.string x.f0],[.string x.f1],rfl,rfl,rfl⟩
end Go.Proofs.YtilpincgjlclpaaGreat.Pr
end
section
namespace Go.Proofs.YtilpincgjlclpaaGreat.Pure
open Go.RowKit Go.Proofs.ae.au
theorem mk_size (l:List UInt8):(⟨l.toArray⟩:ByteArray).size=l.length:=by simp[ByteArray.size]
theorem mk_list (s:ByteArray):(⟨s.data.toList.toArray⟩:ByteArray)=s:=by
 apply ByteArray.ext
 simp
theorem pF (s:ByteArray):s.data.toList.length=s.size:=by simp only[Array.length_toList];rfl
theorem Vb {a b:ByteArray} (h:a.data.toList=b.data.toList):a=b:=by
 apply ByteArray.ext
 exact Array.ext' h
theorem sF (s:ByteArray) (a b:Nat):(s.extract a b).data.toList=(s.data.toList.drop a).take (b-a):=Lib.extract_data s a b
theorem bt_list (s:ByteArray) (i:Nat) (h:i<s.size):bt s (i:Int)=((s.data.toList.getD i 0).toNat:Int):=by
 unfold bt
 rw[Int.toNat_natCast,dif_pos h]
 congr 2
 rw[List.getD_eq_getElem?_getD,List.getElem?_eq_getElem (by simpa using h)]
 rfl
end Go.Proofs.YtilpincgjlclpaaGreat.Pure
end
