import Derived.BigQuiet
import Derived.IntWalk
import Derived.Lib.Strings
import Derived.Test.YtilpincgjlclpaaGreatB31
import Derived.Test.YtilpincgjlclpaaGreatR10
import Derived.Test.YtilpincgjlclpaaGreatR2
import Derived.Test.YtilpincgjlclpaaGreatR3
import Derived.Test.YtilpincgjlclpaaGreatR5
set_option linter.unusedVariables false
set_option linter.unusedSimpArgs false
section
namespace Go.Proofs.YtilpincgjlclpaaGreat.Pr
open Go.RowKit Bs Go.Proofs.ae.au Go.Proofs.ae.aZ Go.Proofs.ae.bE
def fu.f (a0:ByteArray):Option ByteArray:=if a0.size*2<=140737488355328 then some ⟨(iK a0.data.toList).toArray⟩ else none
end Go.Proofs.YtilpincgjlclpaaGreat.Pr
end
section
namespace Go.Proofs.YtilpincgjlclpaaGreat.Pr
open Go.RowKit Go.Proofs.ae.au Go.Proofs.ae.aZ Go.Proofs.ae.bE
attribute [local go_sem] bQ min2_int cB min_two max_three min_three max_four min_four
def dh.l0:Nat->List (dN)->Int->Int->Int->Int->Option ((List (eu))×Int)
 |0,_,_,_,_,_=>none
 |k+1,x0,x7,UE,UF,UG=>if x7<(x0.length:Int) then(if 0<=x7 then(if(((aU x0 x7).f0).size:Int)>UG then(some (([]:List (eu)),4)) else(dh.l0 k x0 (wrap64 (x7+1)) UE UF UG)) else(none)) else((aH.f k x0).bind fun bt173=>(if bt173.2=0 then((av.f k x0 UE UF).bind fun t175=>(some (t175,0))) else(some (([]:List (eu)),bt173.2))))
end Go.Proofs.YtilpincgjlclpaaGreat.Pr
end
section
namespace Go.Proofs.YtilpincgjlclpaaGreat.Pr
open Go.RowKit Go.Proofs.ae.au Go.Proofs.ae.aZ Go.Proofs.ae.bE
abbrev UW:=eu
def LM (m:List UW):Prop:=m.length<=100000/\(∀x∈m,x.f0.size<=300/\x.f1.size<=300)/\∀i:Fin m.length,(m[i].f0.size=1\/m[i].f0∈(m.take i).map (fun x=>x.f0++x.f1))/\(m[i].f1.size=1\/m[i].f1∈(m.take i).map (fun x=>x.f0++x.f1))/\m[i].f0++m[i].f1∉(m.take i).map (fun x=>x.f0++x.f1)
instance:DecidableEq ByteArray:=fun a b=>decidable_of_iff (a.data=b.data) ⟨fun h=>ByteArray.ext h,fun h=>h▸rfl⟩
instance (x:ByteArray) (l:List ByteArray):Decidable (x∈l):=@List.instDecidableMemOfLawfulBEq _ instBEqOfDecidableEq _ x l
instance (m:List UW):Decidable (LM m):=by unfold LM;infer_instance
theorem KG (l:List UW) (i:Nat) (h:i<l.length):bM l (i:Int)=l[i]:=by
 unfold bM
 rw[Int.toNat_natCast,List.getD_eq_getElem?_getD,List.getElem?_eq_getElem h]
 rfl
end Go.Proofs.YtilpincgjlclpaaGreat.Pr
end
