import Derived.BigQuiet
import Derived.IntWalk
import Derived.Test.YtilpincgjlclpaaGreatB37
import Derived.Test.YtilpincgjlclpaaGreatU11
set_option linter.unusedVariables false
set_option linter.unusedSimpArgs false
section
namespace Go.Proofs.YtilpincgjlclpaaGreat.Pr
open Go.RowKit Go.Proofs.ae.au Go.Proofs.ae.aZ Go.Proofs.ae.bE
abbrev UW:=eu
def LM (m:List UW):Prop:=m.length<=100000/\(∀x∈m,x.f0.size<=300/\x.f1.size<=300)/\∀i:Fin m.length,(m[i].f0.size=1\/m[i].f0∈(m.take i).map (fun x=>x.f0++x.f1))/\(m[i].f1.size=1\/m[i].f1∈(m.take i).map (fun x=>x.f0++x.f1))/\m[i].f0++m[i].f1∉(m.take i).map (fun x=>x.f0++x.f1)
instance:DecidableEq ByteArray:=fun a b=>decidable_of_iff (a.data=b.data) ⟨fun h=>ByteArray.ext h,fun h=>h▸rfl⟩
instance (x:ByteArray) (l:List ByteArray):Decidable (x∈l):=@List.instDecidableMemOfLawfulBEq _ instBEqOfDecidableEq _ x l
instance (m:List UW):Decidable (LM m):=by unfold LM;infer_instance
theorem KG (l:List UW) (i:Nat) (h:i<l.length):bM l (i:Int)=l[i]:=by
 unfold bM
 rw[Int.toNat_natCast,List.getD_eq_getElem?_getD,List.getElem?_eq_getElem h]
 rfl
end Go.Proofs.YtilpincgjlclpaaGreat.Pr
end
section
namespace Go.Proofs.YtilpincgjlclpaaGreat.Ob
open Go Go.RowKit Go.Proofs.ae.au Pr Mp jL Hp
open gJ (iW nK jR madeOf vN rR iG)
open Tm (mg)
open uA (iJ jN jW rQ wi jB)
theorem Ew {l:List dN} {bu mn li:Int} (h:Lnt l bu mn li):∀x∈mg (kU l bu mn),x.f0.size<=300/\x.f1.size<=300:=fun x hx=>by
 have:=h.siz (x.f0,x.f1) (by rw[tJ];exact List.mem_map.2 ⟨x,hx,rfl⟩)
 exact this
theorem vS (o:List J):(mg o).length=o.length:=by unfold mg;rw[List.length_map]
end Go.Proofs.YtilpincgjlclpaaGreat.Ob
end
