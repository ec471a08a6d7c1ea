import Derived.Test.YtilpincgjlclpaaGreatB37
import Derived.Test.YtilpincgjlclpaaGreatR11
import Derived.Test.YtilpincgjlclpaaGreatR12
set_option linter.unusedVariables false
set_option linter.unusedSimpArgs false
section
namespace Go.Proofs.YtilpincgjlclpaaGreat.Pr
open Go.RowKit Go.Proofs.ae.au Go.Proofs.ae.aZ Go.Proofs.ae.bE
attribute [local go_sem] bQ min2_int cB min_two max_three min_three max_four min_four
def bZ.l0:Nat->List (eu)->ByteArray->Int->Option (ByteArray×Int)
 |0,_,_,_=>none
 |k+1,x0,x6,x7=>if x7<(x0.length:Int) then(if 0<=x7 then((fu.f ((bM x0 x7).f0)).bind fun t201=>(if x6.size+t201.size<=9223372036854775807 then(if(x6++t201).size+1<=9223372036854775807 then((fu.f ((bM x0 x7).f1)).bind fun t203=>(if((x6++t201)++(⟨#[32]⟩:ByteArray)).size+t203.size<=9223372036854775807 then(if(((x6++t201)++(⟨#[32]⟩:ByteArray))++t203).size+1<=9223372036854775807 then(bZ.l0 k x0 ((((x6++t201)++(⟨#[32]⟩:ByteArray))++t203)++(⟨#[10]⟩:ByteArray)) (wrap64 (x7+1))) else(none)) else(none))) else(none)) else(none))) else(none)) else(some (x6,0))
end Go.Proofs.YtilpincgjlclpaaGreat.Pr
end
section
namespace Go.Proofs.YtilpincgjlclpaaGreat.Ob
open Go Go.RowKit Go.Proofs.ae.au Pr Mp jL Hp
open gJ (iW nK jR madeOf vN rR iG)
open Tm (mg)
open uA (iJ jN jW rQ wi jB VX)
theorem Ew {l:List dN} {bu mn li:Int} (h:Lnt l bu mn li):∀x∈mg (kU l bu mn),x.f0.size<=300/\x.f1.size<=300:=fun x hx=>by
 have:=h.siz (x.f0,x.f1) (by rw[tJ];exact List.mem_map.2 ⟨x,hx,rfl⟩)
 exact this
theorem vS (o:List J):(mg o).length=o.length:=by unfold mg;rw[List.length_map]
end Go.Proofs.YtilpincgjlclpaaGreat.Ob
end
