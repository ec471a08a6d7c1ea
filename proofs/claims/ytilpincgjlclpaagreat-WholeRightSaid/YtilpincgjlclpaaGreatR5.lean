import Derived.Test.YtilpincgjlclpaaGreatR4
set_option linter.unusedVariables false
set_option linter.unusedSimpArgs false
section
namespace Go.Proofs.YtilpincgjlclpaaGreat.Pr
open Go.RowKit Go.Proofs.ae.au Go.Proofs.ae.aZ Go.Proofs.ae.bE
attribute [local go_sem] bQ min2_int cB min_two max_three min_three max_four min_four
attribute [local go_sem high] eqA47
def dX.l0:Nat->List (eu)->List (eu)->Int->Option (Bool)
 |0,_,_,_=>none
 |k+1,x0,x1,x5=>if x5<(x0.length:Int) then(if 0<=x5 then(if x5<(x1.length:Int) then(if(!((((bM x0 x5).f0).toList)==(((bM x1 x5).f0).toList))||(!((((bM x0 x5).f1).toList)==(((bM x1 x5).f1).toList))))=true then(some false) else(dX.l0 k x0 x1 (wrap64 (x5+1)))) else(none)) else(none)) else(some true)
end Go.Proofs.YtilpincgjlclpaaGreat.Pr
end
section
namespace Go.Proofs.YtilpincgjlclpaaGreat.Pr
open Go.RowKit Go.Proofs.ae.au Go.Proofs.ae.aZ Go.Proofs.ae.bE
attribute [local go_sem] bQ min2_int cB min_two max_three min_three max_four min_four
def dK.l0:Nat->ByteArray->List (eu)->Int->Option (Bool)
 |0,_,_,_=>none
 |k+1,x0,x1,x5=>if x5<(x1.length:Int) then(if 0<=x5 then(if((bM x1 x5).f0).size+((bM x1 x5).f1).size<=9223372036854775807 then(if(((bM x1 x5).f0)++((bM x1 x5).f1)).toList=x0.toList then(some true) else(dK.l0 k x0 x1 (wrap64 (x5+1)))) else(none)) else(none)) else(some false)
end Go.Proofs.YtilpincgjlclpaaGreat.Pr
end
