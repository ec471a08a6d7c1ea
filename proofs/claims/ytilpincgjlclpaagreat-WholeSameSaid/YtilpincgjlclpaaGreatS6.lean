import Derived.Laws.CopyOwn
import Derived.Lib.Hide
import Derived.Test.YtilpincgjlclpaaGreatB32
import Derived.Test.YtilpincgjlclpaaGreatB34
import Derived.Test.YtilpincgjlclpaaGreatS1
set_option linter.unusedVariables false
set_option linter.unusedSimpArgs false
section
namespace Go.Proofs.YtilpincgjlclpaaGreat.Ob
open Go Go.RowKit Bs Mp jL
open Pr (gV.f gV.calls)
section
variable {B b:Nat} {m:List (ByteArray×Int)} {S T:Nat->Prop} {w w':World}
theorem Lj.below (h:Lj B w b m S) (f1:Below w.heap.size w w'):Lj B w' b m S:=h.same fun k hk=>f1.block k (h.oq k hk).2
end
end Go.Proofs.YtilpincgjlclpaaGreat.Ob
end
section
namespace Go.Proofs.YtilpincgjlclpaaGreat.Pure
open Go.RowKit Pr Go.Proofs.ae.au Go.Proofs.ae.aZ
open kJ (gap eD rq)
theorem wordsW_len:∀(l op:List UInt8),(jX op l).length<=1+l.length
 |[],op=>by rw[jX,rq];split<;>simp
 |c::l,op=>by
  rw[jX]
  have h1:=wordsW_len l []
  have h2:=wordsW_len l (op++[c])
  split
  ·split<;>simp<;>omega
  ·simp;omega
end Go.Proofs.YtilpincgjlclpaaGreat.Pure
namespace Go.Proofs.YtilpincgjlclpaaGreat.Pure
open Go.RowKit Pr Go.Proofs.ae.au Go.Proofs.ae.aZ
open kJ (gap eD rq)
theorem II (a b:List ByteArray):fZ (a++b)=fZ a++fZ b:=List.flatMap_append
theorem mkB_size' (a:List UInt8):(ym a).size=a.length:=mk_size a
theorem mk_self (s:ByteArray):ym s.data.toList=s:=mk_list s
end Go.Proofs.YtilpincgjlclpaaGreat.Pure
end
