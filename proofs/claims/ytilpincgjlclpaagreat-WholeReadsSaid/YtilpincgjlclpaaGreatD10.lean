import Derived.Laws.CopyOwn
import Derived.Lib.Hide
import Derived.Test.YtilpincgjlclpaaGreatB35
import Derived.Test.YtilpincgjlclpaaGreatD3
set_option linter.unusedVariables false
set_option linter.unusedSimpArgs false
section
namespace Go.Proofs.YtilpincgjlclpaaGreat.Pure
open Go.RowKit Pr Go.Proofs.ae.au Go.Proofs.ae.aZ
open kJ (gap eD rq)
theorem Ji (lim:Int):∀(xs op:List UInt8) (out:List (List UInt8)),(op.length+xs.length:Int)<=lim->(eD lim op xs out).2.1=true/\(eD lim op xs out).1++rq (eD lim op xs out).2.2=out++jX op xs
 |[],op,out,h=>⟨rfl,rfl⟩
 |c::l,op,out,h=>by
  rw[List.length_cons] at h
  rw[eD,jX]
  split
  ·split
   ·rename_i h0
    exact Ji lim l [] out (by simp;omega)
   ·obtain⟨h1,h2⟩:=Ji lim l [] (out++[op]) (by simp;omega)
    exact⟨h1,by rw[h2];simp⟩
  ·rw[if_pos (by omega)]
   exact Ji lim l (op++[c]) out (by simp;omega)
end Go.Proofs.YtilpincgjlclpaaGreat.Pure
namespace Go.Proofs.YtilpincgjlclpaaGreat.Pure
open Go.RowKit Pr Go.Proofs.ae.au Go.Proofs.ae.aZ
open kJ (gap eD rq)
theorem II (a b:List ByteArray):fZ (a++b)=fZ a++fZ b:=List.flatMap_append
end Go.Proofs.YtilpincgjlclpaaGreat.Pure
end
section
namespace Go.Proofs.YtilpincgjlclpaaGreat.Aj
open Go.RowKit Bs Go.Proofs.ae.au
theorem Ou:∀(l:List ByteArray) (i:Nat),(Src.told (-1) i l).2=0/\Pure.fZ (Src.told (-1) i l).1=Pure.fZ l
 |[],i=>by rw[Src.told,if_neg (by omega)];exact⟨rfl,rfl⟩
 |s::r,i=>by
  obtain⟨h1,h2⟩:=Ou r (i+1)
  rw[Src.told,if_neg (by omega)]
  split
  ·rename_i h
   subst h
   exact⟨h1,by rw[h2];simp[Pure.fZ]⟩
  ·refine⟨h1,?_⟩
   simp only[Pure.fZ,List.flatMap_cons] at h2 ⊢
   rw[h2]
end Go.Proofs.YtilpincgjlclpaaGreat.Aj
end
