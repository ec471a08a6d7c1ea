import Derived.Test.YtilpincgjlclpaaGreatB28
import Derived.Test.YtilpincgjlclpaaGreatU3
import Derived.Test.YtilpincgjlclpaaGreatU4
set_option linter.unusedVariables false
set_option linter.unusedSimpArgs false
section
namespace Go.Proofs.YtilpincgjlclpaaGreat.gJ
open Go.RowKit Go.Proofs.ae.au Pr Mp
theorem rdI (l:List Int) (i:Nat) (h:i<l.length):rd l (i:Int)=l[i]:=by
 unfold rd
 rw[Int.toNat_natCast]
 simp[h]
end Go.Proofs.YtilpincgjlclpaaGreat.gJ
end
section
namespace Go.Proofs.YtilpincgjlclpaaGreat.gJ
open Go.RowKit Go.Proofs.ae.au Pr
open uA (oz iJ good ql iR kT kK jB)
section
variable {ts:List (List UInt8)} {cs:List Int} {o:List eu}
theorem gU.there {L R:ByteArray} {n:Int} (hb:gU (Ws ts o) cs L R n) (h1:1<=n):∃t∈ts,1<=pc L R (nJ o (base t)):=by
 have:=hb.wc h1
 obtain⟨i,w,c,h3,_,_,h4⟩:=tX (a:=L) (b:=R) (ws:=Ws ts o) (cs:=cs) (by omega)
 obtain⟨t,ht,rfl⟩:=List.mem_map.1 (List.mem_of_getElem? h3)
 exact⟨t,ht,h4⟩
theorem nK.chain {budget least:Int} {r:List eu} (hl:1<=least) (h:nK ts cs budget least o r) (hc:jR ts o):jR ts r:=by
 induction h with
 |full _=>exact hc
 |stop _ _ _=>exact hc
 |step _ h2 h3 _ ih=>exact ih (hc.snoc (h2.there (by omega)))
end
end Go.Proofs.YtilpincgjlclpaaGreat.gJ
end
