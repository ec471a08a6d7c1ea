import Derived.Test.YtilpincgjlclpaaGreatB30
import Derived.Test.YtilpincgjlclpaaGreatR10
import Derived.Test.YtilpincgjlclpaaGreatR2
import Derived.Test.YtilpincgjlclpaaGreatR3
import Derived.Test.YtilpincgjlclpaaGreatR5
set_option linter.unusedVariables false
set_option linter.unusedSimpArgs false
section
namespace Go.Proofs.YtilpincgjlclpaaGreat.uA
open Go.RowKit Pr Go.Proofs.ae.au Go.Proofs.ae.aZ
theorem VX (l:List eu) (i:Nat) (h:i<l.length):bM l (i:Int)=l[i]:=by
 unfold bM
 rw[Int.toNat_natCast,List.getD_eq_getElem?_getD,List.getElem?_eq_getElem h]
 rfl
end Go.Proofs.YtilpincgjlclpaaGreat.uA
end
section
namespace Go.Proofs.YtilpincgjlclpaaGreat.gJ
open Go.RowKit Go.Proofs.ae.au Pr
open uA (oz iJ good ql iR kT kK jB)
section
variable {ts:List (List UInt8)} {cs:List Int} {o:List eu}
theorem gU.there {L R:ByteArray} {n:Int} (hb:gU (Ws ts o) cs L R n) (h1:1<=n):∃t∈ts,1<=pc L R (nJ o (base t)):=by
 have:=hb.wc h1
 obtain⟨i,w,c,h3,_,_,h4⟩:=tX (a:=L) (b:=R) (ws:=Ws ts o) (cs:=cs) (by omega)
 obtain⟨t,ht,rfl⟩:=List.mem_map.1 (List.mem_of_getElem? h3)
 exact⟨t,ht,h4⟩
theorem nK.chain {budget least:Int} {r:List eu} (hl:1<=least) (h:nK ts cs budget least o r) (hc:jR ts o):jR ts r:=by
 induction h with
 |full _=>exact hc
 |stop _ _ _=>exact hc
 |step _ h2 h3 _ ih=>exact ih (hc.snoc (h2.there (by omega)))
end
end Go.Proofs.YtilpincgjlclpaaGreat.gJ
end
section
namespace Go.Proofs.YtilpincgjlclpaaGreat.gJ
open Go.RowKit Go.Proofs.ae.au Pr
open uA (oz iJ jB VX)
theorem vD (l:List dN) (B:Int) (hl:l.length<=9223372036854775807):∃b,(∀k,l.length+1<=k->aQ.f k l B=some b)/\(b=false->(l.length:Int)<=B/\∀x∈l,x.f0.size<=100):=by
 have loop:∀m i,i+m=l.length->∃b,(∀k,m+1<=k->aQ.l0 k l B (i:Int)=some b)/\(b=false->(l.length:Int)<=B/\∀x∈l.drop i,x.f0.size<=100):=by
  intro m
  induction m with
  |zero=>
   intro i hi
   refine⟨decide ((l.length:Int)>B),fun k hk=>?_,fun h=>⟨by have:=of_decide_eq_false h;omega,fun x hx=>?_⟩⟩
   ·obtain⟨k,rfl⟩:∃k',k=k'+1:=⟨k-1,by omega⟩
    rw[aQ.l0,if_neg (by omega)]
   ·rw[List.drop_of_length_le (by omega)] at hx;cases hx
  |succ m ih=>
   intro i hi
   have hlt:i<l.length:=by omega
   have hd:l.drop i=l[i]::l.drop (i+1):=List.drop_eq_getElem_cons hlt
   by_cases h:((l[i].f0.size:Nat):Int)>100
   ·refine⟨true,fun k hk=>?_,fun h=>by cases h⟩
    obtain⟨k,rfl⟩:∃k',k=k'+1:=⟨k-1,by omega⟩
    rw[aQ.l0,if_pos (by omega),if_pos (by omega),jB l i hlt,if_pos h]
   ·obtain⟨b,hb,hf⟩:=ih (i+1) (by omega)
    refine⟨b,fun k hk=>?_,fun hb=>⟨(hf hb).1,fun x hx=>?_⟩⟩
    ·obtain⟨k,rfl⟩:∃k',k=k'+1:=⟨k-1,by omega⟩
     rw[aQ.l0,if_pos (by omega),if_pos (by omega),jB l i hlt,if_neg h,wi i (by omega)]
     exact hb k (by omega)
    ·rw[hd] at hx
     rcases List.mem_cons.1 hx with rfl|hx
     ·omega
     ·exact(hf hb).2 x hx
 obtain⟨b,h1,h2⟩:=loop l.length 0 (by omega)
 exact⟨b,h1,fun h=>by simpa using h2 h⟩
end Go.Proofs.YtilpincgjlclpaaGreat.gJ
end
