import Derived.Test.YtilpincgjlclpaaGreatB30
import Derived.Test.YtilpincgjlclpaaGreatU10
import Derived.Test.YtilpincgjlclpaaGreatU5
set_option linter.unusedVariables false
set_option linter.unusedSimpArgs false
namespace Go.Proofs.YtilpincgjlclpaaGreat.gJ
open Go.RowKit Go.Proofs.ae.au Pr
open uA (oz iJ jB)
theorem vD (l:List dN) (B:Int) (hl:l.length<=9223372036854775807):∃b,(∀k,l.length+1<=k->aQ.f k l B=some b)/\(b=false->(l.length:Int)<=B/\∀x∈l,x.f0.size<=100):=by
 have loop:∀m i,i+m=l.length->∃b,(∀k,m+1<=k->aQ.l0 k l B (i:Int)=some b)/\(b=false->(l.length:Int)<=B/\∀x∈l.drop i,x.f0.size<=100):=by
  intro m
  induction m with
  |zero=>
   intro i hi
   refine⟨decide ((l.length:Int)>B),fun k hk=>?_,fun h=>⟨by have:=of_decide_eq_false h;omega,fun x hx=>?_⟩⟩
   ·obtain⟨k,rfl⟩:∃k',k=k'+1:=⟨k-1,by omega⟩
    rw[aQ.l0,if_neg (by omega)]
   ·rw[List.drop_of_length_le (by omega)] at hx;cases hx
  |succ m ih=>
   intro i hi
   have hlt:i<l.length:=by omega
   have hd:l.drop i=l[i]::l.drop (i+1):=List.drop_eq_getElem_cons hlt
   by_cases h:((l[i].f0.size:Nat):Int)>100
   ·refine⟨true,fun k hk=>?_,fun h=>by cases h⟩
    obtain⟨k,rfl⟩:∃k',k=k'+1:=⟨k-1,by omega⟩
    rw[aQ.l0,if_pos (by omega),if_pos (by omega),jB l i hlt,if_pos h]
   ·obtain⟨b,hb,hf⟩:=ih (i+1) (by omega)
    refine⟨b,fun k hk=>?_,fun hb=>⟨(hf hb).1,fun x hx=>?_⟩⟩
    ·obtain⟨k,rfl⟩:∃k',k=k'+1:=⟨k-1,by omega⟩
     rw[aQ.l0,if_pos (by omega),if_pos (by omega),jB l i hlt,if_neg h,wi i (by omega)]
     exact hb k (by omega)
    ·rw[hd] at hx
     rcases List.mem_cons.1 hx with rfl|hx
     ·omega
     ·exact(hf hb).2 x hx
 obtain⟨b,h1,h2⟩:=loop l.length 0 (by omega)
 exact⟨b,h1,fun h=>by simpa using h2 h⟩
end Go.Proofs.YtilpincgjlclpaaGreat.gJ
