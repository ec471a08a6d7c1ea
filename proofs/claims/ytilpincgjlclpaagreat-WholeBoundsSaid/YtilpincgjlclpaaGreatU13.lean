import Derived.Test.YtilpincgjlclpaaGreatU12
set_option linter.unusedVariables false
set_option linter.unusedSimpArgs false
section
namespace Go.Proofs.YtilpincgjlclpaaGreat.Ob
open Go Go.RowKit Go.Proofs.ae.au Bs Mp jL Pr
open Tm (mg)
open gJ (vD)
open uA (iJ oz wi jB jN iR ql)
def ko (l:List dN):Nat:=((gB l).map List.length).sum
theorem xk (l:List dN) (hl:l.length<=1000) (hz:∀x∈l,x.f0.size<=300) (k:Nat) (hk:l.length+1<=k):aA.f k l=some ((ko l:Nat):Int):=by
 have loop:∀m i k (n:Nat),i+m=l.length->m+1<=k->n<=i*300->aA.l0 k l (n:Int) (i:Int)=some ((n+ko (l.drop i):Nat):Int):=by
  intro m
  induction m with
  |zero=>
   intro i k n hi hk hn
   obtain⟨k,rfl⟩:∃k',k=k'+1:=⟨k-1,by omega⟩
   rw[aA.l0,if_neg (by omega),List.drop_of_length_le (by omega)]
   simp[ko,gB]
  |succ m ih=>
   intro i k n hi hk hn
   obtain⟨k,rfl⟩:∃k',k=k'+1:=⟨k-1,by omega⟩
   have hlt:i<l.length:=by omega
   have h3:=hz _ (List.getElem_mem hlt)
   have hw:wrap64 ((n:Int)+(l[i].f0.size:Int))=((n+l[i].f0.size:Nat):Int):=by unfold wrap64;omega
   have e:l[i].f0.data.toList.length=l[i].f0.size:=by simp
   rw[aA.l0,if_pos (by omega),if_pos (by omega),jB l i hlt,wi i (by omega),hw,ih (i+1) k _ (by omega) (by omega) (by omega),List.drop_eq_getElem_cons hlt]
   unfold ko gB
   rw[List.map_cons,List.map_cons,List.sum_cons,e,Nat.add_assoc]
 have:=loop l.length 0 k 0 (by omega) hk (by omega)
 simpa[aA.f] using this
theorem zh (l:List dN) (hl:l.length<=maxLen) (hi:∀x∈l,oz x.f1):∃b,dR.f (l.length+1) l=some b/\(b=false->iJ l/\ko l<=300/\l.length<=60):=by
 obtain⟨b,h1,h2⟩:=vD l 60 (by unfold maxLen at hl;omega)
 unfold dR.f
 rw[h1 _ (Nat.le_refl _),Option.bind_some]
 cases b with
 |true=>exact⟨true,rfl,fun h=>by cases h⟩
 |false=>
  obtain⟨h3,h4⟩:=h2 rfl
  rw[if_neg (by decide),xk l (by omega) (fun x hx=>by have:=h4 x hx;omega) _ (Nat.le_refl _),Option.bind_some]
  refine⟨_,rfl,fun h=>⟨⟨by omega,fun x hx=>⟨by have:=h4 x hx;omega,hi x hx⟩⟩,?_,by omega⟩⟩
  have:=of_decide_eq_false h
  omega
def mS (x:ByteArray×ByteArray):eu:=⟨x.1,x.2⟩
theorem vR {w:World} {B:Nat} {A:Option Addr} {n c:Nat} {T:List (ByteArray×ByteArray)} (h:w.ownsRow B Cz 2 (.slice A n c) T.length (T.flatMap mW)) (hl:T.length<=1000000):n=T.length/\T.length<=c/\Kd.C qj w A (T.map mS).length (T.map mS):=by
 rcases h.2 with⟨e,h0⟩|⟨g,cap,cur,e,hg,hb,hc,hm,hs,ht⟩
 ·cases e
  have:T=[]:=List.eq_nil_of_length_eq_zero h0
  subst this
  exact⟨rfl,Nat.le_refl _,⟨rfl,by simp,fun h=>by simp at h⟩⟩
 ·cases e
  refine⟨rfl,hc,⟨rfl,by rw[List.length_map];omega,fun hp=>⟨_,rfl,fun j p hj=>?_⟩⟩⟩
  rw[List.getElem?_map] at hj
  obtain⟨x,hx,rfl⟩:=Option.map_eq_some_iff.1 hj
  obtain⟨g',e',_,_,_,hcell,_⟩:=gz h (by rw[List.length_map] at hp;exact hp)
  cases e'
  obtain⟨h1,h2⟩:=yY hx
  have a0:=hcell _ _ h1
  have a1:=hcell _ _ h2
  refine⟨_,rfl,Ep w (mS x),fun i u hi=>?_⟩
  have hadd:∀k:Nat,(⟨g,0,none⟩:Addr).add k=⟨g,k,none⟩:=fun k=>by unfold Addr.add;split<;>simp_all
  match i,hi with
  |0,hi=>
   simp at hi
   subst hi
   rw[hadd]
   exact a0
  |1,hi=>
   simp at hi
   subst hi
   rw[hadd]
   exact a1
open Classical in
noncomputable def jk (l:List dN) (bu mn li:Int):List eu:=if ic l bu mn li=0 then mg (kU l bu mn) else[]
theorem lX {l:List dN} {bu mn li:Int} (hf:iJ l) (hs:ko l<=6000):(jk l bu mn li).length<=100000:=by
 unfold jk
 split
 ·rename_i h
  rw[vS]
  exact(lnt hf hs h).len
 ·simp
theorem qH (l:List dN) (bu mn:Int):(rM l bu mn).map mS=mg (kU l bu mn):=by
 unfold rM
 rw[tJ,List.map_map]
 conv=>rhs;rw[<-List.map_id (mg (kU l bu mn))]
 rfl
theorem NB {w:World}:Kd.C qj w none 0 []:=⟨rfl,by simp,fun h=>by simp at h⟩
end Go.Proofs.YtilpincgjlclpaaGreat.Ob
end
section
namespace Go.Proofs.YtilpincgjlclpaaGreat.gJ
open Go.RowKit Go.Proofs.ae.au Pr
open uA (oz iJ jB)
theorem rdM (l:List ByteArray) (i:Nat) (h:i<l.length):dH ByteArray.empty l (i:Int)=l[i]:=WR l i h
end Go.Proofs.YtilpincgjlclpaaGreat.gJ
end
