import Derived.Test.YtilpincgjlclpaaGreatU13
import Derived.Test.YtilpincgjlclpaaGreatU6
import Derived.Test.YtilpincgjlclpaaGreatU7
import Derived.Test.YtilpincgjlclpaaGreatU8
set_option linter.unusedVariables false
set_option linter.unusedSimpArgs false
section
namespace Go.Proofs.YtilpincgjlclpaaGreat.Ob
open Go Go.RowKit Go.Proofs.ae.au Bs Mp jL Pr
open Tm (mg)
open gJ (iW nK jR gU Ws base nJ jn tx vX zV tT om AL sw)
open uA (iJ oz wi jB)
theorem Kl {w:World} {A:Option Addr} {c0:Nat} {l:List dN} (hC:Kd.C lQ w A l.length l) (hc0:l.length<=c0) (hf:iJ l) (hs:ko l<=6000) (bu mn li:Int):
  Calls Tryz.prog 14 #[.slice A l.length c0,Gs bu mn li] w fun e w'=>Below w.heap.size w w'/\∃Am cm,e= .returned (.tuple #[.slice Am (jk l bu mn li).length cm,WS (rO l bu mn li),.int .i64 (ic l bu mn li)])/\(jk l bu mn li).length<=cm/\Kd.C qj w' Am (jk l bu mn li).length (jk l bu mn li):=by
 refine(Kk hC hc0 hf hs bu mn li w (Below.refl _ w)).mono ?_
 rintro e w' ⟨Av,lv,cv,rfl,ho,hn,hB⟩
 refine⟨hB,?_⟩
 have yE:=lX (bu:=bu) (mn:=mn) (li:=li) hf hs
 unfold jk at *
 by_cases h:ic l bu mn li=0
 ·rw[if_pos h] at yE ⊢
  have ho2:w'.ownsRow w.heap.size Cz 2 (.slice Av lv cv) (rM l bu mn).length ((rM l bu mn).flatMap mW):=ho h
  have hol:(rM l bu mn).length=(mg (kU l bu mn)).length:=by rw[<-qH,List.length_map]
  obtain⟨h1,h2,h3⟩:=vR ho2 (by omega)
  rw[qH] at h3
  rw[h1,hol] at *
  exact⟨Av,cv,rfl,h2,h3⟩
 ·rw[if_neg h]
  have e:=hn h
  cases e
  exact⟨none,0,rfl,Nat.le_refl _,NB⟩
theorem rdM (m:List eu) (i:Nat) (h:i<m.length):bM m (i:Int)=m[i]:=KG m i h
theorem yB {l:List dN} {m:List eu} (hm:m.length<=100000) (hz:∀x∈m,x.f0.size<=300/\x.f1.size<=300) {t:List ByteArray} (ht:t.length<=300) (out:List (List ByteArray)) (ho:out.length<=300) (i:Nat) (hi:i<=300) (k2:Nat) (hk2:400<=k2):∀d j k,j+d=m.length->k=k2+d+1->
  aN.l1 k l m out (i:Int) (nJ (m.take j) t) (j:Int)=aN.l0 k2 l m (out++[nJ m t]) ((i+1:Nat):Int):=by
 intro d
 induction d with
 |zero=>
  intro j k hj hk
  subst hk
  rw[aN.l1,if_neg (by omega),if_pos (by omega),List.take_of_length_le (by omega),wi i (by omega)]
 |succ d ih=>
  intro j k hj hk
  subst hk
  have hlt:j<m.length:=by omega
  have hx:=hz _ (List.getElem_mem hlt)
  have hs:=tT (m.take j) t
  rw[show k2+(d+1)+1=(k2+d+1)+1 by omega,aN.l1,if_pos (by omega),if_pos (by omega),rdM m j hlt,zV (by omega) (by omega) (by omega) (by omega),Option.bind_some,wi j (by omega)]
  have:=ih (j+1) (k2+d+1) (by omega) rfl
  rw[List.take_succ_eq_append_getElem hlt,om] at this
  exact this
theorem Bw {l:List dN} {m:List eu} (hf:iJ l) (hm:m.length<=100000) (hz:∀x∈m,x.f0.size<=300/\x.f1.size<=300):∃K,∀k,K<=k->aN.f k l m=some (Ws (gJ.gB l) m):=by
 have h300:=hf.1
 obtain⟨q,hq⟩:∃q,q=m.length+2:=⟨_,rfl⟩
 have loop:∀d i k,i+d=l.length->d*q+1000<=k->aN.l0 k l m ((l.take i).map fun x=>nJ m (base (tx x.f0))) (i:Int)=some (Ws (gJ.gB l) m):=by
  intro d
  induction d with
  |zero=>
   intro i k hi hk
   obtain⟨k,rfl⟩:∃k',k=k'+1:=⟨k-1,by omega⟩
   rw[aN.l0,if_neg (by omega),List.take_of_length_le (by omega)]
   unfold Ws gJ.gB
   rw[List.map_map]
   rfl
  |succ d ih=>
   intro i k hi hk
   rw[Nat.succ_mul] at hk
   obtain⟨k,rfl⟩:∃k',k=(k'+m.length+1)+1:=⟨k-m.length-2,by omega⟩
   have hlt:i<l.length:=by omega
   have hx:=(hf.2 _ (List.getElem_mem hlt)).1
   rw[aN.l0,if_pos (by omega),if_pos (by omega),jB l i hlt,vX _ (by omega) _ (by omega),Option.bind_some]
   have hb:(base (tx l[i].f0)).length<=300:=by simp[base,tx];omega
   have h1:=yB (l:=l) hm hz hb ((l.take i).map fun x=>nJ m (base (tx x.f0))) (by simp;omega) i (by omega) k (by omega) m.length 0 (k+m.length+1) (by omega) rfl
   rw[List.take_zero] at h1
   have h2:=ih (i+1) k (by omega) (by omega)
   rw[List.take_succ_eq_append_getElem hlt,List.map_append] at h2
   exact h1.trans h2
 refine⟨l.length*q+1000,fun k hk=>?_⟩
 have:=loop l.length 0 k (by omega) hk
 exact this
end Go.Proofs.YtilpincgjlclpaaGreat.Ob
end
section
namespace Go.Proofs.YtilpincgjlclpaaGreat.Ob
open Go Go.RowKit Go.Proofs.ae.au Bs Mp jL Pr
open Tm (mg)
open gJ (iW nK jR gU Ws base nJ jn tx tT om sw pc lG wY)
open uA (iJ oz wi jB)
def iL (W:List (List ByteArray)):Nat:=(W.map List.length).sum
theorem sum_lt {α:Type} (f g:α->Nat):∀{l:List α},(∀x∈l,f x<=g x)->(∃x∈l,f x+1<=g x)->(l.map f).sum+1<=(l.map g).sum
 |[],_,⟨x,hx,_⟩=>by simp at hx
 |y::l,h,⟨x,hx,hlt⟩=>by
  have hle:∀{l:List α},(∀x∈l,f x<=g x)->(l.map f).sum<=(l.map g).sum:=by
   intro l
   induction l with
   |nil=>simp
   |cons z l ih=>
    intro h
    have h1:=ih (fun x hx=>h x (by simp[hx]))
    have h2:=h z (by simp)
    rw[List.map_cons,List.map_cons,List.sum_cons,List.sum_cons]
    omega
  have hy:=h y (by simp)
  rw[List.map_cons,List.map_cons,List.sum_cons,List.sum_cons]
  rcases List.mem_cons.1 hx with rfl|hx
  ·have:=hle (fun z hz=>h z (List.mem_cons_of_mem _ hz))
   omega
  ·have:=sum_lt f g (fun z hz=>h z (List.mem_cons_of_mem _ hz)) ⟨x,hx,hlt⟩
   omega
theorem Oi {ts:List (List UInt8)} {o p:List eu} {x:eu} (h:jR ts (o++x::p)):iL (Ws ts (o++[x]))+1<=iL (Ws ts o):=by
 obtain⟨t,ht,hp⟩:=h o x p rfl
 unfold iL Ws
 rw[List.map_map,List.map_map]
 refine sum_lt _ _ (fun y hy=>?_) ⟨t,ht,?_⟩
 ·show(nJ (o++[x]) (base y)).length<=(nJ o (base y)).length
  rw[om]
  exact lG _
 ·show(nJ (o++[x]) (base t)).length+1<=(nJ o (base t)).length
  rw[om]
  exact wY _ hp
theorem Oh (l:List dN):iL (Ws (gJ.gB l) [])=ko l:=by
 unfold iL Ws gJ.gB ko gB
 rw[List.map_map,List.map_map,List.map_map]
 congr 1
 refine List.map_congr_left fun x _=>?_
 simp[nJ,base,tx]
theorem Ol (l:List dN):fG (gI l)=ko l:=by
 unfold ko
 rw[<-tZ]
 generalize gB l=ts
 induction ts with
 |nil=>rfl
 |cons t ts ih=>
  rw[List.map_cons,List.map_cons,List.sum_cons,fG,ih]
  simp[ids]
theorem fits_l0 (x1:Int) (L:List Int) (hL:L.length<=1000) (hz:∀x∈L,0<=x) (a b c d e f:Int) (h1:b<=x1) (h2:b<=a) (h3:wrap64 (Int.tdiv (wrap64 (c+4)) 5)<=a) (h4:wrap64 (Int.tdiv (wrap64 (e+3)) 5)<=a) (h5:d<=c):∀m i k,i+m=L.length->m+1<=k->ik.l0 k x1 L (L.length:Int) (i:Int) a b c d e f=some true:=by
 intro m
 induction m with
 |zero=>
  intro i k hi hk
  obtain⟨k,rfl⟩:∃k',k=k'+1:=⟨k-1,by omega⟩
  rw[ik.l0,if_neg (by omega),if_pos h1,if_pos h2,if_pos h3,if_pos h4,decide_eq_true h5]
 |succ m ih=>
  intro i k hi hk
  obtain⟨k,rfl⟩:∃k',k=k'+1:=⟨k-1,by omega⟩
  have hlt:i<L.length:=by omega
  have h0:=hz _ (List.getElem_mem hlt)
  rw[ik.l0,if_pos (by omega),if_pos (by omega),if_pos (by omega),gJ.rdI L i hlt,if_neg (by omega),wi i (by omega)]
  exact ih (i+1) k (by omega) (by omega)
theorem wrap_small (y:Int) (h0:0<=y) (h1:y<=1000000):wrap64 y=y:=by unfold wrap64;omega
theorem SB (x j N:Nat) (h:x+j<=5*N+4) (hN:N<=300):wrap64 (Int.tdiv (wrap64 ((x:Int)+(j:Int))) 5)<=(N:Int):=by
 rw[wrap_small ((x:Int)+(j:Int)) (by omega) (by omega),Int.tdiv_eq_ediv_of_nonneg (by omega)]
 obtain⟨y,hy⟩:∃y:Int,y=((x:Int)+(j:Int))/5:=⟨_,rfl⟩
 rw[<-hy]
 have h2:0<=y/\y<=N:=by omega
 rw[wrap_small _ h2.1 (by omega)]
 exact h2.2
structure IV (l:List dN) (bu:Int) (M:List eu) (S:S6):Prop where
 bd:jr.f S.a S.b S.c S.d S.e S.f (ko l) M.length=some true
 ro:S.b<=bu
 fits:∃K,ik.f K S.a S.b S.c S.d S.e S.f bu=some true
 words:∀i,i<=M.length->∃K,aN.f K l (M.take i)=some (Ws (gJ.gB l) (M.take i))
 fall:∀i,i<M.length->iL (Ws (gJ.gB l) (M.take (i+1)))+1<=iL (Ws (gJ.gB l) (M.take i))
 wlen:∀i,∀x∈Ws (gJ.gB l) (M.take i),x.length<=300
 base:iL (Ws (gJ.gB l) (M.take 0))=ko l
theorem XR {l:List dN} {bu mn li:Int} (hf:iJ l) (hs:ko l<=300) (h:ic l bu mn li=0):IV l bu (jk l bu mn li) (rO l bu mn li):=by
 have hn:=lnt hf (show((gB l).map List.length).sum<=6000 by unfold ko at hs;omega) h
 have hlen:=lX (bu:=bu) (mn:=mn) (li:=li) hf (by omega)
 have hok:iW (gJ.gB l) (sw l):=hn.ok
 have hM:jk l bu mn li=mg (kU l bu mn):=by unfold jk;rw[if_pos h]
 have hlr:nK (gJ.gB l) (sw l) bu mn [] (jk l bu mn li):=by rw[hM];exact hn.lrn
 have hz:∀x∈jk l bu mn li,x.f0.size<=300/\x.f1.size<=300:=by rw[hM];exact Ew hn
 have hch:jR (gJ.gB l) (jk l bu mn li):=nK.chain hn.mn1 hlr (fun o x p e=>by simp at e)
 have hbud:=nK.budget hlr (by simpa using hn.bu0)
 have hS:rO l bu mn li=⟨(ko l:Int),((jk l bu mn li).length:Int),((vV l bu mn).pu:Int),((vV l bu mn).po:Int),((vV l bu mn).pe:Int),((vV l bu mn).re:Int)⟩:=by
  unfold rO
  rw[if_pos h,Ol,hM,vS]
 obtain⟨b1,b2,b3,b4⟩:=hn.bnd
 rw[Ol] at b1 b4
 have hro:(jk l bu mn li).length<=ko l:=by rw[hM,vS];exact Nat.le_trans (Nat.le_add_right _ _) b4
 have hw1:∀x:Nat,x<=300->wrap64 (5*(x:Int))=5*(x:Int):=fun x hx=>by unfold wrap64;omega
 have hw2:wrap64 (5*(ko l:Int)+1)=5*(ko l:Int)+1:=by unfold wrap64;omega
 refine⟨?_,?_,?_,fun i hi=>?_,fun i hi=>?_,fun i x hx=>?_,?_⟩
 ·rw[hS]
  unfold jr.f
  simp only
  rw[hw1 _ hs,hw2,if_pos trivial,if_pos trivial,if_pos (by omega),if_pos (by omega),if_pos (by omega),if_pos (by omega),if_pos (by omega),if_pos (by omega),if_pos (by omega)]
  rw[decide_eq_true (by omega)]
 ·rw[hS];exact hbud
 ·rw[hS]
  generalize (vV l bu mn).pu=pu at *
  generalize (vV l bu mn).po=po at *
  generalize (vV l bu mn).pe=pe at *
  generalize (vV l bu mn).re=re at *
  generalize (jk l bu mn li).length=n at *
  generalize ko l=N at *
  have hd1:=SB pu 4 N (by omega) hs
  have hd2:=SB pe 3 N (by omega) hs
  obtain⟨K,hK⟩:∃K,K=7:=⟨_,rfl⟩
  have hl0:=fits_l0 bu [(N:Int),(n:Int),(pu:Int),(po:Int),(pe:Int),(re:Int)] (by simp) (fun x hx=>by
   simp only[List.mem_cons,List.not_mem_nil,or_false] at hx
   omega) (N:Int) (n:Int) (pu:Int) (po:Int) (pe:Int) (re:Int) hbud (by omega) hd1 hd2 (by omega) 6 0 K rfl (by omega)
  refine⟨K,?_⟩
  unfold ik.f
  rw[Option.bind_some]
  exact hl0
 ·obtain⟨K,hK⟩:=Bw (l:=l) (m:=(jk l bu mn li).take i) hf (by rw[List.length_take];omega) (fun x hx=>hz x (List.mem_of_mem_take hx))
  exact⟨K,hK K (Nat.le_refl _)⟩
 ·have hsp:jk l bu mn li=(jk l bu mn li).take i++(jk l bu mn li)[i]::(jk l bu mn li).drop (i+1):=by rw[<-List.drop_eq_getElem_cons hi,List.take_append_drop]
  rw[hsp] at hch
  have:=Oi hch
  rw[<-List.take_succ_eq_append_getElem hi] at this
  exact this
 ·exact hok.lens x hx
 ·rw[List.take_zero];exact Oh l
structure WsF (l:List dN) (M:List eu) (Wf:Nat->List (List ByteArray)):Prop where
 words:∀i,i<=M.length->∃K,aN.f K l (M.take i)=some (Wf i)
 fall:∀i,i<M.length->iL (Wf (i+1))+1<=iL (Wf i)
 small:∀i,i<=M.length->iL (Wf i)<=300
 base:iL (Wf 0)=ko l
 len:∀i,(Wf i).length=l.length
theorem IV.ws {l:List dN} {bu:Int} {M:List eu} {S:S6} (h:IV l bu M S) (hs:ko l<=300):∃Wf,WsF l M Wf:=by
 refine⟨fun i=>Ws (gJ.gB l) (M.take i),h.words,h.fall,fun i=>?_,h.base,fun i=>by simp[Ws,gJ.gB]⟩
 induction i with
 |zero=>intro _;have:=h.base;show iL (Ws (gJ.gB l) (M.take 0))<=300;omega
 |succ i ih=>
  intro hi
  have h1:=ih (by omega)
  have h2:=h.fall i (by omega)
  show iL (Ws (gJ.gB l) (M.take (i+1)))<=300
  have h3:iL (Ws (gJ.gB l) (M.take i))<=300:=h1
  omega
theorem Oj (W:List (List ByteArray)) (k:Nat) (h:k<W.length):iL (W.take (k+1))=iL (W.take k)+W[k].length:=by
 unfold iL
 rw[List.take_succ_eq_append_getElem h,List.map_append,List.sum_append,List.map_cons,List.map_nil,List.sum_cons,List.sum_nil,Nat.add_zero]
theorem Wz (W:List (List ByteArray)) (k:Nat):iL (W.take k)<=iL W:=by
 have:iL W=iL (W.take k)+iL (W.drop k):=by
  unfold iL
  rw[<-List.sum_append,<-List.map_append,List.take_append_drop]
 omega
end Go.Proofs.YtilpincgjlclpaaGreat.Ob
end
