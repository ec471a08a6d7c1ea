import Derived.Test.YtilpincgjlclpaaGreatB21
import Derived.Test.YtilpincgjlclpaaGreatB27
set_option linter.unusedVariables false
set_option linter.unusedSimpArgs false
section
namespace Go.Proofs.YtilpincgjlclpaaGreat.Pr
open Go.RowKit Go.Proofs.ae.au Go.Proofs.ae.aZ Go.Proofs.ae.bE
attribute [local go_sem] bQ min2_int cB min_two max_three min_three max_four min_four
mutual
def av.j0:Nat->List (dN)->Int->Int->List (eu)->Bool->Option ((List (eu)))
 |0,_,_,_,_,_=>none
 |k+1,x0,x1,x2,x7,x27=>if x27=true then(some x7) else(av.l0 k x0 x1 x2 x7 ([]:List (List ByteArray)) ([]:List Int) 0)
def av.l0:Nat->List (dN)->Int->Int->List (eu)->List (List ByteArray)->List Int->Int->Option ((List (eu)))
 |0,_,_,_,_,_,_,_=>none
 |k+1,x0,x1,x2,x7,qo,IP,wE=>if wE<(x0.length:Int) then(if 0<=wE then((aR.f k ((aU x0 wE).f0)).bind fun t146=>(if qo.length<5864062014805 then(if IP.length<17592186044416 then(av.l0 k x0 x1 x2 x7 (qo++[t146]) (IP++[(aU x0 wE).f1]) (wrap64 (wE+1))) else(none)) else(none))) else(none)) else(av.l1 k x1 x2 x7 qo IP)
def av.l1:Nat->Int->Int->List (eu)->List (List ByteArray)->List Int->Option ((List (eu)))
 |0,_,_,_,_,_=>none
 |k+1,x1,x2,x7,qo,IP=>if(x7.length:Int)<x1 then((fw.f qo IP).bind fun Me=>(if Me.2.2<x2 then(some x7) else(if x7.length<4398046511104 then(av.l2 k x1 x2 (x7++[(⟨Me.1,Me.2.1⟩:eu)]) qo IP ([]:List (List ByteArray)) 0 Me.1 Me.2.1) else(none)))) else(some x7)
def av.l2:Nat->Int->Int->List (eu)->List (List ByteArray)->List Int->List (List ByteArray)->Int->ByteArray->ByteArray->Option ((List (eu)))
 |0,_,_,_,_,_,_,_,_,_=>none
 |k+1,x1,x2,x7,qo,IP,x15,x16,UC,UD=>if x16<(qo.length:Int) then(if 0<=x16 then((aG.f k (lh qo x16) UC UD).bind fun t164=>(if x15.length<5864062014805 then(av.l2 k x1 x2 x7 qo IP (x15++[t164]) (wrap64 (x16+1)) UC UD) else(none))) else(none)) else(av.l1 k x1 x2 x7 x15 IP)
end
def av.f (k:Nat) (l0:List (dN)) (a1:Int) (a2:Int):Option ((List (eu))):=(aH.f k l0).bind fun XT=>(if XT.2=0 then(av.j0 k l0 a1 a2 ([]:List (eu)) (decide (a2<1))) else(av.j0 k l0 a1 a2 ([]:List (eu)) true))
theorem av.nG:∀k,(∀y0 y1 y2 y3 y4,iM (av.j0 k y0 y1 y2 y3 y4) (av.j0 (k+1) y0 y1 y2 y3 y4))/\(∀y0 y1 y2 y3 y4 y5 y6,iM (av.l0 k y0 y1 y2 y3 y4 y5 y6) (av.l0 (k+1) y0 y1 y2 y3 y4 y5 y6))/\(∀y0 y1 y2 y3 y4,iM (av.l1 k y0 y1 y2 y3 y4) (av.l1 (k+1) y0 y1 y2 y3 y4))/\(∀y0 y1 y2 y3 y4 y5 y6 y7 y8,iM (av.l2 k y0 y1 y2 y3 y4 y5 y6 y7 y8) (av.l2 (k+1) y0 y1 y2 y3 y4 y5 y6 y7 y8))
 |0=>⟨fun _ _ _ _ _ r h=>by simp[av.j0] at h,fun _ _ _ _ _ _ _ r h=>by simp[av.l0] at h,fun _ _ _ _ _ r h=>by simp[av.l1] at h,fun _ _ _ _ _ _ _ _ _ r h=>by simp[av.l2] at h⟩
 |k+1=>by
  obtain⟨uy,ih1,ih2,ih3⟩:=av.nG k
  refine⟨?_,?_,?_,?_⟩
  ·intro y0 y1 y2 y3 y4
   unfold av.j0
   repeat' first
   |(with_reducible exact uy _ _ _ _ _)
   |(with_reducible exact ih1 _ _ _ _ _ _ _)
   |(with_reducible exact ih2 _ _ _ _ _)
   |(with_reducible exact ih3 _ _ _ _ _ _ _ _ _)
   |(with_reducible exact aH.mono _ _)
   |(with_reducible exact aG.mono _ _ _ _)
   |(with_reducible exact aR.mono _ _)
   |(with_reducible exact iM.refl _)
   |(with_reducible exact iM.none _)
   |(with_reducible refine iM.ite ?_ ?_)
   |(with_reducible refine iM.bind ?_ (fun _=>?_))
   |exact uy _ _ _ _ _
   |exact ih1 _ _ _ _ _ _ _
   |exact ih2 _ _ _ _ _
   |exact ih3 _ _ _ _ _ _ _ _ _
   |exact aH.mono _ _
   |exact aG.mono _ _ _ _
   |exact aR.mono _ _
   |exact iM.none _
   |refine iM.ite ?_ ?_
   |refine iM.bind ?_ (fun _=>?_)
  ·intro y0 y1 y2 y3 y4 y5 y6
   unfold av.l0
   repeat' first
   |(with_reducible exact uy _ _ _ _ _)
   |(with_reducible exact ih1 _ _ _ _ _ _ _)
   |(with_reducible exact ih2 _ _ _ _ _)
   |(with_reducible exact ih3 _ _ _ _ _ _ _ _ _)
   |(with_reducible exact aH.mono _ _)
   |(with_reducible exact aG.mono _ _ _ _)
   |(with_reducible exact aR.mono _ _)
   |(with_reducible exact iM.refl _)
   |(with_reducible exact iM.none _)
   |(with_reducible refine iM.ite ?_ ?_)
   |(with_reducible refine iM.bind ?_ (fun _=>?_))
   |exact uy _ _ _ _ _
   |exact ih1 _ _ _ _ _ _ _
   |exact ih2 _ _ _ _ _
   |exact ih3 _ _ _ _ _ _ _ _ _
   |exact aH.mono _ _
   |exact aG.mono _ _ _ _
   |exact aR.mono _ _
   |exact iM.none _
   |refine iM.ite ?_ ?_
   |refine iM.bind ?_ (fun _=>?_)
  ·intro y0 y1 y2 y3 y4
   unfold av.l1
   repeat' first
   |(with_reducible exact uy _ _ _ _ _)
   |(with_reducible exact ih1 _ _ _ _ _ _ _)
   |(with_reducible exact ih2 _ _ _ _ _)
   |(with_reducible exact ih3 _ _ _ _ _ _ _ _ _)
   |(with_reducible exact aH.mono _ _)
   |(with_reducible exact aG.mono _ _ _ _)
   |(with_reducible exact aR.mono _ _)
   |(with_reducible exact iM.refl _)
   |(with_reducible exact iM.none _)
   |(with_reducible refine iM.ite ?_ ?_)
   |(with_reducible refine iM.bind ?_ (fun _=>?_))
   |exact uy _ _ _ _ _
   |exact ih1 _ _ _ _ _ _ _
   |exact ih2 _ _ _ _ _
   |exact ih3 _ _ _ _ _ _ _ _ _
   |exact aH.mono _ _
   |exact aG.mono _ _ _ _
   |exact aR.mono _ _
   |exact iM.none _
   |refine iM.ite ?_ ?_
   |refine iM.bind ?_ (fun _=>?_)
  ·intro y0 y1 y2 y3 y4 y5 y6 y7 y8
   unfold av.l2
   repeat' first
   |(with_reducible exact uy _ _ _ _ _)
   |(with_reducible exact ih1 _ _ _ _ _ _ _)
   |(with_reducible exact ih2 _ _ _ _ _)
   |(with_reducible exact ih3 _ _ _ _ _ _ _ _ _)
   |(with_reducible exact aH.mono _ _)
   |(with_reducible exact aG.mono _ _ _ _)
   |(with_reducible exact aR.mono _ _)
   |(with_reducible exact iM.refl _)
   |(with_reducible exact iM.none _)
   |(with_reducible refine iM.ite ?_ ?_)
   |(with_reducible refine iM.bind ?_ (fun _=>?_))
   |exact uy _ _ _ _ _
   |exact ih1 _ _ _ _ _ _ _
   |exact ih2 _ _ _ _ _
   |exact ih3 _ _ _ _ _ _ _ _ _
   |exact aH.mono _ _
   |exact aG.mono _ _ _ _
   |exact aR.mono _ _
   |exact iM.none _
   |refine iM.ite ?_ ?_
   |refine iM.bind ?_ (fun _=>?_)
theorem av.mono:∀a0 a1 a2 k,iM (av.f k a0 a1 a2) (av.f (k+1) a0 a1 a2):=by
 intro a0 a1 a2 k
 obtain⟨uy,ih1,ih2,ih3⟩:=av.nG k
 unfold av.f
 repeat' first
   |(with_reducible exact uy _ _ _ _ _)
   |(with_reducible exact ih1 _ _ _ _ _ _ _)
   |(with_reducible exact ih2 _ _ _ _ _)
   |(with_reducible exact ih3 _ _ _ _ _ _ _ _ _)
   |(with_reducible exact aH.mono _ _)
   |(with_reducible exact aG.mono _ _ _ _)
   |(with_reducible exact aR.mono _ _)
   |(with_reducible exact iM.refl _)
   |(with_reducible exact iM.none _)
   |(with_reducible refine iM.ite ?_ ?_)
   |(with_reducible refine iM.bind ?_ (fun _=>?_))
   |exact uy _ _ _ _ _
   |exact ih1 _ _ _ _ _ _ _
   |exact ih2 _ _ _ _ _
   |exact ih3 _ _ _ _ _ _ _ _ _
   |exact aH.mono _ _
   |exact aG.mono _ _ _ _
   |exact aR.mono _ _
   |exact iM.none _
   |refine iM.ite ?_ ?_
   |refine iM.bind ?_ (fun _=>?_)
end Go.Proofs.YtilpincgjlclpaaGreat.Pr
end
section
namespace Go.Proofs.YtilpincgjlclpaaGreat.gJ
open Go.RowKit Go.Proofs.ae.au Pr
open uA (oz iJ good ql iR kT kK jB)
theorem join_at (w:List ByteArray) (a b:ByteArray) (hw:w.length<=100000) (ha:a.size<=1000000) (hb:b.size<=1000000):∀(m i k:Nat) (out:List ByteArray),w.length<=i+m->i<=w.length->out.length<=i->m+1<=k->
  aG.l0 k w out (i:Int) a b=some (out++jn a b (w.drop i)):=by
 intro m
 induction m with
 |zero=>
  intro i k out hi hi2 ho hk
  obtain⟨k,rfl⟩:∃k',k=k'+1:=⟨k-1,by omega⟩
  rw[aG.l0,if_neg (by omega),List.drop_of_length_le (by omega),Em,List.append_nil]
 |succ m ih=>
  intro i k out hi hi2 ho hk
  obtain⟨k,rfl⟩:∃k',k=k'+1:=⟨k-1,by omega⟩
  by_cases hlt:i<w.length
  ·have hw2:wrap64 ((i:Int)+2)=((i+2:Nat):Int):=by unfold wrap64;omega
   have c4:out.length<8796093022208:=by omega
   have hd:=List.drop_eq_getElem_cons hlt
   rw[aG.l0,wi i (by omega),hw2,if_pos (by omega),WR w i hlt]
   have rest:∀x,x=w[i]->aG.l0 k w (out++[x]) ((i+1:Nat):Int) a b=some (out++x::jn a b (w.drop (i+1))):=fun x hx=>by
    rw[ih (i+1) k (out++[x]) (by omega) (by omega) (by simp;omega) (by omega),List.append_assoc]
    rfl
   by_cases h1:i+1<w.length
   ·have hd2:=List.drop_eq_getElem_cons h1
    rw[if_pos (by omega),if_pos (by omega),WR w (i+1) h1,hd,hd2,pQ]
    by_cases h2:w[i]=a
    ·rw[if_pos (iG.2 h2),if_pos (by omega)]
     by_cases h3:w[i+1]=b
     ·rw[if_pos (iG.2 h3),if_pos (by omega),if_pos c4,if_pos ⟨h2,h3⟩,ih (i+2) k (out++[a++b]) (by omega) (by omega) (by simp;omega) (by omega),List.append_assoc]
      rfl
     ·rw[if_neg (fun h=>h3 (iG.1 h)),if_pos c4,if_neg (fun h=>h3 h.2),rest _ rfl,hd2]
    ·rw[if_neg (fun h=>h2 (iG.1 h)),if_pos c4,if_neg (fun h=>h2 h.1),rest _ rfl,hd2]
   ·have hd2:w.drop (i+1)=[]:=List.drop_of_length_le (by omega)
    rw[if_neg (by omega),if_pos (by omega),if_pos c4,rest _ rfl,hd,hd2,Ki,Em]
  ·rw[aG.l0,if_neg (by omega),List.drop_of_length_le (by omega),Em,List.append_nil]
theorem zV {w:List ByteArray} {a b:ByteArray} {k:Nat} (hw:w.length<=100000) (ha:a.size<=1000000) (hb:b.size<=1000000) (hk:w.length+1<=k):aG.f k w a b=some (jn a b w):=by
 have:=join_at w a b hw ha hb w.length 0 k [] (by omega) (by omega) (by simp) hk
 simpa[aG.f] using this
theorem vX (s:ByteArray) (hs:s.size<=100000) (k:Nat) (hk:s.size+1<=k):aR.f k s=some (base (tx s)):=by
 have hl:s.data.toList.length=s.size:=by simp
 have loop:∀m i k,i+m=s.size->m+1<=k->aR.l0 k s ((s.data.toList.take i).map Gf) (i:Int)=some (s.data.toList.map Gf):=by
  intro m
  induction m with
  |zero=>
   intro i k hi hk
   obtain⟨k,rfl⟩:∃k',k=k'+1:=⟨k-1,by omega⟩
   rw[aR.l0,if_neg (by omega),List.take_of_length_le (by omega)]
  |succ m ih=>
   intro i k hi hk
   obtain⟨k,rfl⟩:∃k',k=k'+1:=⟨k-1,by omega⟩
   have hlt:i<s.data.toList.length:=by omega
   have hx:s.extract i (i+1)=Gf s.data.toList[i]:=by
    apply ByteArray.ext
    apply Array.toList_inj.1
    rw[Lib.extract_data,show i+1-i=1 by omega,List.drop_eq_getElem_cons hlt]
    rfl
   rw[aR.l0,wi i (by omega),if_pos (by omega),if_pos (by omega),if_pos (by omega),if_pos (by omega),if_pos (by simp;omega),Int.toNat_natCast,Int.toNat_natCast,hx]
   have:=ih (i+1) k (by omega) (by omega)
   rw[List.take_succ_eq_append_getElem hlt,List.map_append] at this
   exact this
 have:=loop s.size 0 k (by omega) hk
 simpa[aR.f,base,tx] using this
def Ws (ts:List (List UInt8)) (o:List eu):List (List ByteArray):=ts.map fun t=>nJ o (base t)
theorem CE (ts:List (List UInt8)) (o:List eu) (x:eu):Ws ts (o++[x])=(Ws ts o).map (jn x.f0 x.f1):=by
 simp only[Ws,List.map_map]
 apply List.map_congr_left
 intro t _
 exact om o x (base t)
theorem Iq (a b:ByteArray):∀ws:List (List ByteArray),rem (ws.map (jn a b))<=rem ws
 |[]=>Nat.le_refl _
 |w::ws=>by
  have:=Iq a b ws
  have:=lG (a:=a) (b:=b) w
  rw[List.map_cons,rem,rem]
  omega
theorem Ir (a b:ByteArray):∀(ws:List (List ByteArray)) (cs:List Int),1<=wc a b ws cs->rem (ws.map (jn a b))+1<=rem ws
 |[],_,h=>by simp[wc] at h
 |_::_,[],h=>by simp[wc] at h
 |w::ws,c::cs,h=>by
  rw[List.map_cons,rem,rem]
  rw[wc] at h
  by_cases h1:1<=wc a b ws cs
  ·have:=Ir a b ws cs h1
   have:=lG (a:=a) (b:=b) w
   omega
  ·have h2:1<=pc a b w:=by
    rcases Nat.eq_zero_or_pos (pc a b w) with hp|hp
    ·rw[hp] at h
     split at h<;>simp at h<;>omega
    ·exact hp
   have:=wY w h2
   have:=Iq a b ws
   omega
theorem tot_jn (a b:ByteArray):∀(ws:List (List ByteArray)) (cs:List Int),tot (ws.map (jn a b)) cs<=tot ws cs
 |[],_=>by simp[tot]
 |_::_,[]=>by simp[tot]
 |w::ws,c::cs=>by
  have h1:=tot_jn a b ws cs
  have h2:=lG (a:=a) (b:=b) w
  rw[List.map_cons,tot,tot]
  split
  ·omega
  ·have:c*(((jn a b w).length-1:Nat):Int)<=c*((w.length-1:Nat):Int):=Int.mul_le_mul_of_nonneg_left (by omega) (by omega)
   omega
theorem ZE {w:List ByteArray} {x:ByteArray} (h:x∈w):x.size<=(flat w).length:=by
 obtain⟨A,C,rfl⟩:=List.append_of_mem h
 rw[MF,pE,List.length_append,List.length_append,Ad]
 omega
structure iW (ts:List (List UInt8)) (cs:List Int):Prop where
 many:ts.length<=300
 len:∀t∈ts,t.length<=300
 sum:(ts.map List.length).sum<=6000
 same:cs.length=ts.length
 cnt:∀c∈cs,1<=c/\c<=9223372036854775807
 tot:tot (Ws ts []) cs<=9223372036854775807
theorem aah:∀(ws:List (List ByteArray)),(∀w∈ws,w.length<=300)->rem ws<=303*ws.length
 |[],_=>by simp[rem]
 |w::ws,h=>by
  have:=aah ws (fun x hx=>h x (List.mem_cons_of_mem _ hx))
  have:=h w (by simp)
  rw[rem,List.length_cons]
  omega
section
variable {ts:List (List UInt8)} {cs:List Int} {o:List eu}
theorem AL:(Ws ts o).length=ts.length:=by simp[Ws]
theorem iW.lens (h:iW ts cs):∀w∈Ws ts o,w.length<=300:=fun w hw=>by
 obtain⟨t,ht,rfl⟩:=List.mem_map.1 hw
 have:=tT o (base t)
 have:=h.len t ht
 simp[base] at *
 omega
theorem iW.rem (h:iW ts cs):rem (Ws ts o)<=90900:=by
 have:=aah (Ws ts o) h.lens
 have:=h.many
 rw[AL] at *
 omega
theorem iW.sizes (h:iW ts cs):∀w∈Ws ts o,∀s∈w,s.size<=300:=fun w hw s hs=>by
 obtain⟨t,ht,rfl⟩:=List.mem_map.1 hw
 have h1:=ZE hs
 rw[Ea,AU] at h1
 exact Nat.le_trans h1 (h.len t ht)
theorem iW.totO (h:iW ts cs):gJ.tot (Ws ts o) cs<=9223372036854775807:=by
 have key:∀n,∀o:List eu,o.length=n->gJ.tot (Ws ts o) cs<=gJ.tot (Ws ts []) cs:=by
  intro n
  induction n with
  |zero=>intro o ho;rw[List.length_eq_zero_iff.1 ho];exact Int.le_refl _
  |succ n ih=>
   intro o ho
   obtain⟨p,x,rfl⟩:∃p x,o=p++[x]:=⟨o.dropLast,o.getLast (by intro e;rw[e] at ho;simp at ho),(List.dropLast_concat_getLast _).symm⟩
   rw[CE]
   exact Int.le_trans (tot_jn _ _ _ _) (ih p (by simp at ho;exact ho))
 exact Int.le_trans (key _ o rfl) h.tot
theorem iW.guard (h:iW ts cs) (o:List eu):qP (Ws ts o) cs:=by
 have h1:=h.many
 have h2:=h.rem (o:=o)
 exact⟨by rw[AL];omega,by omega,fun w hw s hs=>by have:=h.sizes w hw s hs;omega,fun c hc=>(h.cnt c hc).2,h.totO⟩
theorem iW.DF (h:iW ts cs) (o:List eu):∃L R n,gU (Ws ts o) cs L R n/\fw.f (Ws ts o) cs=some (L,R,n):=by
 have hg:=h.guard o
 exact⟨_,_,_,DI (ws:=Ws ts o) (cs:=cs) hg.2.2.1,by rw[fw.f,if_pos hg]⟩
theorem gU.sizes {L R:ByteArray} {n:Int} (h:iW ts cs) (hb:gU (Ws ts o) cs L R n):L.size<=300/\R.size<=300:=by
 rcases hb with⟨rfl,rfl,_⟩|⟨h1,h2,_⟩
 ·exact⟨by decide,by decide⟩
 ·obtain⟨i,w,c,h3,_,_,h4⟩:=tX (a:=L) (b:=R) (ws:=Ws ts o) (cs:=cs) (by omega)
  obtain⟨j,h5,h6⟩:=EO h4
  have hw:=List.mem_of_getElem? h3
  exact⟨h.sizes w hw L (List.mem_of_getElem? h5),h.sizes w hw R (List.mem_of_getElem? h6)⟩
theorem gU.wc {L R:ByteArray} {n:Int} {ws cs} (hb:gU ws cs L R n) (h:1<=n):n=gJ.wc L R ws cs:=by
 rcases hb with⟨_,_,h1,_⟩|⟨_,h2,_⟩
 ·omega
 ·exact h2
end
inductive nK (ts:List (List UInt8)) (cs:List Int) (budget least:Int):List eu->List eu->Prop
 |full {o}:budget<=(o.length:Int)->nK ts cs budget least o o
 |stop {o L R n}:(o.length:Int)<budget->gU (Ws ts o) cs L R n->n<least->nK ts cs budget least o o
 |step {o L R n r}:(o.length:Int)<budget->gU (Ws ts o) cs L R n->least<=n->nK ts cs budget least (o++[⟨L,R⟩]) r->nK ts cs budget least o r
section
variable {ts:List (List UInt8)} {cs:List Int} {o:List eu}
theorem nK.next {budget least:Int} {L R:ByteArray} {n:Int} (hl:1<=least) (hb:gU (Ws ts o) cs L R n) (hn:least<=n):gJ.rem (Ws ts (o++[⟨L,R⟩]))+1<=gJ.rem (Ws ts o):=by
 rw[CE]
 exact Ir L R _ cs (by have:=hb.wc (by omega);omega)
theorem nK.all (h:iW ts cs) (budget:Int) {least:Int} (hl:1<=least):∀N,∀o,gJ.rem (Ws ts o)<=N->∃r,nK ts cs budget least o r:=by
 intro N
 induction N with
 |zero=>
  intro o hN
  obtain⟨L,R,n,hb,_⟩:=h.DF o
  by_cases h1:budget<=(o.length:Int)
  ·exact⟨o,.full h1⟩
  ·by_cases h2:n<least
   ·exact⟨o,.stop (by omega) hb h2⟩
   ·have:=nK.next (budget:=budget) hl hb (by omega)
    omega
 |succ N ih=>
  intro o hN
  obtain⟨L,R,n,hb,_⟩:=h.DF o
  by_cases h1:budget<=(o.length:Int)
  ·exact⟨o,.full h1⟩
  ·by_cases h2:n<least
   ·exact⟨o,.stop (by omega) hb h2⟩
   ·have:=nK.next (budget:=budget) hl hb (by omega)
    obtain⟨r,hr⟩:=ih (o++[⟨L,R⟩]) (by omega)
    exact⟨r,.step (by omega) hb (by omega) hr⟩
theorem nK.ext {budget least:Int} {r:List eu} (h:nK ts cs budget least o r):∃p,r=o++p:=by
 induction h with
 |full _=>exact⟨[],by simp⟩
 |stop _ _ _=>exact⟨[],by simp⟩
 |@step o L R n r _ _ _ _ ih=>
  obtain⟨p,hp⟩:=ih
  exact⟨⟨L,R⟩::p,by rw[hp];simp⟩
theorem nK.budget {budget least:Int} {r:List eu} (h:nK ts cs budget least o r) (ho:(o.length:Int)<=budget):(r.length:Int)<=budget:=by
 induction h with
 |full _=>exact ho
 |stop _ _ _=>exact ho
 |step h1 _ _ _ ih=>exact ih (by simp;omega)
theorem nK.begins {b1 b2 l1 l2:Int} (hb:b1<=b2) (hl:l2<=l1) {r1 r2:List eu} (h1:nK ts cs b1 l1 o r1) (h2:nK ts cs b2 l2 o r2):∃p,r2=r1++p:=by
 induction h1 with
 |full _=>exact h2.ext
 |stop _ _ _=>exact h2.ext
 |step g1 g2 g3 _ ih=>
  cases h2 with
  |full k1=>omega
  |stop k1 k2 k3=>
   have:=(g2.same k2).2.2
   omega
  |step k1 k2 k3 k4=>
   obtain⟨rfl,rfl,rfl⟩:=g2.same k2
   exact ih k4
theorem nK.one {budget least:Int} {r1 r2:List eu} (h1:nK ts cs budget least o r1) (h2:nK ts cs budget least o r2):r1=r2:=by
 obtain⟨p,hp⟩:=h1.begins (Int.le_refl _) (Int.le_refl _) h2
 obtain⟨q,hq⟩:=h2.begins (Int.le_refl _) (Int.le_refl _) h1
 have e:p.length=0:=by
  have h3:=congrArg List.length hp
  have h4:=congrArg List.length hq
  rw[List.length_append] at h3 h4
  omega
 rw[hp,List.length_eq_zero_iff.1 e,List.append_nil]
def jR (ts:List (List UInt8)) (r:List eu):Prop:=∀o x p,r=o++x::p->∃t∈ts,1<=pc x.f0 x.f1 (nJ o (base t))
theorem jR.snoc {x:eu} (h:jR ts o) (hx:∃t∈ts,1<=pc x.f0 x.f1 (nJ o (base t))):jR ts (o++[x]):=fun o' x' p e=>by
 rcases List.append_eq_append_iff.1 e with⟨a,h1,h2⟩|⟨a,h1,h2⟩
 ·cases a with
  |nil=>
   simp at h1 h2
   obtain⟨rfl,_⟩:=h2
   rw[h1]
   exact hx
  |cons y a=>
   rw[List.cons_append] at h2
   have:=congrArg List.length h2
   simp at this
 ·cases a with
  |nil=>
   simp at h1 h2
   obtain⟨rfl,_⟩:=h2
   rw[<-h1]
   exact hx
  |cons y a=>
   rw[List.cons_append] at h2
   injection h2 with h2 h3
   subst h2
   exact h o' x' a h1
end
def gB (l:List dN):List (List UInt8):=l.map fun x=>tx x.f0
def sw (l:List dN):List Int:=l.map fun x=>x.f1
theorem Ws_of (l:List dN):Ws (gB l) []=l.map fun x=>base (tx x.f0):=by
 rw[Ws,gB,List.map_map]
 rfl
theorem GU:∀(l:List dN) (acc:Int),0<=acc->acc<=9223372036854775807->(∀x∈l,1<=x.f1)->(iR acc (l.map (·.f1)) (l.map ql)).2=true->acc+tot (l.map fun x=>base (tx x.f0)) (l.map (·.f1))<=9223372036854775807
 |[],acc,h0,h1,hc,h=>by simpa[tot] using h1
 |x::l,acc,h0,h1,hc,h=>by
  have hx:=hc x (by simp)
  rw[List.map_cons,List.map_cons,iR] at h
  rw[List.map_cons,List.map_cons,tot,if_neg (by omega)]
  have hlen:((base (tx x.f0)).length-1:Nat)=x.f0.size-1:=by simp[base,Ad]
  rw[hlen]
  have hp:ql x=((x.f0.size-1:Nat):Int):=by unfold ql;omega
  rw[hp] at h
  unfold kT at h
  split at h
  ·rename_i hm
   rw[if_pos rfl] at h
   unfold kK at h
   split at h
   ·rename_i ha
    rw[if_pos rfl] at h
    have:=GU l (acc+x.f1*((x.f0.size-1:Nat):Int)) (by omega) ha.2.2 (fun y hy=>hc y (List.mem_cons_of_mem _ hy)) h
    omega
   ·simp at h
  ·simp at h
theorem vC:∀(a:ByteArray) (l:List dN),good a l=true->∀x∈l,1<=x.f1
 |_,[],_,x,hx=>by cases hx
 |a,y::l,h,x,hx=>by
  rw[good] at h
  split at h
  ·cases h
  ·split at h
   ·cases h
   ·split at h
    ·rcases List.mem_cons.1 hx with rfl|hx
     ·omega
     ·exact vC _ l h x hx
    ·cases h
theorem TZ {l:List dN} (h:iJ l) (hs:((gB l).map List.length).sum<=6000) (hg:good ByteArray.empty l=true) (hd:(iR 0 (l.map (·.f1)) (l.map ql)).2=true):iW (gB l) (sw l):=by
 refine⟨by simpa[gB] using h.1,fun t ht=>?_,hs,by simp[gB,sw],fun c hc=>?_,?_⟩
 ·obtain⟨x,hx,rfl⟩:=List.mem_map.1 ht
  rw[Ad]
  exact(h.2 x hx).1
 ·obtain⟨x,hx,rfl⟩:=List.mem_map.1 hc
  exact⟨vC _ _ hg x hx,(h.2 x hx).2.2⟩
 ·have:=GU l 0 (by omega) (by omega) (vC _ _ hg) hd
  rw[Int.zero_add,<-Ws_of] at this
  exact this
section
variable {l:List dN}
theorem rR (hf:iJ l) (b least:Int) (k2:Nat) (hk2:400<=k2):∀m i k,i+m=l.length->k=k2+m+1->av.l0 k l b least [] ((l.take i).map fun x=>base (tx x.f0)) ((l.take i).map (·.f1)) (i:Int)=av.l1 k2 b least [] (Ws (gB l) []) (sw l):=by
 intro m
 induction m with
 |zero=>
  intro i k hi hk
  subst hk
  rw[av.l0,if_neg (by omega),List.take_of_length_le (by omega),Ws_of]
  rfl
 |succ m ih=>
  intro i k hi hk
  subst hk
  have hlt:i<l.length:=by omega
  have h60:=hf.1
  have hx:=(hf.2 _ (List.getElem_mem hlt)).1
  rw[show k2+(m+1)+1=(k2+m+1)+1 by omega,av.l0,if_pos (by omega),if_pos (by omega),jB l i hlt,vX _ (by omega) _ (by omega),Option.bind_some,if_pos (by simp;omega),if_pos (by simp;omega),wi i (by omega)]
  have:=ih (i+1) (k2+m+1) (by omega) rfl
  rw[List.take_succ_eq_append_getElem hlt,List.map_append,List.map_append] at this
  exact this
end
section
variable {ws:List (List ByteArray)} {cs:List Int}
theorem VY (hw:ws.length<=300) (hl:∀w∈ws,w.length<=300) {L R:ByteArray} (hL:L.size<=300) (hR:R.size<=300) (b least:Int) (o:List eu) (k2:Nat) (hk2:400<=k2):∀m i k,i+m=ws.length->k=k2+m+1->
  av.l2 k b least o ws cs ((ws.take i).map (jn L R)) (i:Int) L R=av.l1 k2 b least o (ws.map (jn L R)) cs:=by
 intro m
 induction m with
 |zero=>
  intro i k hi hk
  subst hk
  rw[av.l2,if_neg (by omega),List.take_of_length_le (by omega)]
 |succ m ih=>
  intro i k hi hk
  subst hk
  have hlt:i<ws.length:=by omega
  have hx:=hl _ (List.getElem_mem hlt)
  rw[show k2+(m+1)+1=(k2+m+1)+1 by omega,av.l2,if_pos (by omega),if_pos (by omega),rdW ws i hlt,zV (by omega) (by omega) (by omega) (by omega),Option.bind_some,if_pos (by simp;omega),wi i (by omega)]
  have:=ih (i+1) (k2+m+1) (by omega) rfl
  rw[List.take_succ_eq_append_getElem hlt,List.map_append] at this
  exact this
end
theorem vN {ts cs} (h:iW ts cs) (b:Int) {least:Int} (hl:1<=least) {q:Nat} (hq1:310<=q):∀N o,rem (Ws ts o)<=N->o.length+rem (Ws ts o)<=100000->∃r,nK ts cs b least o r/\∀k,1000+N*q<=k->av.l1 k b least o (Ws ts o) cs=some r:=by
 intro N
 induction N with
 |zero=>
  intro o hN ho
  obtain⟨L,R,n,hb,hk1⟩:=h.DF o
  by_cases h1:b<=(o.length:Int)
  ·refine⟨o,.full h1,fun k hk=>?_⟩
   obtain⟨k,rfl⟩:∃k',k=k'+1:=⟨k-1,by omega⟩
   rw[av.l1,if_neg (by omega)]
  ·by_cases h2:n<least
   ·refine⟨o,.stop (by omega) hb h2,fun k hk=>?_⟩
    obtain⟨k,rfl⟩:∃k',k=k'+1:=⟨k-1,by omega⟩
    rw[av.l1,if_pos (by omega),hk1,Option.bind_some,if_pos h2]
   ·have:=nK.next (budget:=b) hl hb (by omega)
    omega
 |succ N ih=>
  intro o hN ho
  obtain⟨L,R,n,hb,hk1⟩:=h.DF o
  by_cases h1:b<=(o.length:Int)
  ·refine⟨o,.full h1,fun k hk=>?_⟩
   obtain⟨k,rfl⟩:∃k',k=k'+1:=⟨k-1,by omega⟩
   rw[av.l1,if_neg (by omega)]
  ·by_cases h2:n<least
   ·refine⟨o,.stop (by omega) hb h2,fun k hk=>?_⟩
    obtain⟨k,rfl⟩:∃k',k=k'+1:=⟨k-1,by omega⟩
    rw[av.l1,if_pos (by omega),hk1,Option.bind_some,if_pos h2]
   ·have hn:=nK.next (budget:=b) hl hb (by omega)
    obtain⟨hL,hR⟩:=gU.sizes h hb
    obtain⟨r,hr,hr2⟩:=ih (o++[⟨L,R⟩]) (by omega) (by rw[List.length_append,List.length_singleton];omega)
    have hm:=h.many
    have hwl:(Ws ts o).length<=300:=by rw[AL];exact hm
    refine⟨r,.step (by omega) hb (by omega) hr,fun k hk=>?_⟩
    rw[Nat.succ_mul] at hk
    obtain⟨k,rfl⟩:∃k',k=(k'+(Ws ts o).length+1)+1:=⟨k-(Ws ts o).length-2,by omega⟩
    have g2:=hr2 k (by omega)
    rw[CE] at g2
    have r2:=VY (cs:=cs) hwl h.lens hL hR b least (o++[⟨L,R⟩]) k (by omega) (Ws ts o).length 0 (k+(Ws ts o).length+1) (by omega) rfl
    rw[List.take_zero,List.map_nil,g2] at r2
    rw[av.l1,if_pos (by omega),hk1,Option.bind_some,if_neg h2,if_pos (by omega)]
    exact r2
end Go.Proofs.YtilpincgjlclpaaGreat.gJ
end
section
namespace Go.Proofs.YtilpincgjlclpaaGreat.Tm
open Go.RowKit Go.Proofs.ae.au Pr jL Mp Hp
open gJ (jR Ws nJ base pc jn tx flat)
def mg (o:List J):List eu:=o.map fun x=>⟨fI o x.1.1,fI o x.1.2⟩
theorem TE {o:List J} (hs:∀x∈o,VP o x.1) {x:J} (hx:VP o x.1):mg (o++[x])=mg o++[⟨fI o x.1.1,fI o x.1.2⟩]:=by
 unfold mg
 rw[List.map_append,List.map_cons,List.map_nil,iI hx.1,iI hx.2]
 congr 1
 apply List.map_congr_left
 intro y hy
 rw[iI (hs y hy).1,iI (hs y hy).2]
theorem Qk {o:List J} (hi:Ak o) {p:P2} (hp:VP o p) {s:Int} {t:ByteArray} (x:J) (hs:fI (o++[x]) s=fI o p.1++fI o p.2):∀w:List Int,(∀y∈w,Vl o y)->(mI p s w).map (fI (o++[x]))=jn (fI o p.1) (fI o p.2) (w.map (fI o))
 |[],_=>rfl
 |[y],h=>by simp[mI,iI (h y (by simp))]
 |y::z::r,h=>by
  have hy:=h y (by simp)
  have hz:=h z (by simp)
  rw[nD,List.map_cons,List.map_cons,gJ.pQ]
  by_cases hm:y=p.1/\z=p.2
  ·rw[if_pos hm,if_pos ⟨by rw[hm.1],by rw[hm.2]⟩,List.map_cons,hs,Qk hi hp (t:=t) x hs r (fun u hu=>h u (List.mem_cons_of_mem _ (List.mem_cons_of_mem _ hu)))]
  ·rw[if_neg hm,if_neg (fun g=>hm ⟨hi _ _ hy hp.1 g.1,hi _ _ hz hp.2 g.2⟩),List.map_cons,iI hy,Qk hi hp (t:=t) x hs (z::r) (fun u hu=>h u (List.mem_cons_of_mem _ hu)),List.map_cons]
theorem QV {o:List J} (hi:Ak o) {q:P2} (hq:VP o q):∀w:List Int,(∀y∈w,Vl o y)->jy q w=((pc (fI o q.1) (fI o q.2) (w.map (fI o)):Nat):Int)
 |[],_=>rfl
 |[y],h=>rfl
 |y::z::r,h=>by
  have hy:=h y (by simp)
  have hz:=h z (by simp)
  rw[pg,List.map_cons,List.map_cons,gJ.kM,QV hi hq (z::r) (fun u hu=>h u (List.mem_cons_of_mem _ hu)),List.map_cons]
  by_cases hm:y=q.1/\z=q.2
  ·rw[if_pos hm,if_pos ⟨by rw[hm.1],by rw[hm.2]⟩];omega
  ·rw[if_neg hm,if_neg (fun g=>hm ⟨hi _ _ hy hq.1 g.1,hi _ _ hz hq.2 g.2⟩)];omega
theorem qg {q:P2}:∀{cs:List Int} {ws:List (List Int)},(1<=bR cs ws q)->∃w∈ws,1<=jy q w
 |[],ws,h=>by simp[bR] at h
 |_::_,[],h=>by simp[bR] at h
 |c::cs,w::ws,h=>by
  have h0:=iU (q:=q) w
  by_cases hp:1<=jy q w
  ·exact⟨w,by simp,hp⟩
  ·have e:jy q w=0:=by omega
   rw[bR,e,Int.mul_zero,Int.zero_add] at h
   obtain⟨u,hu,h1⟩:=qg h
   exact⟨u,List.mem_cons_of_mem _ hu,h1⟩
theorem Fu {m:List eu} {t:List UInt8} {x:ByteArray} (h:x∈nJ m (base t)):1<=x.size:=by
 have:=gJ.seg_mem h
 rcases Nat.eq_zero_or_pos x.size with h0|h0
 ·have hx:tx x=[]:=List.length_eq_zero_iff.1 (by rw[gJ.Ad,h0])
  rw[hx] at this
  have h2:=gJ.tT m (base [])
  rw[this] at h2
  simp[base] at h2
 ·exact h0
structure Ok (ts:List (List UInt8)) (cs:List Int) (mn:Int) (s:St):Prop where
 sy:∀x∈s.o,VP s.o x.1/\x.2=fI s.o x.1.1++fI s.o x.1.2
 inj:Ak s.o
 vw:∀w∈s.ws,∀x∈w,Vl s.o x
 tw:s.ws.map (List.map (fI s.o))=Ws ts (mg s.o)
 ch:jR ts (mg s.o)
 vk:∀x∈s.kn,VP s.o x.1/\mn<=x.2/\x.2<=9223372036854775807
 vh:∀x∈s.H,VP s.o x.1/\mn<=x.2/\x.2<=9223372036854775807
section
variable {ts:List (List UInt8)} {cs:List Int} {mn:Int} {s:St} {p:P2}
theorem Ok.word (h:Ok ts cs mn s) {w:List Int} (hw:w∈s.ws):∃t∈ts,w.map (fI s.o)=nJ (mg s.o) (base t):=by
 have h1:w.map (fI s.o)∈Ws ts (mg s.o):=by rw[<-h.tw];exact List.mem_map_of_mem hw
 obtain⟨t,ht,e⟩:=List.mem_map.1 h1
 exact⟨t,ht,e.symm⟩
theorem Ok.there (h:Ok ts cs mn s) (hv:VP s.o p) (hp:1<=bR cs s.ws p):∃t∈ts,1<=pc (fI s.o p.1) (fI s.o p.2) (nJ (mg s.o) (base t)):=by
 obtain⟨w,hw,h1⟩:=qg hp
 obtain⟨t,ht,e⟩:=h.word hw
 refine⟨t,ht,?_⟩
 rw[QV h.inj hv w (h.vw w hw),e] at h1
 omega
theorem Ok.fresh (h:Ok ts cs mn s) (hv:VP s.o p) (hp:1<=bR cs s.ws p):∀x,Vl s.o x->fI s.o x≠fI s.o p.1++fI s.o p.2:=by
 intro x hx e
 obtain⟨t,ht,h1⟩:=h.there hv hp
 obtain⟨j,g1,g2⟩:=gJ.EO h1
 have n1:=Fu (List.mem_of_getElem? g1)
 have n2:=Fu (List.mem_of_getElem? g2)
 by_cases hb:x<256
 ·have h2:fI s.o x=jL.Gf (UInt8.ofNat x.toNat):=wz s.o (by have:=hx.1;omega)
  have h3:=congrArg ByteArray.size e
  rw[h2,ByteArray.size_append] at h3
  have:(jL.Gf (UInt8.ofNat x.toNat)).size=1:=rfl
  omega
 ·have hlt:x.toNat-256<s.o.length:=by have:=hx.2;omega
  have h2:fI s.o x=(s.o[x.toNat-256]).2:=by
   unfold fI txt
   rw[if_neg (by omega),List.getElem?_eq_getElem hlt]
   rfl
  obtain⟨_,h3⟩:=h.sy _ (List.getElem_mem hlt)
  have hsp:mg s.o=(mg s.o).take (x.toNat-256)++⟨fI s.o s.o[x.toNat-256].1.1,fI s.o s.o[x.toNat-256].1.2⟩::(mg s.o).drop (x.toNat-256+1):=by
   have hl:x.toNat-256<(mg s.o).length:=by simpa[mg] using hlt
   conv=>lhs;rw[<-List.take_append_drop (x.toNat-256) (mg s.o)]
   rw[List.drop_eq_getElem_cons hl]
   simp[mg]
  obtain⟨t',_,h4⟩:=h.ch _ _ _ hsp
  rw[hsp] at h1
  refine gJ.Ia (n:=(mg s.o).drop (x.toNat-256+1)) h4 (by simpa using h1) ?_
  rw[<-h3,<-h2,e]
theorem Ok.text (h:Ok ts cs mn s) (hv:VP s.o p) (hp:1<=bR cs s.ws p):∃t∈ts,(fI s.o p.1).size+(fI s.o p.2).size<=t.length:=by
 obtain⟨t,ht,h1⟩:=h.there hv hp
 obtain⟨A,C,e⟩:=gJ.Ku _ h1
 refine⟨t,ht,?_⟩
 have h2:=gJ.Ea (mg s.o) (base t)
 rw[e,gJ.AU] at h2
 have h3:=congrArg List.length h2
 simp[gJ.flat,gJ.Ad] at h3
 omega
theorem Ok.join (h:Ok ts cs mn s) (hv:VP s.o p) (hp:1<=bR cs s.ws p):Ok ts cs mn (fK s p):=by
 have hsy:∀x∈s.o,VP s.o x.1:=fun x hx=>(h.sy x hx).1
 have hlast:fI (s.o++[(p,fI s.o p.1++fI s.o p.2)]) (256+(s.o.length:Int))=fI s.o p.1++fI s.o p.2:=txi_last s.o (p,fI s.o p.1++fI s.o p.2)
 have hfr:=h.fresh hv hp
 have hmg:mg (s.o++[(p,fI s.o p.1++fI s.o p.2)])=mg s.o++[⟨fI s.o p.1,fI s.o p.2⟩]:=TE (x:=(p,fI s.o p.1++fI s.o p.2)) hsy hv
 have hcase:∀x,Vl (s.o++[(p,fI s.o p.1++fI s.o p.2)]) x->Vl s.o x\/x=256+(s.o.length:Int):=fun x hx=>by
  have h2:=hx.2
  rw[List.length_append,List.length_singleton] at h2
  by_cases hc:x<256+(s.o.length:Int)
  ·exact .inl ⟨hx.1,hc⟩
  ·exact .inr (by omega)
 refine⟨?_,?_,?_,?_,?_,?_,?_⟩
 ·intro x hx
  rcases List.mem_append.1 hx with hx|hx
  ·obtain⟨h1,h2⟩:=h.sy x hx
   exact⟨h1.more _,by show x.2=_;rw[fK,iI h1.1,iI h1.2];exact h2⟩
  ·rw[List.mem_singleton.1 hx]
   exact⟨hv.more _,by show _=fI (s.o++_) p.1++fI (s.o++_) p.2;rw[iI hv.1,iI hv.2]⟩
 ·intro x y hx hy e
  simp only[fK] at e
  rcases hcase x hx with h1|h1<;>rcases hcase y hy with h2|h2
  ·rw[iI h1,iI h2] at e
   exact h.inj x y h1 h2 e
  ·rw[h2,hlast,iI h1] at e
   exact(hfr x h1 e).elim
  ·rw[h1,hlast,iI h2] at e
   exact(hfr y h2 e.symm).elim
  ·rw[h1,h2]
 ·intro w hw x hx
  obtain⟨u,hu,rfl⟩:=List.mem_map.1 hw
  rcases wX u x hx with h1|h1
  ·exact(h.vw u hu x h1).more _
  ·rw[h1];exact Vl.last _ _
 ·show(s.ws.map _).map _=Ws ts (mg (s.o++_))
  rw[hmg,gJ.CE,<-h.tw,List.map_map,List.map_map]
  apply List.map_congr_left
  intro w hw
  exact Qk h.inj hv (t:=ByteArray.empty) _ hlast w (h.vw w hw)
 ·show jR ts (mg (s.o++_))
  rw[hmg]
  exact h.ch.snoc (h.there hv hp)
 ·intro x hx
  have:=h.vk x hx
  exact⟨this.1.more _,this.2⟩
 ·intro x hx
  have:=h.vh x hx
  exact⟨this.1.more _,this.2⟩
theorem Ok.put (h:Ok ts cs mn s) {q:P2} (hq:VP s.o q) {c:Int} (hc:c<=9223372036854775807) (hm:1<=c->mn<=c):Ok ts cs mn (lI s q c):=by
 unfold lI
 have hput:1<=c->∀x∈Mp.put s.kn q c,VP s.o x.1/\mn<=x.2/\x.2<=9223372036854775807:=fun h1 x hx=>by
  rcases ET x hx with rfl|hx
  ·exact⟨hq,hm h1,hc⟩
  ·exact h.vk x hx
 split
 ·exact⟨h.sy,h.inj,h.vw,h.tw,h.ch,fun x hx=>h.vk x (List.mem_filter.1 hx).1,h.vh⟩
 ·split
  ·exact⟨h.sy,h.inj,h.vw,h.tw,h.ch,hput (by omega),hput (by omega)⟩
  ·refine⟨h.sy,h.inj,h.vw,h.tw,h.ch,hput (by omega),fun x hx=>?_⟩
   rcases List.mem_cons.1 hx with rfl|hx
   ·exact⟨hq,hm (by omega),hc⟩
   ·exact h.vh x hx
theorem aaa (s:St) (q:P2) (c:Int):(lI s q c).o=s.o/\(lI s q c).ws=s.ws:=by
 unfold lI
 split
 ·exact⟨rfl,rfl⟩
 ·split<;>exact⟨rfl,rfl⟩
theorem vW (f:P2->Int):∀(l:List P2) (s:St),(puts mn f s l).o=s.o/\(puts mn f s l).ws=s.ws
 |[],s=>⟨rfl,rfl⟩
 |q::l,s=>by
  have h1:=vW f l (lI s q (vQ mn (f q)))
  have h2:=aaa s q (vQ mn (f q))
  exact⟨h1.1.trans h2.1,h1.2.trans h2.2⟩
theorem lst_le {n:Int} (h:n<=9223372036854775807):vQ mn n<=9223372036854775807:=by unfold vQ;split<;>omega
theorem lst_mn {n:Int} (h:1<=vQ mn n):mn<=vQ mn n:=by unfold vQ at *;split at h<;>omega
theorem Ok.puts {f:P2->Int} (hf:∀q,f q<=9223372036854775807):∀(l:List P2) {s:St},Ok ts cs mn s->(∀q∈l,VP s.o q)->Ok ts cs mn (puts mn f s l)
 |[],s,h,_=>h
 |q::l,s,h,hl=>by
  have h1:=h.put (hl q (by simp)) (lst_le (hf q)) (lst_mn (mn:=mn) (n:=f q))
  exact Ok.puts hf l h1 (fun r hr=>by rw[(aaa s q _).1];exact hl r (List.mem_cons_of_mem _ hr))
theorem yo (f:P2->Int):∀(k:Nat) (s:St),(jd f k s).1.o=s.o/\(jd f k s).1.ws=s.ws
 |0,s=>⟨rfl,rfl⟩
 |k+1,s=>by
  rw[jd]
  split
  ·exact⟨rfl,rfl⟩
  ·split
   ·exact⟨rfl,rfl⟩
   ·exact yo f k _
theorem Ok.pop {f:P2->Int}:∀(k:Nat) {s:St},Ok ts cs mn s->Ok ts cs mn (jd f k s).1/\∀x,(jd f k s).2=some x->x∈s.H/\x.2=f x.1
 |0,s,h=>⟨h,by simp[jd]⟩
 |k+1,s,h=>by
  rw[jd]
  split
  ·exact⟨h,by simp⟩
  ·rename_i x hx
   obtain⟨h1,_⟩:=qd hx
   have he:∀y∈s.H.erase x,y∈s.H:=fun y hy=>List.mem_of_mem_erase hy
   split
   ·rename_i e
    exact⟨⟨h.sy,h.inj,h.vw,h.tw,h.ch,fun y hy=>h.vk y (List.mem_filter.1 hy).1,fun y hy=>h.vh y (he y hy)⟩,fun y hy=>by cases hy;exact⟨h1,e⟩⟩
   ·have:=Ok.pop (f:=f) k (s:={s with H:=s.H.erase x,po:=s.po+1}) ⟨h.sy,h.inj,h.vw,h.tw,h.ch,h.vk,fun y hy=>h.vh y (he y hy)⟩
    exact⟨this.1,fun y hy=>⟨he y (this.2 y hy).1,(this.2 y hy).2⟩⟩
end
end Go.Proofs.YtilpincgjlclpaaGreat.Tm
end
section
namespace Go.Proofs.YtilpincgjlclpaaGreat.Tm
open Go.RowKit Go.Proofs.ae.au Pr jL Mp Hp
open gJ (jR Ws nJ base pc jn tx flat wc gU iW nK)
theorem Ej (q:P2):∀l:List P2,l.Pairwise zO->∃l':List P2,l'.Pairwise zO/\∀x,x∈l'↔x=q\/x∈l
 |[],_=>⟨[q],by simp,by simp⟩
 |y::l,h=>by
  obtain⟨h1,h2⟩:=List.pairwise_cons.1 h
  rcases Kw q y with c|c|c
  ·refine⟨q::y::l,List.pairwise_cons.2 ⟨fun z hz=>?_,h⟩,by simp⟩
   rcases List.mem_cons.1 hz with rfl|hz
   ·exact c
   ·exact Bj c (h1 z hz)
  ·subst c
   exact⟨q::l,h,by simp⟩
  ·obtain⟨l',g1,g2⟩:=Ej q l h2
   refine⟨y::l',List.pairwise_cons.2 ⟨fun z hz=>?_,g1⟩,fun x=>?_⟩
   ·rcases(g2 z).1 hz with rfl|hz
    ·exact c
    ·exact h1 z hz
   ·rw[List.mem_cons,g2,List.mem_cons]
    constructor
    ·rintro(h|h|h)
     ·exact .inr (.inl h)
     ·exact .inl h
     ·exact .inr (.inr h)
    ·rintro(h|h|h)
     ·exact .inr (.inl h)
     ·exact .inl h
     ·exact .inr (.inr h)
theorem We {f g:P2->Int} (L:List P2) (h:∀q,f q≠g q->q∈L):∃l,SD f g l:=by
 have key:∀L:List P2,∃l:List P2,l.Pairwise zO/\∀q,q∈l↔q∈L/\f q≠g q:=by
  intro L
  induction L with
  |nil=>exact⟨[],by simp,by simp⟩
  |cons y L ih=>
   obtain⟨l,h1,h2⟩:=ih
   by_cases e:f y=g y
   ·refine⟨l,h1,fun q=>?_⟩
    rw[h2,List.mem_cons]
    constructor
    ·rintro⟨a,b⟩;exact⟨.inr a,b⟩
    ·rintro⟨rfl|a,b⟩
     ·exact(b e).elim
     ·exact⟨a,b⟩
   ·obtain⟨l',g1,g2⟩:=Ej y l h1
    refine⟨l',g1,fun q=>?_⟩
    rw[g2,h2,List.mem_cons]
    constructor
    ·rintro(rfl|⟨a,b⟩)
     ·exact⟨.inl rfl,e⟩
     ·exact⟨.inr a,b⟩
    ·rintro⟨rfl|a,b⟩
     ·exact .inl rfl
     ·exact .inr ⟨a,b⟩
 obtain⟨l,h1,h2⟩:=key L
 exact⟨l,h1,fun q=>(h2 q).trans ⟨fun h=>h.2,fun e=>⟨h q e,e⟩⟩⟩
theorem Iw {f g:P2->Int} (L:List P2) (h:∀q,f q≠g q->q∈L):SD f g (sd f g):=by
 obtain⟨l,hl⟩:=We L h
 rw[aao hl]
 exact hl
theorem nN {α:Type} [DecidableEq α]:∀(l L:List α),l.Nodup->(∀x∈l,x∈L)->l.length<=L.length
 |[],_,_,_=>Nat.zero_le _
 |x::l,L,h,hs=>by
  obtain⟨h1,h2⟩:=List.nodup_cons.1 h
  have hx:=hs x (by simp)
  have:=nN l (L.erase x) h2 (fun y hy=>(List.mem_erase_of_ne (fun e=>h1 (by rw[<-e];exact hy))).2 (hs y (List.mem_cons_of_mem _ hy)))
  rw[List.length_erase_of_mem hx] at this
  have:=List.length_pos_of_mem hx
  rw[List.length_cons]
  omega
theorem SD.nodup {f g:P2->Int} {l:List P2} (h:SD f g l):l.Nodup:=h.1.imp (S:=fun a b:P2=>a≠b) (fun{a b} hab e=>by rw[e] at hab;exact tQ b hab)
def ES:List Int->List P2
 |x::y::r=>(x,y)::ES (y::r)
 |_=>[]
theorem NL:∀w:List Int,(ES w).length<=w.length
 |[]=>Nat.le_refl _
 |[x]=>by simp[ES]
 |x::y::r=>by
  have:=NL (y::r)
  rw[ES,List.length_cons,List.length_cons]
  omega
theorem zP {q:P2}:∀{w:List Int},1<=jy q w->q∈ES w
 |[],h=>by simp at h
 |[x],h=>by simp at h
 |x::y::r,h=>by
  rw[pg] at h
  rw[ES]
  by_cases e:x=q.1/\y=q.2
  ·have e2:q=(x,y):=Prod.ext e.1.symm e.2.symm
   rw[e2];simp
  ·rw[if_neg e] at h
   exact List.mem_cons_of_mem _ (zP (by omega))
def ll:List (List Int)->Nat
 |[]=>0
 |w::ws=>w.length+ll ws
theorem Kz (ws:List (List Int)):(ws.flatMap ES).length<=ll ws:=by
 induction ws with
 |nil=>simp[ll]
 |cons w ws ih=>
  have:=NL w
  rw[List.flatMap_cons,List.length_append,ll]
  omega
theorem qK (p:P2) (s:Int) (ws:List (List Int)):(ws.flatMap (touched p s)).length+4*ll (ws.map (mI p s))<=4*ll ws:=by
 induction ws with
 |nil=>simp[ll]
 |cons w ws ih=>
  have h1:=Oy (p:=p) (s:=s) w
  have h2:=zz (p:=p) (s:=s) w
  rw[List.flatMap_cons,List.length_append,List.map_cons,ll,ll]
  omega
theorem Ul (p:P2) (s:Int):∀(ws:List (List Int)),(∃w∈ws,1<=jy p w)->ll (ws.map (mI p s))+1<=ll ws
 |[],h=>by simp at h
 |w::ws,h=>by
  have h1:=mh (p:=p) (s:=s) w
  have h2:ll (ws.map (mI p s))<=ll ws:=by have:=qK p s ws;omega
  rw[List.map_cons,ll,ll]
  obtain⟨u,hu,hp⟩:=h
  rcases List.mem_cons.1 hu with rfl|hu
  ·have:=El (p:=p) (s:=s) u hp
   omega
  ·have:=Ul p s ws ⟨u,hu,hp⟩
   omega
theorem Ox {q:P2} {g:List Int->List Int}:∀{cs:List Int} {ws:List (List Int)},(∀w∈ws,jy q (g w)=jy q w)->bR cs (ws.map g) q=bR cs ws q
 |[],ws,h=>by simp[bR]
 |_::_,[],h=>by simp
 |c::cs,w::ws,h=>by
  rw[List.map_cons,bR,bR,h w (by simp),Ox fun u hu=>h u (List.mem_cons_of_mem _ hu)]
section
variable {ts:List (List UInt8)} {cs:List Int} {mn:Int} {s:St} {N:Nat} {f:P2->Int}
theorem Ok.vp (h:Ok ts cs mn s) {q:P2} (hq:1<=bR cs s.ws q):VP s.o q:=by
 obtain⟨w,hw,h1⟩:=qg hq
 obtain⟨a,b⟩:=zM h1
 exact⟨h.vw w hw _ a,h.vw w hw _ b⟩
theorem wc_map {o:List J} (hi:Ak o) {q:P2} (hq:VP o q):∀{cs:List Int} {ws:List (List Int)},(∀c∈cs,1<=c)->(∀w∈ws,∀x∈w,Vl o x)->bR cs ws q=wc (fI o q.1) (fI o q.2) (ws.map (List.map (fI o))) cs
 |[],ws,_,_=>by cases ws<;>simp[bR,wc]
 |_::_,[],_,_=>by simp[bR,wc]
 |c::cs,w::ws,hc,hw=>by
  have:=hc c (by simp)
  rw[List.map_cons,bR,wc,if_neg (by omega),QV hi hq w (hw w (by simp)),wc_map hi hq (fun x hx=>hc x (List.mem_cons_of_mem _ hx)) (fun u hu=>hw u (List.mem_cons_of_mem _ hu))]
theorem Ok.wc (h:Ok ts cs mn s) (hk:iW ts cs) {q:P2} (hq:VP s.o q):bR cs s.ws q=wc (fI s.o q.1) (fI s.o q.2) (Ws ts (mg s.o)) cs:=by
 rw[<-h.tw]
 exact wc_map h.inj hq (fun c hc=>(hk.cnt c hc).1) h.vw
theorem Ok.le (h:Ok ts cs mn s) (hk:iW ts cs) (q:P2):bR cs s.ws q<=9223372036854775807:=by
 by_cases h1:1<=bR cs s.ws q
 ·rw[h.wc hk (h.vp h1)]
  exact Int.le_trans (gJ.Ux _ _ _ _) hk.totO
 ·omega
theorem Ok.vT (hk:iW ts cs) (q:P2) (ws:List (List Int)):0<=bR cs ws q:=Ce (fun c hc=>by have:=(hk.cnt c hc).1;omega) q ws
theorem Ok.pair (h:Ok ts cs mn s) (hk:iW ts cs) {c d:ByteArray} (hp:1<=gJ.wc c d (Ws ts (mg s.o)) cs):∃q,VP s.o q/\c=fI s.o q.1/\d=fI s.o q.2:=by
 obtain⟨i,w,c',h1,_,_,h2⟩:=gJ.tX hp
 rw[<-h.tw,List.getElem?_map] at h1
 obtain⟨u,hu,rfl⟩:=Option.map_eq_some_iff.1 h1
 obtain⟨j,g1,g2⟩:=gJ.EO h2
 rw[List.getElem?_map] at g1 g2
 obtain⟨a,ha,rfl⟩:=Option.map_eq_some_iff.1 g1
 obtain⟨b,hb,rfl⟩:=Option.map_eq_some_iff.1 g2
 have hw:=List.mem_of_getElem? hu
 exact⟨(a,b),⟨h.vw u hw a (List.mem_of_getElem? ha),h.vw u hw b (List.mem_of_getElem? hb)⟩,rfl,rfl⟩
def Li (f:P2->Int) (mn:Int) (X:P2->Prop) (s:St):Prop:=∀q,mn<=f q->X q\/(Mp.get s.kn q=some (f q)/\(q,f q)∈s.H)
theorem TA {n:Int} (h:n<mn):vQ mn n=0:=by unfold vQ;rw[if_pos h]
theorem ZC {n:Int} (h:¬n<mn):vQ mn n=n:=by unfold vQ;rw[if_neg h]
theorem put_cov (uB:1<=mn) {q:P2} {X:P2->Prop} (h:Li f mn (fun r=>r=q\/X r) s):Li f mn X (lI s q (vQ mn (f q))):=by
 intro r hr
 unfold lI
 by_cases hq:f q<mn
 ·rw[TA hq,if_pos (by omega)]
  rcases h r hr with(rfl|hx)|⟨h1,h2⟩
  ·omega
  ·exact .inl hx
  ·have hne:q≠r:=by rintro rfl;omega
   exact .inr ⟨by show Mp.get (Mp.del s.kn q) r=_;rw[zg,if_neg hne];exact h1,h2⟩
 ·rw[ZC hq,if_neg (by omega)]
  have hk:X r\/Mp.get (Mp.put s.kn q (f q)) r=some (f r)/\(r=q\/(r,f r)∈s.H):=by
   rw[get_put]
   by_cases e:q=r
   ·subst e
    exact .inr ⟨by rw[if_pos rfl],.inl rfl⟩
   ·rcases h r hr with(rfl|hx)|⟨h1,h2⟩
    ·exact(e rfl).elim
    ·exact .inl hx
    ·exact .inr ⟨by rw[if_neg e];exact h1,.inr h2⟩
  rcases hk with hk|⟨h1,h2⟩
  ·exact .inl hk
  ·split
   ·exact .inr ⟨h1,get_mem h1⟩
   ·refine .inr ⟨h1,?_⟩
    rcases h2 with rfl|h2
    ·simp
    ·exact List.mem_cons_of_mem _ h2
theorem EW (uB:1<=mn):∀(l:List P2) {s:St} {X:P2->Prop},Li f mn (fun r=>r∈l\/X r) s->Li f mn X (puts mn f s l)
 |[],s,X,h=>fun q hq=>by
  have:=h q hq
  simp only[List.not_mem_nil,false_or] at this
  exact this
 |q::l,s,X,h=>by
  rw[puts]
  refine EW uB l (put_cov uB (fun r hr=>?_))
  rcases h r hr with(h|h)|h
  ·rcases List.mem_cons.1 h with h|h
   ·exact .inl (.inl h)
   ·exact .inl (.inr (.inl h))
  ·exact .inl (.inr (.inr h))
  ·exact .inr h
theorem Ue:∀(k:Nat) {s:St},s.H.length<k->Li f mn (fun _=>False) s->
  ((jd f k s).2=none/\∀q,f q<mn)\/∃x,(jd f k s).2=some x/\x.2=f x.1/\(∀q,mn<=f q->¬bt s.o (q,f q) x)/\Li f mn (fun r=>r=x.1) (jd f k s).1
 |0,s,hl,_=>by omega
 |k+1,s,hl,hc=>by
  rw[jd]
  cases ht:top s.o s.H with
  |none=>
   rw[FI] at ht
   refine .inl ⟨rfl,fun q=>?_⟩
   by_cases hq:mn<=f q
   ·rcases hc q hq with h|⟨_,h⟩
    ·exact h.elim
    ·rw[ht] at h;simp at h
   ·omega
  |some x=>
   obtain⟨h1,h2⟩:=qd ht
   have hlen:(s.H.erase x).length+1=s.H.length:=by
    rw[List.length_erase_of_mem h1]
    have:=List.length_pos_of_mem h1
    omega
   simp only
   by_cases e:x.2=f x.1
   ·rw[if_pos e]
    refine .inr ⟨x,rfl,e,fun q hq=>?_,fun q hq=>?_⟩
    ·rcases hc q hq with h|⟨_,h⟩
     ·exact h.elim
     ·exact h2 _ h
    ·by_cases hqx:q=x.1
     ·exact .inl hqx
     ·rcases hc q hq with h|⟨g1,g2⟩
      ·exact h.elim
      ·refine .inr ⟨?_,?_⟩
       ·show Mp.get (Mp.del s.kn x.1) q=_
        rw[zg,if_neg (fun e=>hqx e.symm)]
        exact g1
       ·exact(List.mem_erase_of_ne (fun e=>hqx (by rw[<-e]))).2 g2
   ·rw[if_neg e]
    refine Ue k (s:={s with H:=s.H.erase x,po:=s.po+1}) (by show(s.H.erase x).length<k;omega) (fun q hq=>?_)
    rcases hc q hq with h|⟨g1,g2⟩
    ·exact h.elim
    ·refine .inr ⟨g1,(List.mem_erase_of_ne (fun e2=>e ?_)).2 g2⟩
     rw[<-e2]
structure Bnd (N:Nat) (s:St):Prop where
 pu:s.pu+4*ll s.ws<=5*N
 pe:s.pe<=s.pu
 hp:s.H.length+s.po<=s.pu
 ro:s.o.length+ll s.ws<=N
structure IU (N j:Nat) (s:St):Prop where
 pu:s.pu+j+4*ll s.ws<=5*N
 pe:s.pe<=s.pu
 hp:s.H.length+s.po<=s.pu
 ro:s.o.length+ll s.ws<=N
theorem put_bnd {j:Nat} {q:P2} {c:Int} (h:IU N (j+if 1<=c then 1 else 0) s):IU N j (lI s q c):=by
 obtain⟨h1,h2,h3,h4⟩:=h
 unfold lI
 by_cases hc:c<1
 ·rw[if_pos hc]
  rw[if_neg (by omega)] at h1
  exact⟨h1,h2,h3,h4⟩
 ·rw[if_neg hc]
  rw[if_pos (by omega)] at h1
  split
  ·rename_i hd
   exact⟨by show s.pu+1+j+4*ll s.ws<=5*N;omega,by show max s.pe (s.H.length+1)<=s.pu+1;omega,by show(Mp.put s.kn q c).length+s.po<=s.pu+1;omega,h4⟩
  ·exact⟨by show s.pu+1+j+4*ll s.ws<=5*N;omega,by show max s.pe (s.H.length+1)<=s.pu+1;omega,by show(List.length (_::s.H))+s.po<=s.pu+1;rw[List.length_cons];omega,h4⟩
theorem EU:∀(l:List P2) {s:St} {j:Nat},IU N (j+(l.filter fun q=>decide (1<=vQ mn (f q))).length) s->IU N j (puts mn f s l)
 |[],s,j,h=>by
  have h':IU N j s:=by simpa using h
  exact h'
 |q::l,s,j,h=>by
  rw[puts]
  refine EU l (put_bnd ?_)
  rw[List.filter_cons] at h
  by_cases hc:1<=vQ mn (f q)
  ·rw[if_pos (decide_eq_true hc),List.length_cons] at h
   rw[if_pos hc]
   exact⟨by have:=h.1;omega,h.2,h.3,h.4⟩
  ·rw[if_neg (by simpa using hc)] at h
   rw[if_neg hc]
   exact⟨by have:=h.1;omega,h.2,h.3,h.4⟩
theorem IU.zero (h:IU N 0 s):Bnd N s:=⟨by have:=h.1;omega,h.2,h.3,h.4⟩
theorem Ud:∀(k:Nat) {s:St},Bnd N s->Bnd N (jd f k s).1
 |0,s,h=>h
 |k+1,s,h=>by
  rw[jd]
  cases ht:top s.o s.H with
  |none=>exact h
  |some x=>
   obtain⟨h1,_⟩:=qd ht
   have hlen:(s.H.erase x).length+1=s.H.length:=by
    rw[List.length_erase_of_mem h1]
    have:=List.length_pos_of_mem h1
    omega
   simp only
   have hb:=h.hp
   by_cases e:x.2=f x.1
   ·rw[if_pos e]
    exact⟨h.pu,h.pe,by show(s.H.erase x).length+(s.po+1)<=s.pu;omega,h.ro⟩
   ·rw[if_neg e]
    exact Ud k (s:={s with H:=s.H.erase x,po:=s.po+1}) ⟨h.pu,h.pe,by show(s.H.erase x).length+(s.po+1)<=s.pu;omega,h.ro⟩
theorem Ok.diff (h:Ok ts cs mn s) (hk:iW ts cs) {p:P2} (hv:VP s.o p) (hp:1<=bR cs s.ws p) (q:P2) (hq:bR cs s.ws q≠bR cs (fK s p).ws q):q∈p::s.ws.flatMap (touched p (256+(s.o.length:Int))):=by
 by_cases e:q=p
 ·rw[e];simp
 refine List.mem_cons_of_mem _ (Classical.byContradiction fun hn=>hq ?_)
 refine(Ox fun w hw=>?_).symm
 have hnt:q∉touched p (256+(s.o.length:Int)) w:=fun ht=>hn (List.mem_flatMap.2 ⟨w,hw,ht⟩)
 by_cases hm:q.1= -1
 ·have z:∀u:List Int,(∀x∈u,(0:Int)<=x)->jy q u=0:=fun u hu=>by
   have:=iU (q:=q) u
   by_cases h1:1<=jy q u
   ·have:=hu _ (zM h1).1
    omega
   ·omega
  rw[z w (fun x hx=>(h.vw w hw x hx).1),z _ (fun x hx=>?_)]
  rcases wX w x hx with h1|h1
  ·exact(h.vw w hw x h1).1
  ·omega
 ·exact KO e hm w hnt
theorem Ok.dead (h:Ok ts cs mn s) {p:P2} (hv:VP s.o p):bR cs (fK s p).ws p=0:=by
 have hs1:(256+(s.o.length:Int))≠p.1:=by have:=hv.1.2;omega
 have hs2:(256+(s.o.length:Int))≠p.2:=by have:=hv.2.2;omega
 have key:∀(cs:List Int) (ws:List (List Int)),bR cs (ws.map (mI p (256+(s.o.length:Int)))) p=0:=by
  intro cs
  induction cs with
  |nil=>intro ws;simp[bR]
  |cons c cs ih=>
   intro ws
   cases ws with
   |nil=>simp[bR]
   |cons w ws=>rw[List.map_cons,bR,ih,wW hs1 hs2];simp
 exact key cs s.ws
theorem Ok.DF (h:Ok ts cs mn s) (hk:iW ts cs) (uB:1<=mn) {x:It} (hx:mn<=x.2) (he:x.2=bR cs s.ws x.1) (hb:∀q,mn<=bR cs s.ws q->¬bt s.o (q,bR cs s.ws q) x):gU (Ws ts (mg s.o)) cs (fI s.o x.1.1) (fI s.o x.1.2) x.2:=by
 have hv:=h.vp (q:=x.1) (by omega)
 refine .inr ⟨by omega,by rw[he,h.wc hk hv],fun c d hc=>?_⟩
 obtain⟨q,hq,rfl,rfl⟩:=h.pair hk hc
 rw[<-h.wc hk hq] at hc ⊢
 by_cases hl:mn<=bR cs s.ws q
 ·have:=hb q hl
  rw[DK] at this
  simp only[not_or,not_and] at this
  obtain⟨g1,g2⟩:=this
  by_cases e:bR cs s.ws q=x.2
  ·exact .inr ⟨e,Bool.eq_false_iff.2 (g2 e)⟩
  ·exact .inl (by omega)
 ·exact .inl (by omega)
structure Po (ts:List (List UInt8)) (cs:List Int) (mn:Int) (N:Nat) (s:St):Prop where
 ok:Ok ts cs mn s
 cov:Li (bR cs s.ws) mn (fun _=>False) s
 bnd:Bnd N s
theorem Po.pop (h:Po ts cs mn N s) (hk:iW ts cs) (uB:1<=mn):((jd (bR cs s.ws) (s.H.length+1) s).2=none/\∃L R n,gU (Ws ts (mg s.o)) cs L R n/\n<mn)\/
  ∃x,(jd (bR cs s.ws) (s.H.length+1) s).2=some x/\mn<=x.2/\x.2=bR cs s.ws x.1/\VP s.o x.1/\gU (Ws ts (mg s.o)) cs (fI s.o x.1.1) (fI s.o x.1.2) x.2/\Li (bR cs s.ws) mn (fun r=>r=x.1) (jd (bR cs s.ws) (s.H.length+1) s).1:=by
 obtain⟨h1,h2⟩:=h.ok.pop (f:=bR cs s.ws) (s.H.length+1)
 rcases Ue (s.H.length+1) (by omega) h.cov with⟨e,hn⟩|⟨x,e,he,hb,hc⟩
 ·obtain⟨L,R,n,hB,_⟩:=hk.DF (mg s.o)
  refine .inl ⟨e,L,R,n,hB,?_⟩
  by_cases hn2:n<mn
  ·exact hn2
  ·exfalso
   have h3:=hB.wc (by omega)
   obtain⟨q,hq,e1,e2⟩:=h.ok.pair hk (c:=L) (d:=R) (by omega)
   have:=hn q
   rw[h.ok.wc hk hq,<-e1,<-e2] at this
   omega
 ·obtain⟨hm,_⟩:=h2 x e
  have hx:=h.ok.vh x hm
  exact .inr ⟨x,e,hx.2.1,he,hx.1,h.ok.DF hk uB hx.2.1 he hb,hc⟩
theorem Po.step (h:Po ts cs mn N s) (hk:iW ts cs) (uB:1<=mn):
  ((step cs mn s).2=false/\(step cs mn s).1.o=s.o/\(step cs mn s).1.ws=s.ws/\Bnd N (step cs mn s).1/\∃L R n,gU (Ws ts (mg s.o)) cs L R n/\n<mn)\/
  ((step cs mn s).2=true/\Po ts cs mn N (step cs mn s).1/\∃L R n,gU (Ws ts (mg s.o)) cs L R n/\mn<=n/\mg (step cs mn s).1.o=mg s.o++[⟨L,R⟩]):=by
 have hpo:=yo (bR cs s.ws) (s.H.length+1) s
 have hpb:=Ud (f:=bR cs s.ws) (s.H.length+1) h.bnd
 have hpk:=(h.ok.pop (f:=bR cs s.ws) (s.H.length+1)).1
 unfold Tm.step
 rcases h.pop hk uB with⟨e,hB⟩|⟨x,e,hx,he,hv,hB,hc⟩
 ·obtain⟨s1,r,hs⟩:∃s1 r,jd (bR cs s.ws) (s.H.length+1) s=(s1,r):=⟨_,_,rfl⟩
  rw[hs] at e hpo hpb
  simp only at e
  subst e
  rw[hs]
  exact .inl ⟨rfl,hpo.1,hpo.2,hpb,hB⟩
 ·obtain⟨s1,r,hs⟩:∃s1 r,jd (bR cs s.ws) (s.H.length+1) s=(s1,r):=⟨_,_,rfl⟩
  rw[hs] at e hpo hpb hpk hc
  simp only at e hpo hpb hpk hc
  subst e
  rw[hs]
  dsimp only
  rw[if_neg (by omega)]
  obtain⟨p,c⟩:=x
  dsimp only at hx he hv hB hc ⊢
  have hw1:bR cs s1.ws=bR cs s.ws:=by rw[hpo.2]
  have hv1:VP s1.o p:=by rw[hpo.1];exact hv
  have hp1:1<=bR cs s1.ws p:=by rw[hw1];omega
  have hj:=hpk.join hv1 hp1
  have hdf:=hpk.diff hk hv1 hp1
  rw[hw1] at hdf
  have hsd:=Iw _ hdf
  have hdead:=hpk.dead (cs:=cs) hv1
  have hof:(fK s1 p).o=s1.o++[(p,fI s1.o p.1++fI s1.o p.2)]:=rfl
  have hvl:∀q∈sd (bR cs s.ws) (bR cs (fK s1 p).ws),VP (fK s1 p).o q:=fun q hq=>by
   by_cases h1:1<=bR cs (fK s1 p).ws q
   ·exact hj.vp h1
   ·have h2:=(hsd.2 q).1 hq
    have h3:=Ok.vT hk q (fK s1 p).ws
    have h4:=Ok.vT hk q s1.ws
    rw[hw1] at h4
    exact(hpk.vp (q:=q) (by rw[hw1];omega)).more _
  have hO:=hj.puts (fun q=>hj.le hk q) _ hvl
  have hpo2:=vW (mn:=mn) (bR cs (fK s1 p).ws) (sd (bR cs s.ws) (bR cs (fK s1 p).ws)) (fK s1 p)
  refine .inr ⟨rfl,⟨hO,?_,?_⟩,fI s.o p.1,fI s.o p.2,c,hB,hx,?_⟩
  ·rw[hpo2.2]
   refine EW uB _ fun q hq=>?_
   by_cases hm:q∈sd (bR cs s.ws) (bR cs (fK s1 p).ws)
   ·exact .inl (.inl hm)
   ·have heq:bR cs s.ws q=bR cs (fK s1 p).ws q:=Classical.byContradiction fun hne=>hm ((hsd.2 q).2 hne)
    rcases hc q (by omega) with h1|⟨h1,h2⟩
    ·rw[h1] at hq;omega
    ·exact .inr ⟨by rw[<-heq];exact h1,by rw[<-heq];exact h2⟩
  ·refine IU.zero (EU _ ?_)
   have hcount:((sd (bR cs s.ws) (bR cs (fK s1 p).ws)).filter fun q=>decide (1<=vQ mn (bR cs (fK s1 p).ws q))).length<=(s1.ws.flatMap (touched p (256+(s1.o.length:Int)))).length:=by
    refine nN _ _ ((SD.nodup hsd).filter _) fun q hq=>?_
    obtain⟨h1,h2⟩:=List.mem_filter.1 hq
    rcases List.mem_cons.1 (hdf q ((hsd.2 q).1 h1)) with h3|h3
    ·have h4:=of_decide_eq_true h2
     rw[h3,hdead,TA (by omega)] at h4
     omega
    ·exact h3
   have htl:=qK p (256+(s1.o.length:Int)) s1.ws
   have hlt:=Ul p (256+(s1.o.length:Int)) s1.ws (qg hp1)
   have hb1:=hpb.pu
   have hb4:=hpb.ro
   refine⟨?_,hpb.pe,hpb.hp,?_⟩
   ·show s1.pu+(0+_)+4*ll (s1.ws.map (mI p (256+(s1.o.length:Int))))<=5*N
    omega
   ·show(s1.o++[_]).length+ll (s1.ws.map (mI p (256+(s1.o.length:Int))))<=N
    rw[List.length_append,List.length_singleton]
    omega
  ·rw[hpo2.1,hof,TE (x:=(p,fI s1.o p.1++fI s1.o p.2)) (fun x hx=>(hpk.sy x hx).1) hv1,hpo.1]
theorem aam (hk:iW ts cs) (uB:1<=mn):∀(k:Nat) {s:St},Po ts cs mn N s->nK ts cs ((s.o.length+k:Nat):Int) mn (mg s.o) (mg (run cs mn k s).o)/\Bnd N (run cs mn k s)
 |0,s,h=>⟨.full (by simp[mg]),h.bnd⟩
 |k+1,s,h=>by
  rw[run]
  rcases h.step hk uB with⟨e,ho,_,hb,L,R,n,hB,hn⟩|⟨e,hi,L,R,n,hB,hn,ho⟩
  ·rw[if_neg (by simp[e]),ho]
   exact⟨.stop (by simp[mg];omega) hB hn,hb⟩
  ·rw[if_pos e]
   obtain⟨g1,g2⟩:=aam hk uB k hi
   refine⟨.step (by simp[mg];omega) hB hn ?_,g2⟩
   have hl:(step cs mn s).1.o.length=s.o.length+1:=by
    have:=congrArg List.length ho
    simpa[mg] using this
   rw[hl] at g1
   rw[<-ho]
   have e2:s.o.length+1+k=s.o.length+(k+1):=by omega
   rw[e2] at g1
   exact g1
theorem Fw (ts:List (List UInt8)) (cs:List Int) (mn:Int):Ok ts cs mn (start ts):=by
 refine⟨by simp[start],?_,?_,?_,?_,by simp[start],by simp[start]⟩
 ·intro x y hx hy e
  have h1:=hx.1
  have h2:=hx.2
  have h3:=hy.1
  have h4:=hy.2
  simp only[start,List.length_nil] at h2 h4
  unfold fI at e
  rw[wz _ (by omega),wz _ (by omega)] at e
  have h5:=congrArg UInt8.toNat (jL.mkT_inj e)
  rw[UInt8.toNat_ofNat',UInt8.toNat_ofNat'] at h5
  omega
 ·intro w hw x hx
  obtain⟨t,ht,rfl⟩:=List.mem_map.1 hw
  exact Ht _ t x hx
 ·show(ts.map ids).map _=Ws ts []
  rw[List.map_map,Ws]
  apply List.map_congr_left
  intro t _
  exact ids_txi _ t
 ·intro o x p e
  have:=congrArg List.length e
  simp[mg,start] at this
theorem vz (hk:iW ts cs) (uB:1<=mn):Po ts cs mn (ll (ts.map ids)) (first ts cs mn):=by
 have h:=Fw ts cs mn
 have hdf:∀q,(fun _=>(0:Int)) q≠bR cs (start ts).ws q->q∈(start ts).ws.flatMap ES:=fun q hq=>by
  have h1:=Ok.vT hk q (start ts).ws
  simp only at hq
  obtain⟨w,hw,hp⟩:=qg (q:=q) (cs:=cs) (ws:=(start ts).ws) (by omega)
  exact List.mem_flatMap.2 ⟨w,hw,zP hp⟩
 have hsd:=Iw _ hdf
 have hpo:=vW (mn:=mn) (bR cs (start ts).ws) (sd (fun _=>0) (bR cs (start ts).ws)) (start ts)
 have hvl:∀q∈sd (fun _=>0) (bR cs (start ts).ws),VP (start ts).o q:=fun q hq=>by
  have h1:=Ok.vT hk q (start ts).ws
  have h2:=(hsd.2 q).1 hq
  simp only at h2
  exact h.vp (by omega)
 refine⟨h.puts (fun q=>h.le hk q) _ hvl,?_,?_⟩
 ·unfold first
  rw[hpo.2]
  refine EW uB _ fun q hq=>?_
  refine .inl (.inl ((hsd.2 q).2 ?_))
  simp only
  omega
 ·refine IU.zero (EU _ ?_)
  have hcount:((sd (fun _=>0) (bR cs (start ts).ws)).filter fun q=>decide (1<=vQ mn (bR cs (start ts).ws q))).length<=((start ts).ws.flatMap ES).length:=
   nN _ _ ((SD.nodup hsd).filter _) fun q hq=>hdf q ((hsd.2 q).1 (List.mem_filter.1 hq).1)
  have h1:=Kz (start ts).ws
  refine⟨?_,Nat.le_refl _,Nat.le_refl _,?_⟩
  ·show 0+(0+_)+4*ll (ts.map ids)<=5*ll (ts.map ids)
   have:ll (start ts).ws=ll (ts.map ids):=rfl
   omega
  ·show 0+ll (ts.map ids)<=ll (ts.map ids)
   omega
theorem Nv (hk:iW ts cs) (uB:1<=mn) {budget:Int} (hb:0<=budget):nK ts cs budget mn [] (mg (learn ts cs budget mn).o)/\Bnd (ll (ts.map ids)) (learn ts cs budget mn):=by
 have ho:(first ts cs mn).o=[]:=(vW _ _ _).1
 have:=aam hk uB budget.toNat (vz (mn:=mn) hk uB)
 rw[ho] at this
 simp only[List.length_nil,Nat.zero_add,Int.toNat_of_nonneg hb] at this
 exact this
end
end Go.Proofs.YtilpincgjlclpaaGreat.Tm
end
