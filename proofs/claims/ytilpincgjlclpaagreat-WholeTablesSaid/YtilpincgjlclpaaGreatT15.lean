import Derived.Test.YtilpincgjlclpaaGreatB37
import Derived.Test.YtilpincgjlclpaaGreatT13
import Derived.Test.YtilpincgjlclpaaGreatT14
set_option linter.unusedVariables false
set_option linter.unusedSimpArgs false
section
namespace Go.Proofs.YtilpincgjlclpaaGreat.Pr
open Go.RowKit Go.Proofs.ae.au Go.Proofs.ae.aZ Go.Proofs.ae.bE
attribute [local go_sem] bQ min2_int cB min_two max_three min_three max_four min_four
def jh.f (k:Nat) (l0:List (dN)) (bz:Int) (bD:Int) (dA:Int):Option (ByteArray×(List (eu))×Int):=(dh.f k l0 bz bD dA).bind fun yP=>(if yP.2=0 then((bZ.f k yP.1).bind fun Mh=>(some (Mh.1,yP.1,0))) else(some ((⟨#[]⟩:ByteArray),([]:List (eu)),yP.2)))
set_option maxHeartbeats 8000000 in
set_option maxRecDepth 100000 in
theorem jh.calls (k:Nat) (A0:Option Addr) (c0:Nat) (l0:List (dN)) (bz:Int) (bD:Int) (dA:Int) (r1:ByteArray) (r2:List (eu)) (r3:Int) (w:World) (hr0:Kd.C lQ w A0 l0.length l0) (hc0:l0.length<=c0) (h:jh.f k l0 bz bD dA=some (r1,r2,r3)):
  Calls Tryz.prog 11 #[.slice A0 l0.length c0,.agg #[.int .i64 bz,.int .i64 bD,.int .i64 dA]] w fun e w'=>∃v1_:Value,e= .returned (.tuple #[.string r1,v1_,.int .i64 r3])/\Kd.R qj 47 w' w.heap.size (fun _=>True) v1_ r2/\Below w.heap.size w w':=by
 have hu24:=Tryz.underlying24
 have gq:=ai.mk hr0
 have lC:=ai.mk hc0
 clear hr0 hc0
 have HB:=ai.mk (Below.refl w.heap.size w)
 have H:((dh.f k l0 bz bD dA).bind fun yP=>(if yP.2=0 then((bZ.f k yP.1).bind fun Mh=>(some (Mh.1,yP.1,0))) else(some ((⟨#[]⟩:ByteArray),([]:List (eu)),yP.2))))=some (r1,r2,r3):=h
 clear h
 replace H:=Option.bind_eq_some_iff.mp H
 obtain⟨⟨t205,t208⟩,RX,H⟩:=H
 replace H:(if t208=0 then((bZ.f k t205).bind fun Mh=>(some (Mh.1,t205,0))) else(some ((⟨#[]⟩:ByteArray),([]:List (eu)),t208)))=some (r1,r2,r3):=H
 have A3:=ai.mk RX
 clear RX
 by_cases c4:t208=0
 ·rw[if_pos c4] at H
  have iw:(t208==0)=true:=beq_iff_eq.mpr c4
  have ve:(t208 != 0)=false:=bne_eq_false_iff_eq.mpr c4
  clear c4
  replace H:=Option.bind_eq_some_iff.mp H
  obtain⟨⟨t209,t210⟩,Dk,H⟩:=H
  replace H:(some (t209,t205,0))=some (r1,r2,r3):=H
  have A5:=ai.mk Dk
  clear Dk
  simp only[Option.some.injEq,Prod.mk.injEq] at H
  obtain⟨rfl,rfl,rfl⟩:=H
  go_enter Tryz.func11,Tryz.ntmps11
  go_wp2_with (first|((with_reducible refine di (N:=3) rfl ?_);refine bW ?hg (N:=3) ?hd (cs:=#[.int .i64 bz,.int .i64 bD,.int .i64 dA]) (t:=24) ?hr ?_;(case hd=>rfl);(case hg=>rfl);(case hr=>first|(go_simp;done)|(go_simp;rfl));intro rA hg w6 dm hb;have bN:=ai.mk (bn (by repeat(first|(with_reducible first|exact HB.out|apply ag|apply af|apply ah)|exact HB.out)) hb);have bP:=ai.mk (dm);have cz:=ai.mk ((by rw[hg];exact(ay (by repeat(first|(with_reducible first|exact HB.out|apply ag|apply af|apply ah)|exact HB.out))):w.heap.size<=rA));have fC:=ai.mk ((by rw[hg];exact(ay (by repeat(first|(with_reducible first|exact HB.out|apply ag|apply af|apply ah)|exact HB.out))):w.heap.size<=rA));clear HB;have HB:=bN;have mJ:=bP;have GW204:=cz;have Dn:=fC;clear bN bP cz fC;clear hb dm hg;have JA:w6.cell? ⟨rA,0,none⟩=some (.int .i64 bz):=(ax mJ.out 0).trans rfl;have JB:w6.cell? ⟨rA,1,none⟩=some (.int .i64 bD):=(ax mJ.out 1).trans rfl;have YT:w6.cell? ⟨rA,2,none⟩=some (.int .i64 dA):=(ax mJ.out 2).trans rfl;have JS:=ak mJ.out 0;have JU:=ak mJ.out 1;have YX:=ak mJ.out 2)|((with_reducible refine bL (f:=42) rfl ?_);refine eQ (some 14) rfl rfl Tryz.func42 (by kernel_rfl) rfl #[.slice A0 l0.length c0,.agg #[.int .i64 bz,.int .i64 bD,.int .i64 dA]] rfl (by(try simp only[List.map_toArray,List.map_cons,List.map_nil]);first|done|rfl|(simp only[List.length_drop,List.length_take];rfl)) ?_;(with_reducible refine(dh.calls k _ _ l0 bz bD dA t205 t208 _ ?gM ?gW A3.out).mono ?_);(case gM=>repeat(first|exact(Kd.bY gq.out HB.out)|(with_reducible refine Kd.dD ?_ _)|(with_reducible refine Kd.dB ?_ _)|(with_reducible refine Kd.fA ?_)));(case gW=>exact lC.out);rintro e w8 ⟨v206,rfl,ho0,hb⟩;refine⟨_,rfl,?_⟩;have bN:=ai.mk (Kd.lF ho0 (ay (by repeat(first|(with_reducible first|exact HB.out|apply ag|apply af|apply ah|refine az ?_ Dn.out)|exact HB.out))));have bP:=ai.mk (fQ (g:=rA) (o:= .cells #[.int .i64 bz,.int .i64 bD,.int .i64 dA] 24 (0,0)) (by(with_reducible repeat(first|refine aW ?_ _|refine bC ?_|refine bf ?_ _));exact mJ.out) hb);have cz:=ai.mk (bn (by repeat(first|(with_reducible first|exact HB.out|apply ag|apply af|apply ah|refine az ?_ Dn.out)|exact HB.out)) hb);clear mJ;clear HB;have LB:=bN;have mJ:=bP;have HB:=cz;clear bN bP cz;(try clear hb);(try clear hb2);(try clear hk);(try clear hi);(try clear ho0);obtain⟨Ao9,co9,eo9⟩:=Kd.gL LB.out;subst eo9)|((with_reducible refine bL (f:=43) rfl ?_);refine eQ (some 22) rfl rfl Tryz.func43 (by kernel_rfl) rfl #[.slice Ao9 t205.length co9] rfl (by(try simp only[List.map_toArray,List.map_cons,List.map_nil]);first|done|rfl|(simp only[List.length_drop,List.length_take];rfl)) ?_;(with_reducible refine(bZ.calls k _ _ t205 t209 t210 _ ?gM ?gW A5.out).mono ?_);(case gM=>repeat(first|exact(Kd.dP LB.out).2.2|(with_reducible refine Kd.dD ?_ _)|(with_reducible refine Kd.dB ?_ _)|(with_reducible refine Kd.fA ?_)));(case gW=>exact(Kd.dP LB.out).2.1);rintro e w' ⟨rfl,⟨nd,rfl⟩⟩;refine⟨_,rfl,?_⟩))
  go_ret3
  exact⟨_,by first|rfl|(simp[aC,aD]<;>rfl)|(simp[*,aC,aD]<;>rfl),by(with_reducible repeat(first|apply Kd.aM|apply Kd.aK|apply Kd.aV));exact LB.out,by repeat(first|(with_reducible first|exact HB.out|apply ag|apply af|apply ah|refine az ?_ Dn.out)|exact HB.out)⟩
 ·rw[if_neg c4] at H
  have iw:(t208==0)=false:=beq_eq_false_iff_ne.mpr c4
  have ve:(t208 != 0)=true:=bne_iff_ne.mpr c4
  simp only[Option.some.injEq,Prod.mk.injEq] at H
  obtain⟨rfl,rfl,rfl⟩:=H
  go_enter Tryz.func11,Tryz.ntmps11
  go_wp2_with (first|((with_reducible refine di (N:=3) rfl ?_);refine bW ?hg (N:=3) ?hd (cs:=#[.int .i64 bz,.int .i64 bD,.int .i64 dA]) (t:=24) ?hr ?_;(case hd=>rfl);(case hg=>rfl);(case hr=>first|(go_simp;done)|(go_simp;rfl));intro rA hg w10 dm hb;have bN:=ai.mk (bn (by repeat(first|(with_reducible first|exact HB.out|apply ag|apply af|apply ah)|exact HB.out)) hb);have bP:=ai.mk (dm);have cz:=ai.mk ((by rw[hg];exact(ay (by repeat(first|(with_reducible first|exact HB.out|apply ag|apply af|apply ah)|exact HB.out))):w.heap.size<=rA));have fC:=ai.mk ((by rw[hg];exact(ay (by repeat(first|(with_reducible first|exact HB.out|apply ag|apply af|apply ah)|exact HB.out))):w.heap.size<=rA));clear HB;have HB:=bN;have mJ:=bP;have GW204:=cz;have Dn:=fC;clear bN bP cz fC;clear hb dm hg;have SK:w10.cell? ⟨rA,0,none⟩=some (.int .i64 bz):=(ax mJ.out 0).trans rfl;have SL:w10.cell? ⟨rA,1,none⟩=some (.int .i64 bD):=(ax mJ.out 1).trans rfl;have hcz11_2:w10.cell? ⟨rA,2,none⟩=some (.int .i64 dA):=(ax mJ.out 2).trans rfl;have SX:=ak mJ.out 0;have SY:=ak mJ.out 1;have hfz11_2:=ak mJ.out 2)|((with_reducible refine bL (f:=42) rfl ?_);refine eQ (some 14) rfl rfl Tryz.func42 (by kernel_rfl) rfl #[.slice A0 l0.length c0,.agg #[.int .i64 bz,.int .i64 bD,.int .i64 dA]] rfl (by(try simp only[List.map_toArray,List.map_cons,List.map_nil]);first|done|rfl|(simp only[List.length_drop,List.length_take];rfl)) ?_;(with_reducible refine(dh.calls k _ _ l0 bz bD dA t205 t208 _ ?gM ?gW A3.out).mono ?_);(case gM=>repeat(first|exact(Kd.bY gq.out HB.out)|(with_reducible refine Kd.dD ?_ _)|(with_reducible refine Kd.dB ?_ _)|(with_reducible refine Kd.fA ?_)));(case gW=>exact lC.out);rintro e RS ⟨v206,rfl,ho0,hb⟩;refine⟨_,rfl,?_⟩;have bN:=ai.mk (Kd.lF ho0 (ay (by repeat(first|(with_reducible first|exact HB.out|apply ag|apply af|apply ah|refine az ?_ Dn.out)|exact HB.out))));have bP:=ai.mk (fQ (g:=rA) (o:= .cells #[.int .i64 bz,.int .i64 bD,.int .i64 dA] 24 (0,0)) (by(with_reducible repeat(first|refine aW ?_ _|refine bC ?_|refine bf ?_ _));exact mJ.out) hb);have cz:=ai.mk (bn (by repeat(first|(with_reducible first|exact HB.out|apply ag|apply af|apply ah|refine az ?_ Dn.out)|exact HB.out)) hb);clear mJ;clear HB;have LB:=bN;have mJ:=bP;have HB:=cz;clear bN bP cz;(try clear hb);(try clear hb2);(try clear hk);(try clear hi);(try clear ho0)))
  go_ret3
  exact⟨_,by first|rfl|(simp[aC,aD]<;>rfl)|(simp[*,aC,aD]<;>rfl),by first|exact Kd.jM _ _ _ _ _|exact Kd.kQ _ _ _ _ _|exact Kd.kS _ _ _ _ _|exact Kd.kR _ _ _ _ _|exact Kd.kg _ _ _ _ _,by repeat(first|(with_reducible first|exact HB.out|apply ag|apply af|apply ah|refine az ?_ Dn.out)|exact HB.out)⟩
end Go.Proofs.YtilpincgjlclpaaGreat.Pr
end
section
namespace Go.Proofs.YtilpincgjlclpaaGreat.Ob
open Go Go.RowKit Go.Proofs.ae.au Pr Mp jL Hp
open gJ (iW nK jR madeOf vN rR iG)
open Tm (mg)
open uA (iJ jN jW rQ wi jB)
abbrev SMg:=eu
theorem rd47' (l:List SMg) (i:Nat) (h:i<l.length):bM l (i:Int)=l[i]:=KG l i h
theorem Vf {ts:List (List UInt8)} {m:List SMg} (hc:jR ts m) (hm:m.length<=100000) (hz:∀x∈m,x.f0.size<=300/\x.f1.size<=300) (k:Nat):eH.f k m=some (-1,0):=by
 unfold eH.f
 rw[if_pos]
 refine⟨hm,hz,fun i=>?_⟩
 have h:=i.2
 have hsp:m=m.take i++m[i]::m.drop (i+1):=by
  have:m[i]::m.drop (i+1)=m.drop i:=(List.drop_eq_getElem_cons h).symm
  rw[this,List.take_append_drop]
 exact hc.parts hsp
theorem WG {ts:List (List UInt8)} {m:List SMg} (hc:jR ts m) (hm:m.length<=100000) (hz:∀x∈m,x.f0.size<=300/\x.f1.size<=300) (k:Nat) (hk:m.length+1<=k):
  bZ.f k m=some (⟨(kH (m.map fun x=>(x.f0,x.f1))).toArray⟩,0):=by
 have put:∀s:ByteArray,s.size<=300->fu.f s=some ⟨(iK s.data.toList).toArray⟩:=fun s hs=>by
  unfold fu.f
  rw[if_pos (by omega)]
 have hfl:∀i,(kH ((m.take i).map fun x=>(x.f0,x.f1))).length<=10+i*131074:=fun i=>by
  have:=GZ ((m.take i).map fun x=>(x.f0,x.f1)) (fun y hy=>by
   obtain⟨x,hx,rfl⟩:=List.mem_map.1 hy
   have:=hz x (List.mem_of_mem_take hx)
   show x.f0.size+x.f1.size<=65536
   omega)
  refine Nat.le_trans this ?_
  have h2:((m.take i).map fun x=>(x.f0,x.f1)).length<=i:=by rw[List.length_map,List.length_take];omega
  exact Nat.add_le_add_left (Nat.mul_le_mul_right _ h2) _
 have loop:∀d i k,i+d=m.length->d+1<=k->bZ.l0 k m ⟨(kH ((m.take i).map fun x=>(x.f0,x.f1))).toArray⟩ (i:Int)=some (⟨(kH (m.map fun x=>(x.f0,x.f1))).toArray⟩,0):=by
  intro d
  induction d with
  |zero=>
   intro i k hi hk
   obtain⟨k,rfl⟩:∃k',k=k'+1:=⟨k-1,by omega⟩
   rw[bZ.l0,if_neg (by omega),List.take_of_length_le (by omega)]
  |succ d ih=>
   intro i k hi hk
   obtain⟨k,rfl⟩:∃k',k=k'+1:=⟨k-1,by omega⟩
   have hlt:i<m.length:=by omega
   have h3:=hz _ (List.getElem_mem hlt)
   have h4:=hfl i
   have h5:i*131074<=13107400000:=by omega
   have e0:m[i].f0.data.toList.length=m[i].f0.size:=by simp
   have e1:m[i].f1.data.toList.length=m[i].f1.size:=by simp
   obtain⟨X,hX⟩:∃X:ByteArray,X=⟨(kH ((m.take i).map fun x=>(x.f0,x.f1))).toArray⟩:=⟨_,rfl⟩
   obtain⟨P,hP⟩:∃P:ByteArray,P=⟨(iK m[i].f0.data.toList).toArray⟩:=⟨_,rfl⟩
   obtain⟨Q,hQ⟩:∃Q:ByteArray,Q=⟨(iK m[i].f1.data.toList).toArray⟩:=⟨_,rfl⟩
   have sX:X.size=(kH ((m.take i).map fun x=>(x.f0,x.f1))).length:=by rw[hX];rfl
   have sP:P.size=2*m[i].f0.size:=by rw[hP,<-e0];exact jG _
   have sQ:Q.size=2*m[i].f1.size:=by rw[hQ,<-e1];exact jG _
   have a1:(X++P).size=X.size+P.size:=ByteArray.size_append
   have a2:((X++P)++(⟨#[32]⟩:ByteArray)).size=X.size+P.size+1:=by rw[ByteArray.size_append,a1];rfl
   have a3:(((X++P)++(⟨#[32]⟩:ByteArray))++Q).size=X.size+P.size+1+Q.size:=by rw[ByteArray.size_append,a2]
   have hnext:(((X++P)++(⟨#[32]⟩:ByteArray))++Q)++(⟨#[10]⟩:ByteArray)=⟨(kH ((m.take (i+1)).map fun x=>(x.f0,x.f1))).toArray⟩:=by
    rw[List.take_succ_eq_append_getElem hlt,List.map_append,List.map_cons,List.map_nil,DY,hX,hP,hQ]
    apply ByteArray.ext
    apply Array.toList_inj.1
    simp[ByteArray.data_append,xI]
   rw[bZ.l0,if_pos (by omega),if_pos (by omega),rd47' m i hlt,put _ h3.1,Option.bind_some,<-hX,<-hP,if_pos (by omega),if_pos (by omega),put _ h3.2,Option.bind_some,<-hQ,if_pos (by omega),if_pos (by omega),wi i (by omega),hnext]
   exact ih (i+1) k (by omega) (by omega)
 unfold bZ.f
 rw[Vf hc hm hz k,Option.bind_some,if_pos rfl]
 have:=loop m.length 0 k (by omega) (by omega)
 exact this
theorem KJ (bu mn li:Int):fE.f bu mn li=some (Gg bu mn li):=EM bu mn li
theorem ref17_f {l:List dN} (hf:iJ l) (hs:((gB l).map List.length).sum<=6000) (bu mn li:Int):∃k0,∀k,k0<=k->dh.f k l bu mn li=some (if ic l bu mn li=0 then mg (kU l bu mn) else[],ic l bu mn li):=by
 have hlen:=hf.1
 obtain⟨p',e',hk2,he'⟩:=rQ l hf
 have heE:IK l bu mn li=0->ic l bu mn li=e':=fun hw=>by unfold ic;rw[if_neg (by simp[hw]),he'];rfl
 have heW:IK l bu mn li≠0->ic l bu mn li=IK l bu mn li:=fun hw=>by unfold ic;rw[if_pos hw]
 obtain⟨K,hK⟩:∃K,ic l bu mn li=0->∀k,K<=k->av.f k l bu mn=some (mg (kU l bu mn)):=by
  by_cases h:ic l bu mn li=0
  ·obtain⟨K,hK⟩:=NR hf hs h
   exact⟨K,fun _=>hK⟩
  ·exact⟨0,fun h9=>(h h9).elim⟩
 have hnil:∀{c:Int},c≠0->(if c=0 then mg (kU l bu mn) else[])=[]:=fun hc=>if_neg hc
 have loop:Gg bu mn li=0->∀m i k,i+m=l.length->K+3000+m+1<=k->xJ (l.drop i) li=xJ l li->dh.l0 k l (i:Int) bu mn li=some (if ic l bu mn li=0 then mg (kU l bu mn) else[],ic l bu mn li):=by
  intro hp m
  induction m with
  |zero=>
   intro i k hi hk hd
   obtain⟨k,rfl⟩:∃k',k=k'+1:=⟨k-1,by omega⟩
   rw[List.drop_of_length_le (by omega)] at hd
   have hw:IK l bu mn li=0:=by unfold IK;rw[if_pos hp,<-hd];rfl
   rw[dh.l0,if_neg (by omega),hk2 _ (by omega),Option.bind_some,heE hw]
   by_cases h:e'=0
   ·rw[if_pos h,hK ((heE hw).trans h) _ (by omega),Option.bind_some,h,if_pos rfl]
   ·rw[if_neg h,if_neg h]
  |succ m ih=>
   intro i k hi hk hd
   obtain⟨k,rfl⟩:∃k',k=k'+1:=⟨k-1,by omega⟩
   have hlt:i<l.length:=by omega
   rw[List.drop_eq_getElem_cons hlt,Es] at hd
   rw[dh.l0,if_pos (by omega),if_pos (by omega),jB l i hlt,wi i (by omega)]
   by_cases hg:(l[i].f0.size:Int)>li
   ·rw[if_pos hg] at hd
    have hw:IK l bu mn li=4:=by unfold IK;rw[if_pos hp];exact hd.symm
    rw[if_pos hg,heW (by rw[hw];decide),hw]
    rfl
   ·rw[if_neg hg] at hd ⊢
    exact ih (i+1) k (by omega) (by omega) hd
 refine⟨K+3000+l.length+2,fun k hk=>?_⟩
 unfold dh.f
 rw[KJ,Option.bind_some]
 by_cases hp:Gg bu mn li=0
 ·rw[if_pos hp]
  exact loop hp l.length 0 k (by omega) (by omega) rfl
 ·have hw:IK l bu mn li=Gg bu mn li:=by unfold IK;rw[if_neg hp]
  rw[if_neg hp,heW (by rw[hw];exact hp),hw,if_neg hp]
theorem Ew {l:List dN} {bu mn li:Int} (h:Lnt l bu mn li):∀x∈mg (kU l bu mn),x.f0.size<=300/\x.f1.size<=300:=fun x hx=>by
 have:=h.siz (x.f0,x.f1) (by rw[tJ];exact List.mem_map.2 ⟨x,hx,rfl⟩)
 exact this
theorem vS (o:List J):(mg o).length=o.length:=by unfold mg;rw[List.length_map]
theorem ref22_f {l:List dN} (hf:iJ l) (hs:((gB l).map List.length).sum<=6000) (bu mn li:Int):∃k0,∀k,k0<=k->jh.f k l bu mn li=some (if ic l bu mn li=0 then zJ l bu mn else⟨#[]⟩,if ic l bu mn li=0 then mg (kU l bu mn) else[],ic l bu mn li):=by
 obtain⟨K,hK⟩:=ref17_f hf hs bu mn li
 refine⟨K+100002,fun k hk=>?_⟩
 unfold jh.f
 rw[hK k (by omega),Option.bind_some]
 by_cases h:ic l bu mn li=0
 ·have hn:=lnt hf hs h
  have hlen:(mg (kU l bu mn)).length<=100000:=by rw[vS];exact hn.len
  rw[if_pos h,if_pos h,if_pos h,WG (nK.chain hn.mn1 hn.lrn (fun o x p e=>by simp at e)) hlen (Ew hn) k (by omega),Option.bind_some,h]
  have:zJ l bu mn=⟨(kH ((mg (kU l bu mn)).map fun x=>(x.f0,x.f1))).toArray⟩:=by
   unfold zJ rM
   rw[tJ]
  rw[this]
 ·rw[if_neg h,if_neg h,if_neg h]
end Go.Proofs.YtilpincgjlclpaaGreat.Ob
end
