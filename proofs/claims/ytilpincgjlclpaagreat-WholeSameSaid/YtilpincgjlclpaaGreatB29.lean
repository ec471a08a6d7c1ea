import Derived.Test.YtilpincgjlclpaaGreatB26
import Derived.Test.YtilpincgjlclpaaGreatB28
set_option linter.unusedVariables false
set_option linter.unusedSimpArgs false
section
namespace Go.Proofs.YtilpincgjlclpaaGreat.Ob
open Go.RowKit jL Mp Hp
open Tm (It St lI jd puts vQ Ak fK Po Ok ll yo nN Iw qK Fu)
open gJ (iW)
theorem wo:∀ws:List (List Int),ll ws=fG ws
 |[]=>rfl
 |w::ws=>by rw[ll,fG,wo ws]
theorem inw_pok {ts:List (List UInt8)} {cs:List Int} {mn:Int} {N:Nat} {s s1:St} {x:It} (h:Po ts cs mn N s) (hk:iW ts cs) (uB:1<=mn) (hp:jd (bR cs s.ws) (s.H.length+1) s=(s1,some x)):
  Pok cs mn s1 x/\(sd (bR cs s.ws) (bR cs (fK s1 x.1).ws)).length+4*fG (fK s1 x.1).ws<=4*fG s.ws+1:=by
 have hpo:=yo (bR cs s.ws) (s.H.length+1) s
 have hpk:=(h.ok.pop (f:=bR cs s.ws) (s.H.length+1)).1
 rcases h.pop hk uB with⟨e,_⟩|⟨y,e,hx,he,hv,_,_⟩
 ·rw[hp] at e;cases e
 ·rw[hp] at e hpo hpk
  cases e
  simp only at hpo hpk
  have hw1:bR cs s1.ws=bR cs s.ws:=by rw[hpo.2]
  have hv1:VP s1.o x.1:=by rw[hpo.1];exact hv
  have hp1:1<=bR cs s1.ws x.1:=by rw[hw1];omega
  have hdf:=hpk.diff hk hv1 hp1
  have hj:=hpk.join hv1 hp1
  obtain⟨t,ht,h1⟩:=hpk.there hv1 hp1
  obtain⟨j,g1,g2⟩:=gJ.EO h1
  have n1:=Fu (List.mem_of_getElem? g1)
  have n2:=Fu (List.mem_of_getElem? g2)
  obtain⟨t',ht',h2⟩:=hpk.text hv1 hp1
  have hl:=hk.len t' ht'
  refine⟨⟨hx,hv1,by omega,DZ (hpk.fresh hv1 hp1) (by rw[ByteArray.size_append];omega),hp1,fun q hq=>?_⟩,?_⟩
  ·by_cases h3:1<=bR cs (fK s1 x.1).ws q
   ·exact hj.vp h3
   ·have h4:=Ok.vT hk q (fK s1 x.1).ws
    have h5:=Ok.vT hk q s1.ws
    exact(hpk.vp (q:=q) (by omega)).more _
  ·rw[hw1] at hdf
   have hsd:=Iw _ hdf
   have hn:=nN _ _ (Tm.SD.nodup hsd) (fun q hq=>hdf q ((hsd.2 q).1 hq))
   have ht:=qK x.1 (256+(s1.o.length:Int)) s1.ws
   rw[wo,wo,hpo.2] at ht
   have ht2:(s.ws.flatMap (touched x.1 (256+(s1.o.length:Int)))).length+4*fG (fK s1 x.1).ws<=4*fG s.ws:=by
    show _+4*fG (s1.ws.map (mI x.1 (256+(s1.o.length:Int))))<=_
    rw[hpo.2]
    exact ht
   rw[List.length_cons,hpo.2] at hn
   omega
end Go.Proofs.YtilpincgjlclpaaGreat.Ob
end
section
namespace Go.Proofs.YtilpincgjlclpaaGreat.Ob
open Go Go.RowKit Bs Mp jL Hp
open Tm (It St lI jd puts vQ Ak fK Po Ok yo vW)
open gJ (iW)
def LI (w0:World) (b:Nat) (bu mn li:Int) (nw fst N:Nat) (cs:List Int) (s:St) (W:World):Prop:=
 ∃B ib tb qb vs vc cb ab tg gF am rws tc n M nq Sq So,w0.heap.size<=B/\uN B W b ib tb qb bu mn li nw fst s.o.length vs vc cb ab tg gF am rws cs s tc n M nq Sq So/\n+5*fG s.ws<=6*N/\M+5*fG s.ws<=6*N/\nq+5*fG s.ws<=6*N+s.o.length/\tc<=s.o.length*10000/\Below w0.heap.size w0 W/\∀k,(k=b\/gZ tg k\/So k\/Sq k)->w0.heap.size<=k
theorem Wq {cs:List Int} {mn:Int} {s s1:St} (h:jd (bR cs s.ws) (s.H.length+1) s=(s1,none)):Tm.step cs mn s=(s1,false):=by unfold Tm.step;rw[h]
theorem Wt {cs:List Int} {mn:Int} {s s1:St} {x:It} (h:jd (bR cs s.ws) (s.H.length+1) s=(s1,some x)) (hx:mn<=x.2):Tm.step cs mn s=(puts mn (bR cs (fK s1 x.1).ws) (fK s1 x.1) (sd (bR cs s.ws) (bR cs (fK s1 x.1).ws)),true):=by
 unfold Tm.step
 rw[h]
 dsimp only
 rw[if_neg (by omega)]
theorem tr_step {w0:World} {b nw fst N:Nat} {bu mn li:Int} {ts:List (List UInt8)} {cs:List Int} {s:St} {W:World} (hI:LI w0 b bu mn li nw fst N cs s W) (hin:Po ts cs mn N s) (hk:iW ts cs) (uB:1<=mn) (hN:N<=10000):
  Calls Tryz.prog 46 #[.pointer (some ⟨b,0,none⟩)] W fun e w'=>∃(t1 t2:ByteArray) (m:Bool),e= .returned (.tuple #[.agg #[.string t1,.string t2],.bool m])/\∃s',LI w0 b bu mn li nw fst N cs s' w'/\
   ((m=true/\(s.o.length:Int)<bu/\Tm.step cs mn s=(s',true)/\s'.o.length=s.o.length+1)\/(m=false/\s'.o=s.o/\Tm.run cs mn (bu-(s.o.length:Int)).toNat s=s')):=by
 obtain⟨B,ib,tb,qb,vs,vc,cb,ab,tg,gF,am,rws,tc,n,M,nq,Sq,So,hB,hL,hn,hM,hq,htc,hBW,hS⟩:=hI
 have hbr:=hin.bnd.ro
 rw[wo] at hbr
 have hsW:=hBW.size
 by_cases hro:bu<=(s.o.length:Int)
 ·refine(KQ hL hro).mono ?_
  rintro e w' ⟨rfl,hL',hB'⟩
  refine⟨_,_,false,rfl,s,⟨B,ib,tb,qb,vs,vc,cb,ab,tg,gF,am,rws,tc,n,M,nq,Sq,So,hB,hL',hn,hM,hq,htc,hBW.trans (hB'.mono hsW),hS⟩,.inr ⟨rfl,rfl,?_⟩⟩
  rw[show(bu-(s.o.length:Int)).toNat=0 by omega]
  rfl
 ·obtain⟨j,hj⟩:∃j,(bu-(s.o.length:Int)).toNat=j+1:=⟨(bu-(s.o.length:Int)).toNat-1,by omega⟩
  obtain⟨s1,r,hp⟩:∃s1 r,jd (bR cs s.ws) (s.H.length+1) s=(s1,r):=⟨_,_,rfl⟩
  have hpo:=yo (bR cs s.ws) (s.H.length+1) s
  rw[hp] at hpo
  simp only at hpo
  cases r with
  |none=>
   refine(KR hL (by omega) (by omega) (by omega) hin.ok.inj hp).mono ?_
   rintro e w' ⟨rfl,Ga,hL',hF,hi⟩
   rw[<-hpo.1] at hL' hq htc
   refine⟨_,_,false,rfl,s1,⟨B,ib,tb,qb,vs,vc,cb,ab,tg,gF,am,rws,tc,n,M,nq,Ga,So,hB,hL',by rw[hpo.2];exact hn,by rw[hpo.2];exact hM,by rw[hpo.2];exact hq,htc,hBW.trans (hF.toBelow (fun k hk=>hS k (.inr (.inr (.inr hk)))) hsW),fun k hk=>?_⟩,.inr ⟨rfl,hpo.1,?_⟩⟩
   ·rcases hk with h1|h1|h1|h1
    ·exact hS k (.inl h1)
    ·exact hS k (.inr (.inl h1))
    ·exact hS k (.inr (.inr (.inl h1)))
    ·rcases hi k h1 with h2|h2
     ·exact hS k (.inr (.inr (.inr h2)))
     ·exact Nat.le_trans hsW h2
   ·rw[hj,Tm.run,Wq hp]
    rfl
  |some x=>
   obtain⟨hok,hlen⟩:=inw_pok hin hk uB hp
   have hmany:s.ws.length<=10000:=hL.gd.many
   refine(KS hL (by omega) (by omega) (by omega) hin.ok.inj hp hok (by omega) (by omega) (by omega) (by omega) (by omega) hlen).mono ?_
   rintro e w' ⟨t1,t2,xy,Lf,lS,k,tc',n',M',nq',Ga,So',rfl,hL',hsum,hn',hM',htc',hq',hF,hi⟩
   have ho:=vW (mn:=mn) (bR cs (fK s1 x.1).ws) (sd (bR cs s.ws) (bR cs (fK s1 x.1).ws)) (fK s1 x.1)
   have hol:(puts mn (bR cs (fK s1 x.1).ws) (fK s1 x.1) (sd (bR cs s.ws) (bR cs (fK s1 x.1).ws))).o.length=s.o.length+1:=by
    rw[ho.1]
    show(s1.o++[_]).length=_
    rw[List.length_append,List.length_singleton,hpo.1]
   rw[<-ho.2] at hsum
   refine⟨t1,t2,true,rfl,_,⟨B,ib,tb,qb,vs,vc,cb,ab,xy,gF,Lf,lS,tc',n',M',nq',Ga,So',hB,?_,by omega,by omega,by omega,by omega,hBW.trans (hF.toBelow hS hsW),fun k hk=>?_⟩,.inl ⟨rfl,by omega,Wt hp hok.mn,hol⟩⟩
   ·rw[hol];exact hL'
   ·rcases hi k hk with h2|h2
    ·exact hS k h2
    ·exact Nat.le_trans hsW h2
end Go.Proofs.YtilpincgjlclpaaGreat.Ob
end
section
namespace Go.Proofs.YtilpincgjlclpaaGreat.Ob
open Go Go.RowKit Go.Proofs.ae.au Pr Bs Mp jL Hp
open Tm (It St lI jd puts vQ Ak fK Po Ok yo vW vz ll)
open gJ (iW)
def gB (l:List dN):List (List UInt8):=l.map fun x=>x.f0.data.toList
theorem tZ (l:List dN):(gB l).map ids=gI l:=by simp[gB,gI]
def LnI (w0:World) (b:Nat) (bu mn li:Int) (nw fst N:Nat) (ts:List (List UInt8)) (cs:List Int) (FIN:St) (s:St) (m:Bool) (W:World):Prop:=
 LI w0 b bu mn li nw fst N cs s W/\(∀x∈s.o,VP s.o x.1)/\s.o.length<=N/\(m=true->Po ts cs mn N s/\Tm.run cs mn (bu-(s.o.length:Int)).toNat s=FIN)/\(m=false->s=FIN)
set_option maxHeartbeats 8000000 in
set_option maxRecDepth 100000 in
theorem tr_learn {w:World} {A:Option Addr} {c0:Nat} {l:List dN} (hC:Kd.C lQ w A l.length l) (hc0:l.length<=c0) {k1 k2 k3:Nat} {p bu mn li:Int} (xZ:dG.f k1 l=some (p,0)) (hpos:dM.f k2 l=some ((fG (gI l):Nat):Int)) (hwr:eZ.f k3 l bu mn li=some 0) (hg:Gd (gG l) (gI l)) (hsz:∀x∈l,x.f0.size<=1000) (hlen:(sd (fun _=>0) (bR (gG l) (gI l))).length<=fG (gI l)) (hvp:∀q,bR (gG l) (gI l) q≠0->VP [] q) (hsum:fG (gI l)<=10000) (hk:iW (gB l) (gG l)) (uB:1<=mn):
  Calls Tryz.prog 14 #[.slice A l.length c0,.agg #[.int .i64 bu,.int .i64 mn,.int .i64 li]] w fun e w'=>∃(v:Value) (ro:Nat) (F:St),F=Tm.learn (gB l) (gG l) bu mn/\ro=F.o.length/\e= .returned (.tuple #[v,.agg #[.int .i64 (fG (gI l):Int),.int .i64 (ro:Int),.int .i64 (F.pu:Int),.int .i64 (F.po:Int),.int .i64 (F.pe:Int),.int .i64 (F.re:Int)],.int .i64 0])/\w'.ownsRow w.heap.size Cz 2 v (pR F.o).length ((pR F.o).flatMap mW)/\Below w.heap.size w w':=by
 obtain⟨V0,CJ⟩:∃V0,V0=(w.alloc (.cells #[.int .i64 bu,.int .i64 mn,.int .i64 li] 24)).alloc (.cells #[.int .i64 0,.int .i64 0,.int .i64 0,.int .i64 0,.int .i64 0,.int .i64 0] 29):=⟨_,rfl⟩
 have hB0:Below w.heap.size w V0:=by rw[CJ];exact((Below.refl _ w).alloc (Nat.le_refl _) _).alloc (by simp) _
 have Dt:=Lib.hid (tr_new (Kd.bY hC hB0) hc0 xZ hpos hwr hg hsz (by omega) hvp (by omega))
 obtain⟨FIN,hFIN⟩:∃F,F=Tm.learn (gB l) (gG l) bu mn:=⟨_,rfl⟩
 have HG:=Lib.hid (And.intro hlen (And.intro hk hFIN))
 have HB0:=Lib.hid hB0
 rw[<-hFIN]
 obtain⟨N,hN⟩:∃N,fG (gI l)=N:=⟨_,rfl⟩
 rw[hN] at hsum Dt ⊢
 have HN:=Lib.hid hN
 clear hC xZ hpos hwr hg hsz hlen hvp hk hFIN hB0 hN
 rw[CJ] at Dt
 have HV0:=Lib.hid CJ
 clear CJ
 go_enter Tryz.func14,Tryz.ntmps14
 go_wp2_with (first
  |(go_at_call 45;refine Dt.out.mono ?_;clear Dt;rintro e w1 ⟨B,b,ib,tb,qb,vs,vc,cb,ab,tg,gF,am,rws,n,M,Sq,So,hB,rfl,hL1,hn1,hM1,hB1,hS1⟩;have H1:=Lib.hid (And.intro hB (And.intro hL1 (And.intro hn1 (And.intro hM1 (And.intro hB1 hS1)))));clear hB hL1 hn1 hM1 hB1 hS1)
  |fail)
 rw[<-HV0.out] at H1
 have hst:LnI V0 b bu mn li l.length N N (gB l) (gG l) FIN (Tm.first (gB l) (gG l) mn) true w1:=by
  obtain⟨hB,hL1,hn1,hM1,hB1,hS1⟩:=H1.out
  have hs0:Tm.start (gB l)=s0 (gI l):=by unfold Tm.start s0;rw[tZ]
  have hfe:Tm.first (gB l) (gG l) mn=puts mn (bR (gG l) (gI l)) (s0 (gI l)) (sd (fun _=>0) (bR (gG l) (gI l))):=by unfold Tm.first;rw[hs0];rfl
  have ho:=vW (mn:=mn) (bR (gG l) (gI l)) (sd (fun _=>0) (bR (gG l) (gI l))) (s0 (gI l))
  have hin:=vz HG.out.2.1 uB
  rw[wo,tZ,HN.out] at hin
  rw[<-hfe] at ho hL1
  have e1:(Tm.first (gB l) (gG l) mn).o.length=0:=by rw[ho.1];rfl
  have e2:fG (Tm.first (gB l) (gG l) mn).ws=N:=by rw[ho.2];exact HN.out
  have h9:=HG.out.1
  rw[HN.out] at h9
  refine⟨⟨B,ib,tb,qb,vs,vc,cb,ab,tg,gF,am,rws,0,n,M,_,Sq,So,hB,by rw[e1];exact hL1,by omega,by omega,by omega,by omega,hB1,hS1⟩,fun x hx=>(hin.ok.sy x hx).1,by omega,fun _=>⟨hin,?_⟩,fun h=>by cases h⟩
  rw[e1,HG.out.2.2]
  show Tm.run _ _ (bu-(0:Int)).toNat _=Tm.learn _ _ _ _
  rw[Int.sub_zero]
  rfl
 have HST:=Lib.hid hst
 have HSZ:Hid (V0.heap.size=w.heap.size+2):=Lib.hid (by rw[HV0.out];simp)
 clear hst H1
 go_loopg [9] ((bu-((Tm.first (gB l) (gG l) mn).o.length:Int)).toNat+1) (fun gk v9 wr=>∃(s:St) (m:Bool),v9= .bool m/\gk=(if m=true then(bu-(s.o.length:Int)).toNat+1 else 0)/\Hid (LnI V0 b bu mn li l.length N N (gB l) (gG l) FIN s m wr))
 case atStart=>exact⟨_,true,rfl,rfl,HST⟩
 case round=>
  obtain⟨s,m,rfl,qy,HI⟩:=hrel
  cases m with
  |false=>
   obtain⟨hLI,hvs,hol,_,hfin⟩:=HI.out
   have hse:=hfin rfl
   subst hse
   obtain⟨B,ib,tb,qb,vs,vc,cb,ab,tg,gF,am,rws,tc,n,M,nq,Sq,So,hB,hL,_,_,_,_,hBW,_⟩:=hLI
   have HMG:=Lib.hid (WB hL (by omega) hvs)
   have HSS:Hid (∀U,Below wr.heap.size wr U->_):=Lib.hid fun U hU=>tr_stats (hL.below hU)
   have hb0:V0.heap[w.heap.size+1]?=some (.cells #[.int .i64 0,.int .i64 0,.int .i64 0,.int .i64 0,.int .i64 0,.int .i64 0] 29 (0,0)):=by
    have h9:=Bs.bG (w.alloc (.cells #[.int .i64 bu,.int .i64 mn,.int .i64 li] 24)) (.cells #[.int .i64 0,.int .i64 0,.int .i64 0,.int .i64 0,.int .i64 0,.int .i64 0] 29)
    rw[World.size_alloc] at h9
    rw[HV0.out]
    exact h9
   have HBL:=Lib.hid ((hBW.block _ (Bs.bA hb0)).trans hb0)
   have HBW:=Lib.hid hBW
   clear hL hBW hb0 hvs hfin
   go_wp2_with (first
    |(go_at_call 47;refine HMG.out.mono ?_;clear HMG;rintro e w2 ⟨v,rfl,ho2,hB2⟩;have H2:=Lib.hid (And.intro ho2 hB2);clear ho2 hB2)
    |(go_at_call 48;refine(HSS.out _ H2.out.2).mono ?_;clear HSS;rintro e w3 ⟨rfl,hB3⟩;have Gj:=H2.out.2.trans (hB3.mono H2.out.2.size);have hb3:=(Gj.block _ (Bs.bA HBL.out)).trans HBL.out;have z0:w3.cell? ⟨w.heap.size+1,0,none⟩=some (.int .i64 0):=Bs.aj hb3 0;have f0:=Bs.aX hb3 0;have z1:w3.cell? ⟨w.heap.size+1,1,none⟩=some (.int .i64 0):=Bs.aj hb3 1;have f1:=Bs.aX hb3 1;have z2:w3.cell? ⟨w.heap.size+1,2,none⟩=some (.int .i64 0):=Bs.aj hb3 2;have f2:=Bs.aX hb3 2;have z3:w3.cell? ⟨w.heap.size+1,3,none⟩=some (.int .i64 0):=Bs.aj hb3 3;have f3:=Bs.aX hb3 3;have z4:w3.cell? ⟨w.heap.size+1,4,none⟩=some (.int .i64 0):=Bs.aj hb3 4;have f4:=Bs.aX hb3 4;have z5:w3.cell? ⟨w.heap.size+1,5,none⟩=some (.int .i64 0):=Bs.aj hb3 5;have f5:=Bs.aX hb3 5;have H3:=Lib.hid (And.intro hB3 (And.intro Gj hb3));clear hB3 Gj hb3)
    |fail)
   have hr4:=(Bs.heap_set (Bs.heap_set (Bs.heap_set (Bs.heap_set (Bs.heap_set (Bs.heap_set H3.out.2.2 0 (.int .i64 (N:Int))) 1 (.int .i64 (s.o.length:Int))) 2 (.int .i64 (s.pu:Int))) 3 (.int .i64 (s.po:Int))) 4 (.int .i64 (s.pe:Int))) 5 (.int .i64 (s.re:Int)))
   have hBw3:Below w.heap.size w w3:=(HB0.out.trans (HBW.out.mono HB0.out.size)).trans (H3.out.2.1.mono (Nat.le_trans HB0.out.size HBW.out.size))
   have hfr:=(((((((Fr.dL (S:=fun k=>w.heap.size<=k) hBw3).set (p:=⟨w.heap.size+1,0,none⟩) (.inr (Nat.le_succ _)) (.int .i64 (N:Int))).set (p:=⟨w.heap.size+1,1,none⟩) (.inr (Nat.le_succ _)) (.int .i64 (s.o.length:Int))).set (p:=⟨w.heap.size+1,2,none⟩) (.inr (Nat.le_succ _)) (.int .i64 (s.pu:Int))).set (p:=⟨w.heap.size+1,3,none⟩) (.inr (Nat.le_succ _)) (.int .i64 (s.po:Int))).set (p:=⟨w.heap.size+1,4,none⟩) (.inr (Nat.le_succ _)) (.int .i64 (s.pe:Int))).set (p:=⟨w.heap.size+1,5,none⟩) (.inr (Nat.le_succ _)) (.int .i64 (s.re:Int)))
   have hB4:=hfr.toBelow (fun _ h=>h) (Nat.le_refl _)
   have hfo:=(((((((Fr.refl (fun k=>k=w.heap.size+1) w3).set (p:=⟨w.heap.size+1,0,none⟩) (.inl rfl) (.int .i64 (N:Int))).set (p:=⟨w.heap.size+1,1,none⟩) (.inl rfl) (.int .i64 (s.o.length:Int))).set (p:=⟨w.heap.size+1,2,none⟩) (.inl rfl) (.int .i64 (s.pu:Int))).set (p:=⟨w.heap.size+1,3,none⟩) (.inl rfl) (.int .i64 (s.po:Int))).set (p:=⟨w.heap.size+1,4,none⟩) (.inl rfl) (.int .i64 (s.pe:Int))).set (p:=⟨w.heap.size+1,5,none⟩) (.inl rfl) (.int .i64 (s.re:Int)))
   have ho3:=(Fr.dL (S:=fun _=>False) H3.out.1).own H2.out.1 (fun _ _ h=>h)
   have Ao:=hfo.own ho3 (fun g hg hk=>by have h8:=(eG H2.out.1 hg).1;have h9:=HBW.out.size;have h10:=HSZ.out;have h11:g=w.heap.size+1:=hk;omega)
   have HE:=Lib.hid (And.intro hr4 (And.intro hB4 Ao))
   clear hr4 hBw3 hfr hB4 hfo ho3 Ao
   go_wp2
   refine bodyPost_ret (v:= .tuple #[v,.agg #[.int .i64 (N:Int),.int .i64 (s.o.length:Int),.int .i64 (s.pu:Int),.int .i64 (s.po:Int),.int .i64 (s.pe:Int),.int .i64 (s.re:Int)],.int .i64 0]) ?res rfl ?_
   case res=>exact zU (rs:=[.tmp 4,.cell 5 29,.tmp 6]) (vs:=[v,.agg #[.int .i64 (N:Int),.int .i64 (s.o.length:Int),.int .i64 (s.pu:Int),.int .i64 (s.po:Int),.int .i64 (s.pe:Int),.int .i64 (s.re:Int)],.int .i64 0]) rfl (by simp) (.tmp (.cell (w.heap.size+1) 29 #[.int .i64 (N:Int),.int .i64 (s.o.length:Int),.int .i64 (s.pu:Int),.int .i64 (s.po:Int),.int .i64 (s.pe:Int),.int .i64 (s.re:Int)] (0,0) _ rfl HE.out.1 Tryz.underlying29 rfl (by kernel_rfl) (.tmp .nil)))
   exact⟨v,s.o.length,s,rfl,rfl,rfl,zK HE.out.2.2 (Nat.le_trans HB0.out.size HBW.out.size),HE.out.2.1⟩
  |true=>
   obtain⟨hLI,hvs,hol,hm1,_⟩:=HI.out
   obtain⟨hin,hrun⟩:=hm1 rfl
   have HSTEP:=Lib.hid (tr_step hLI hin HG.out.2.1 uB hsum)
   have HR:=Lib.hid (And.intro hin (And.intro hrun hvs))
   clear hLI hvs hm1 hin hrun
   rw[if_pos rfl] at qy
   go_wp2_with (first
    |(go_at_call 46;refine HSTEP.out.mono ?_;clear HSTEP;rintro e w2 ⟨t1,t2,m2,rfl,s2,hLI2,hcase⟩;have H2:=Lib.hid (And.intro hLI2 hcase);clear hLI2 hcase)
    |fail)
   go_roundg (if m2=true then(bu-(s2.o.length:Int)).toNat+1 else 0)
   case measure=>
    rcases H2.out.2 with⟨rfl,h1,_,h2⟩|⟨rfl,_⟩
    ·rw[if_pos rfl];omega
    ·simp;omega
   case rel=>
    obtain⟨hLI2,hcase⟩:=H2.out
    obtain⟨hin,hrun,hvs⟩:=HR.out
    refine⟨s2,m2,rfl,rfl,Lib.hid ⟨hLI2,?_⟩⟩
    rcases hcase with⟨rfl,h1,h2,h3⟩|⟨rfl,h1,h2⟩
    ·rcases hin.step HG.out.2.1 uB with⟨h4,_⟩|⟨_,h4,_⟩
     ·rw[h2] at h4;cases h4
     ·rw[h2] at h4
      simp only at h4
      have h5:=h4.bnd.ro
      refine⟨fun x hx=>(h4.ok.sy x hx).1,by omega,fun _=>⟨h4,?_⟩,fun h=>by cases h⟩
      obtain⟨j,hj⟩:∃j,(bu-(s.o.length:Int)).toNat=j+1:=⟨(bu-(s.o.length:Int)).toNat-1,by omega⟩
      rw[hj,Tm.run,h2,if_pos rfl] at hrun
      rw[show(bu-(s2.o.length:Int)).toNat=j by omega]
      exact hrun
    ·refine⟨by rw[h1];exact hvs,by rw[h1];exact hol,fun h=>(by cases h),fun _=>?_⟩
     rw[<-hrun,h2]
end Go.Proofs.YtilpincgjlclpaaGreat.Ob
end
section
namespace Go.Proofs.YtilpincgjlclpaaGreat.Ob
open Go Go.RowKit Go.Proofs.ae.au Pr Bs Mp jL Hp
open Tm (It St Ok Iw nN Kz qg ES zP Fw start)
open gJ (iW)
theorem Yz {ts:List (List UInt8)} {cs:List Int} (hk:iW ts cs):(sd (fun _=>0) (bR cs (ts.map ids))).length<=fG (ts.map ids)/\∀q,bR cs (ts.map ids) q≠0->VP [] q:=by
 have hdf:∀q,(fun _=>(0:Int)) q≠bR cs (ts.map ids) q->q∈(ts.map ids).flatMap ES:=fun q hq=>by
  have h1:=Ok.vT hk q (ts.map ids)
  simp only at hq
  obtain⟨w,hw,hp⟩:=qg (q:=q) (cs:=cs) (ws:=ts.map ids) (by omega)
  exact List.mem_flatMap.2 ⟨w,hw,zP hp⟩
 have hsd:=Iw _ hdf
 refine⟨?_,fun q hq=>?_⟩
 ·have h1:=nN _ _ (Tm.SD.nodup hsd) (fun q hq=>hdf q ((hsd.2 q).1 hq))
  have h2:=Kz (ts.map ids)
  rw[wo] at h2
  omega
 ·have h1:=Ok.vT hk q (ts.map ids)
  exact(Fw ts cs 1).vp (q:=q) (show 1<=bR cs (ts.map ids) q by omega)
set_option maxHeartbeats 2000000 in
set_option maxRecDepth 100000 in
theorem KP {w:World} {A:Option Addr} {c0:Nat} {l:List dN} (hC:Kd.C lQ w A l.length l) (hc0:l.length<=c0) {k3:Nat} {bu mn li r:Int} (hwr:eZ.f k3 l bu mn li=some r) (hr:r≠0):
  Calls Tryz.prog 45 #[.slice A l.length c0,.agg #[.int .i64 bu,.int .i64 mn,.int .i64 li]] w fun e w'=>e= .returned (.tuple #[.pointer none,.int .i64 r])/\Below w.heap.size w w':=by
 obtain⟨V0,CJ⟩:∃V0,V0=w.alloc (.cells #[.int .i64 bu,.int .i64 mn,.int .i64 li] 24):=⟨_,rfl⟩
 have hB0:Below w.heap.size w V0:=by rw[CJ];exact(Below.refl _ w).alloc (Nat.le_refl _) _
 have hp0:V0.heap[w.heap.size]?=some (.cells #[.int .i64 bu,.int .i64 mn,.int .i64 li] 24 (0,0)):=by rw[CJ];exact bG _ _
 have e0:V0.cell? ⟨w.heap.size,0,none⟩=some (.int .i64 bu):=Bs.aj hp0 0
 have e1:V0.cell? ⟨w.heap.size,1,none⟩=some (.int .i64 mn):=Bs.aj hp0 1
 have e2:V0.cell? ⟨w.heap.size,2,none⟩=some (.int .i64 li):=Bs.aj hp0 2
 have Xv:=Lib.hid (eZ.calls k3 A c0 l bu mn li r V0 (Kd.bY hC hB0) hc0 hwr)
 have H0:=Lib.hid hB0
 clear hC hwr hB0 hp0
 rw[CJ] at Xv e0 e1 e2 H0
 clear CJ
 go_enter Tryz.func45,Tryz.ntmps45
 go_wp2_with (first
  |(go_at_call 79;refine Xv.out.mono ?_;clear Xv;rintro e w1 ⟨rfl,hB1⟩;have H1:=Lib.hid (H0.out.trans (hB1.mono H0.out.size));clear hB1)
  |fail)
 go_ret2
 exact⟨rfl,H1.out⟩
theorem Qj {w:World} {A:Option Addr} {c0:Nat} {l:List dN} (hC:Kd.C lQ w A l.length l) (hc0:l.length<=c0) {k1:Nat} {p r:Int} (xZ:dG.f k1 l=some (p,r)) (hr:r≠0):
  Calls Tryz.prog 80 #[.slice A l.length c0] w fun e w'=>e= .returned (.tuple #[.pointer none,.int .i64 r])/\Below w.heap.size w w':=by
 have HCK:=Lib.hid (dG.calls k1 A c0 l p r w hC hc0 xZ)
 clear hC xZ
 go_enter Tryz.func80,Tryz.ntmps80
 go_wp2_with (first
  |(go_at_call 24;refine HCK.out.mono ?_;clear HCK;rintro e w1 ⟨rfl,hB1⟩;have H1:=Lib.hid hB1;clear hB1)
  |fail)
 go_ret2
 exact⟨rfl,H1.out⟩
set_option maxHeartbeats 2000000 in
set_option maxRecDepth 100000 in
theorem RQ {w:World} {A:Option Addr} {c0:Nat} {l:List dN} (hC:Kd.C lQ w A l.length l) (hc0:l.length<=c0) {k1 k3:Nat} {p bu mn li r:Int} (hwr:eZ.f k3 l bu mn li=some 0) (xZ:dG.f k1 l=some (p,r)) (hr:r≠0):
  Calls Tryz.prog 45 #[.slice A l.length c0,.agg #[.int .i64 bu,.int .i64 mn,.int .i64 li]] w fun e w'=>e= .returned (.tuple #[.pointer none,.int .i64 r])/\Below w.heap.size w w':=by
 obtain⟨V0,CJ⟩:∃V0,V0=w.alloc (.cells #[.int .i64 bu,.int .i64 mn,.int .i64 li] 24):=⟨_,rfl⟩
 have hB0:Below w.heap.size w V0:=by rw[CJ];exact(Below.refl _ w).alloc (Nat.le_refl _) _
 have hp0:V0.heap[w.heap.size]?=some (.cells #[.int .i64 bu,.int .i64 mn,.int .i64 li] 24 (0,0)):=by rw[CJ];exact bG _ _
 have e0:V0.cell? ⟨w.heap.size,0,none⟩=some (.int .i64 bu):=Bs.aj hp0 0
 have e1:V0.cell? ⟨w.heap.size,1,none⟩=some (.int .i64 mn):=Bs.aj hp0 1
 have e2:V0.cell? ⟨w.heap.size,2,none⟩=some (.int .i64 li):=Bs.aj hp0 2
 have Xv:=Lib.hid (eZ.calls k3 A c0 l bu mn li 0 V0 (Kd.bY hC hB0) hc0 hwr)
 have HIX:=Lib.hid (fun W (hB:Below w.heap.size w W)=>Qj (Kd.bY hC hB) hc0 xZ hr)
 have H0:=Lib.hid hB0
 clear hC hwr xZ hB0 hp0
 rw[CJ] at Xv e0 e1 e2 H0
 clear CJ
 go_enter Tryz.func45,Tryz.ntmps45
 go_wp2_with (first
  |(go_at_call 79;refine Xv.out.mono ?_;clear Xv;rintro e w1 ⟨rfl,hB1⟩;have H1:=Lib.hid (H0.out.trans (hB1.mono H0.out.size));clear hB1)
  |(go_at_call 80;refine(HIX.out _ H1.out).mono ?_;clear HIX;rintro e w2 ⟨rfl,hB2⟩;have H2:=Lib.hid (H1.out.trans (hB2.mono H1.out.size));clear hB2)
  |fail)
 go_ret2
 exact⟨rfl,H2.out⟩
set_option maxHeartbeats 2000000 in
set_option maxRecDepth 100000 in
theorem Ab {w:World} {A:Option Addr} {n c0:Nat} {bu mn li r:Int} (hr:r≠0) (hnew:∀V,Below w.heap.size w V->Calls Tryz.prog 45 #[.slice A n c0,.agg #[.int .i64 bu,.int .i64 mn,.int .i64 li]] V fun e w'=>e= .returned (.tuple #[.pointer none,.int .i64 r])/\Below V.heap.size V w'):
  Calls Tryz.prog 14 #[.slice A n c0,.agg #[.int .i64 bu,.int .i64 mn,.int .i64 li]] w fun e w'=>e= .returned (.tuple #[.slice none 0 0,.agg #[.int .i64 0,.int .i64 0,.int .i64 0,.int .i64 0,.int .i64 0,.int .i64 0],.int .i64 r])/\Below w.heap.size w w':=by
 obtain⟨V0,CJ⟩:∃V0,V0=(w.alloc (.cells #[.int .i64 bu,.int .i64 mn,.int .i64 li] 24)).alloc (.cells #[.int .i64 0,.int .i64 0,.int .i64 0,.int .i64 0,.int .i64 0,.int .i64 0] 29):=⟨_,rfl⟩
 have hB0:Below w.heap.size w V0:=by rw[CJ];exact((Below.refl _ w).alloc (Nat.le_refl _) _).alloc (by simp) _
 have hb0:V0.heap[w.heap.size+1]?=some (.cells #[.int .i64 0,.int .i64 0,.int .i64 0,.int .i64 0,.int .i64 0,.int .i64 0] 29 (0,0)):=by
  have h9:=Bs.bG (w.alloc (.cells #[.int .i64 bu,.int .i64 mn,.int .i64 li] 24)) (.cells #[.int .i64 0,.int .i64 0,.int .i64 0,.int .i64 0,.int .i64 0,.int .i64 0] 29)
  rw[World.size_alloc] at h9
  rw[CJ]
  exact h9
 have Dt:=Lib.hid (hnew V0 hB0)
 have H0:=Lib.hid (And.intro hB0 hb0)
 clear hnew hB0 hb0
 rw[CJ] at Dt H0
 clear CJ
 go_enter Tryz.func14,Tryz.ntmps14
 go_wp2_with (first
  |(go_at_call 45;refine Dt.out.mono ?_;clear Dt;rintro e w1 ⟨rfl,hB1⟩;have HB1:=Lib.hid hB1;clear hB1;have hb1:=(HB1.out.block _ (Bs.bA H0.out.2)).trans H0.out.2;have hBw:=H0.out.1.trans (HB1.out.mono H0.out.1.size);have z0:w1.cell? ⟨w.heap.size+1,0,none⟩=some (.int .i64 0):=Bs.aj hb1 0;have f0:=Bs.aX hb1 0;have z1:w1.cell? ⟨w.heap.size+1,1,none⟩=some (.int .i64 0):=Bs.aj hb1 1;have f1:=Bs.aX hb1 1;have z2:w1.cell? ⟨w.heap.size+1,2,none⟩=some (.int .i64 0):=Bs.aj hb1 2;have f2:=Bs.aX hb1 2;have z3:w1.cell? ⟨w.heap.size+1,3,none⟩=some (.int .i64 0):=Bs.aj hb1 3;have f3:=Bs.aX hb1 3;have z4:w1.cell? ⟨w.heap.size+1,4,none⟩=some (.int .i64 0):=Bs.aj hb1 4;have f4:=Bs.aX hb1 4;have z5:w1.cell? ⟨w.heap.size+1,5,none⟩=some (.int .i64 0):=Bs.aj hb1 5;have f5:=Bs.aX hb1 5;have HE:=Lib.hid (And.intro (Bs.heap_set (Bs.heap_set (Bs.heap_set (Bs.heap_set (Bs.heap_set (Bs.heap_set hb1 0 (.int .i64 0)) 1 (.int .i64 0)) 2 (.int .i64 0)) 3 (.int .i64 0)) 4 (.int .i64 0)) 5 (.int .i64 0)) ((((((((Fr.dL (S:=fun k=>w.heap.size<=k) hBw).set (p:=⟨w.heap.size+1,0,none⟩) (.inr (Nat.le_succ _)) (.int .i64 0)).set (p:=⟨w.heap.size+1,1,none⟩) (.inr (Nat.le_succ _)) (.int .i64 0)).set (p:=⟨w.heap.size+1,2,none⟩) (.inr (Nat.le_succ _)) (.int .i64 0)).set (p:=⟨w.heap.size+1,3,none⟩) (.inr (Nat.le_succ _)) (.int .i64 0)).set (p:=⟨w.heap.size+1,4,none⟩) (.inr (Nat.le_succ _)) (.int .i64 0)).set (p:=⟨w.heap.size+1,5,none⟩) (.inr (Nat.le_succ _)) (.int .i64 0)).toBelow (fun _ h=>h) (Nat.le_refl _)));clear hb1 hBw)
  |fail)
 apply bodyPost_ret
 ·exact zU (rs:=[.tmp 4,.cell 5 29,.tmp 6]) (vs:=[.slice none 0 0,.agg #[.int .i64 0,.int .i64 0,.int .i64 0,.int .i64 0,.int .i64 0,.int .i64 0],.int .i64 r]) rfl (by simp) (.tmp (.cell (w.heap.size+1) 29 #[.int .i64 0,.int .i64 0,.int .i64 0,.int .i64 0,.int .i64 0,.int .i64 0] (0,0) _ rfl HE.out.1 Tryz.underlying29 rfl (by kernel_rfl) (.tmp .nil)))
 ·rfl
 ·exact⟨rfl,HE.out.2⟩
end Go.Proofs.YtilpincgjlclpaaGreat.Ob
end
