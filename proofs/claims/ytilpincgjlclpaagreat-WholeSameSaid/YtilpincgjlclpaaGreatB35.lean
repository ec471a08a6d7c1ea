import Derived.Test.YtilpincgjlclpaaGreatB33
import Derived.Test.YtilpincgjlclpaaGreatB34
set_option linter.unusedVariables false
set_option linter.unusedSimpArgs false
section
namespace Go.Proofs.YtilpincgjlclpaaGreat.Aj
open Go.RowKit Bs Go.Proofs.ae.au
def jF (cont:List ByteArray->ByteArray->Bool):List ByteArray->List ByteArray->Nat->Nat×Bool×List ByteArray
 |ws,[],i=>(i,true,ws)
 |ws,x::r,i=>if cont ws x=true then jF cont (ws++[x]) r (i+1) else(i+1,false,ws++[x])
structure CB (nf:Nat) (DN:Array Value) (cont:List ByteArray->ByteArray->Bool) where
 St:List ByteArray->(Nat->Prop)->World->Prop
 keep:∀{ws M W W' S},St ws M W->Fr S W W'->(∀k,M k->¬S k)->St ws M W'
 lt:∀{ws M W},St ws M W->∀k,M k->k<W.heap.size
 enter:∀args W,(callFunc nf args).run Tryz.prog W= .ok (.enter nf args) W
 call:∀ws M W x,St ws M W->ws.length<=1000000->Calls Tryz.prog nf (#[.string x]++DN) W fun e W'=>e= .returned (.bool (cont ws x))/\∃M',St (ws++[x]) M' W'/\Fr M W W'/\∀k,M' k->M k\/W.heap.size<=k
theorem func_ne (nf:Nat) (DN:Array Value) (W:World):(binOp .neq 103 (.func (.func nf) #[] DN) .nilFunc).run Tryz.prog W= .ok (.bool true) W:=by kernel_rfl
set_option maxHeartbeats 1000000 in
set_option maxRecDepth 100000 in
theorem hand_cb {nf:Nat} {DN:Array Value} {cont:List ByteArray->ByteArray->Bool} (F:CB nf DN cont) (A:Option Addr) (c:Nat) (l:List ByteArray) (ws:List ByteArray) (M:Nat->Prop) (w:World)
  (hl:Kd.C Kd.string w A l.length l) (hst:F.St ws M w) (hM:∀ad,A=some ad->¬M ad.block) (hbig:ws.length+l.length<=1000000):
  Calls Tryz.prog 96 #[.slice A l.length c,.func (.func nf) #[] DN] w fun e w'=>e= .returned (.tuple #[.int .i64 (jF cont ws l 0).1,.bool (jF cont ws l 0).2.1])/\∃M',F.St (jF cont ws l 0).2.2 M' w'/\Fr M w w'/\∀k,M' k->M k\/w.heap.size<=k:=by
 have HL:=Lib.hid hl
 have HST:=Lib.hid hst
 have hne:=func_ne nf DN
 have hen:=F.enter
 clear hl hst
 go_enter Tryz.func96,Tryz.ntmps96
 go_wp2_with fail
 go_loopw [10] (fun v10 wr=>∃(i:Nat) (ws':List ByteArray) (M':Nat->Prop),i<=l.length/\v10= .int .i64 i/\jF cont ws' (l.drop i) i=jF cont ws l 0/\ws'.length=ws.length+i/\F.St ws' M' wr/\Fr M w wr/\∀k,M' k->M k\/w.heap.size<=k) (fun v10 _=>l.length-(intOf v10).toNat)
 case atStart=>exact⟨0,ws,M,Nat.zero_le _,rfl,rfl,rfl,HST.out,Fr.refl _ _,fun k hk=> .inl hk⟩
 case round=>
  obtain⟨i,ws',M',hi,rfl,hh,hwl,hst,hfr,hm⟩:=hrel
  have HH:=Lib.hid hh
  have HS:=Lib.hid hst
  have HF:=Lib.hid hfr
  have HM:=Lib.hid hm
  clear hh hst hfr hm
  by_cases hlt:i<l.length
  ·have hd:l.drop i=l[i]::l.drop (i+1):=List.drop_eq_getElem_cons hlt
   obtain⟨g,o,rfl,hc⟩:=Src.Bp HL.out (by omega)
   have hc1:=HF.out.cell (hc i hlt) (hM ⟨g,o,none⟩ rfl)
   rw[show l.getD i ByteArray.empty=l[i] by simp[List.getD,hlt]] at hc1
   have HD:=Lib.hid hd
   have HWL:=Lib.hid hwl
   clear hc hd hwl
   generalize hpc:l[i]=pc at *
   have hcl:=F.call ws' M' wr pc HS.out (by have:=HWL.out;omega)
   have Sa:=Lib.hid hcl
   clear hcl
   cases hct:cont ws' pc with
   |true=>
    rw[hct] at Sa
    go_wp2_with fail
    refine Sa.out.mono ?_
    rintro e w1 ⟨rfl,M1,hs1,hf1,hm1⟩
    have Du:=Lib.hid hs1
    have HF1:=Lib.hid (HF.out.trans hf1 (fun k hk=>HM.out k hk))
    have uG:=Lib.hid (show∀k,M1 k->M k\/w.heap.size<=k from fun k hk=>(hm1 k hk).elim (fun h=>HM.out k h) (fun h=> .inr (Nat.le_trans HF.out.size h)))
    clear hs1 hf1 hm1 Sa
    go_wp2_with fail
    go_roundw
    case rel=>exact⟨i+1,ws'++[pc],M1,by omega,by go_num,by rw[<-HH.out,HD.out,jF,if_pos hct],by rw[List.length_append,HWL.out];simp;omega,Du.out,HF1.out,uG.out⟩
    case measure=>simp[intOf];omega
   |false=>
    rw[hct] at Sa
    go_wp2_with fail
    refine Sa.out.mono ?_
    rintro e w1 ⟨rfl,M1,hs1,hf1,hm1⟩
    have Du:=Lib.hid hs1
    have HF1:=Lib.hid (HF.out.trans hf1 (fun k hk=>HM.out k hk))
    have uG:=Lib.hid (show∀k,M1 k->M k\/w.heap.size<=k from fun k hk=>(hm1 k hk).elim (fun h=>HM.out k h) (fun h=> .inr (Nat.le_trans HF.out.size h)))
    clear hs1 hf1 hm1 Sa
    go_wp2_with fail
    go_ret2
    have hx:jF cont ws l 0=(i+1,false,ws'++[pc]):=by rw[<-HH.out,HD.out,jF,if_neg (by rw[hct];simp)]
    rw[hx]
    exact⟨rfl,M1,Du.out,HF1.out,uG.out⟩
  ·have hil:i=l.length:=by omega
   have hx:jF cont ws l 0=(l.length,true,ws'):=by rw[<-HH.out,hil,List.drop_length,jF]
   have HX:=Lib.hid hx
   clear hx hil
   go_wp2_with fail
   go_ret2
   rw[HX.out]
   exact⟨rfl,M',HS.out,HF.out,HM.out⟩
end Go.Proofs.YtilpincgjlclpaaGreat.Aj
namespace Go.Proofs.YtilpincgjlclpaaGreat.Aj
open Go.RowKit Bs Go.Proofs.ae.au
structure HD (V:Value) (cont:List ByteArray->ByteArray->Bool) where
 St:List ByteArray->(Nat->Prop)->World->Prop
 keep:∀{ws M W W' S},St ws M W->Fr S W W'->(∀k,M k->¬S k)->St ws M W'
 lt:∀{ws M W},St ws M W->∀k,M k->k<W.heap.size
 hand:∀(A:Option Addr) (c:Nat) (l:List ByteArray) (ws:List ByteArray) (M:Nat->Prop) (w:World),Kd.C Kd.string w A l.length l->St ws M w->(∀ad,A=some ad->¬M ad.block)->ws.length+l.length<=1000000->
  Calls Tryz.prog 96 #[.slice A l.length c,V] w fun e w'=>e= .returned (.tuple #[.int .i64 (jF cont ws l 0).1,.bool (jF cont ws l 0).2.1])/\∃M',St (jF cont ws l 0).2.2 M' w'/\Fr M w w'/\∀k,M' k->M k\/w.heap.size<=k
def HD.ofCB {nf:Nat} {DN:Array Value} {cont:List ByteArray->ByteArray->Bool} (F:CB nf DN cont):HD (.func (.func nf) #[] DN) cont where
 St:=F.St
 keep:=F.keep
 lt:=F.lt
 hand:=fun A c l ws M w hl hs hM hb=>hand_cb F A c l ws M w hl hs hM hb
theorem Ec:∀(l ws:List ByteArray) (i:Nat),jF (fun _ _=>true) ws l i=(i+l.length,true,ws++l)
 |[],ws,i=>by simp[jF]
 |x::r,ws,i=>by rw[jF,if_pos rfl,Ec r];simp;omega
structure SRC (T:TypeId) (p:Value) where
 fn:Nat
 is:∀(xT:TypeId) (w:World),(Instr.typeAssert (.iface T p) xT 170 true).run Tryz.prog w= .ok (.tuple #[.iface T p,.bool true]) w
 meth:∀(w:World),(method 438 T p "Next").run Tryz.prog w= .ok (fn,p) w
 enter:∀args W,(callFunc fn args).run Tryz.prog W= .ok (.enter fn args) W
 St:List ByteArray->Int->(Nat->Prop)->World->Prop
 keep:∀{r e M W W' S},St r e M W->Fr S W W'->(∀k,M k->¬S k)->St r e M W'
 lt:∀{r e M W},St r e M W->∀k,M k->k<W.heap.size
 more:∀(s:ByteArray) (r:List ByteArray) (e:Int) (M:Nat->Prop) (W:World),St (s::r) e M W->Calls Tryz.prog fn #[p] W fun x W'=>
  ∃g cp,x= .returned (.tuple #[.slice (some ⟨g,0,none⟩) s.size cp,.bool true,.int .i64 0])/\Lib.Bytes W' g 0 s/\W.heap.size<=g/\g<W'.heap.size/\St r e M W'/\Fr M W W'
 last:∀(e:Int) (M:Nat->Prop) (W:World),St [] e M W->Calls Tryz.prog fn #[p] W fun x W'=>x= .returned (.tuple #[.slice none 0 0,.bool false,.int .i64 e])/\St [] e M W'/\Fr M W W'
def rf (lim:Int) (cont:List ByteArray->ByteArray->Bool) (err:Int):List UInt8->List ByteArray->Nat->List ByteArray->Nat×Int×List ByteArray
 |op,ws,many,[]=>if err=0 then(many+(jF cont ws ((kJ.rq op).map Pr.ym) 0).1,0,(jF cont ws ((kJ.rq op).map Pr.ym) 0).2.2) else(many,err,ws)
 |op,ws,many,s::r=>
  if(jF cont ws ((kJ.eD lim op s.data.toList []).1.map Pr.ym) 0).2.1=true then
   (if(kJ.eD lim op s.data.toList []).2.1=true then rf lim cont err (kJ.eD lim op s.data.toList []).2.2 (jF cont ws ((kJ.eD lim op s.data.toList []).1.map Pr.ym) 0).2.2 (many+(jF cont ws ((kJ.eD lim op s.data.toList []).1.map Pr.ym) 0).1) r
   else(many+(jF cont ws ((kJ.eD lim op s.data.toList []).1.map Pr.ym) 0).1,4,(jF cont ws ((kJ.eD lim op s.data.toList []).1.map Pr.ym) 0).2.2))
  else(many+(jF cont ws ((kJ.eD lim op s.data.toList []).1.map Pr.ym) 0).1,0,(jF cont ws ((kJ.eD lim op s.data.toList []).1.map Pr.ym) 0).2.2)
theorem Ed (cont:List ByteArray->ByteArray->Bool):∀(l ws:List ByteArray) (i:Nat),(jF cont ws l i).1<=i+l.length/\(jF cont ws l i).2.2.length<=ws.length+l.length
 |[],ws,i=>by simp[jF]
 |x::r,ws,i=>by
  rw[jF]
  split
  ·have:=Ed cont r (ws++[x]) (i+1)
   simp at this ⊢
   omega
  ·simp
theorem IJ {w:World} {B:Nat} {v:Value} {L:List (List UInt8)} (Y:List ByteArray) (hY:Y=L.map Pr.ym) (ho:w.ownsRow B kJ.TX 1 v L.length (kJ.strs L)):
  ∃A c,v= .slice A Y.length c/\Kd.C Kd.string w A Y.length Y/\∀ad,A=some ad->B<=ad.block:=by
 subst hY
 have hb:∀A c,v= .slice A L.length c->∀ad,A=some ad->B<=ad.block:=by
  intro A c hv ad had
  rcases ho.2 with⟨e,_⟩|⟨g,cp,cur,e,hg,_⟩
  ·rw[hv,had] at e;cases e
  ·rw[hv,had] at e;cases e;exact hg
 rw[Pr.Wx,<-List.length_map (f:=Pr.ym)] at ho
 have hR:Kd.R Kd.string 9 w B (fun _=>True) v (L.map Pr.ym):=Kd.Dx ho (fun _ _=>trivial)
 obtain⟨A,c,rfl,_,hC⟩:=Kd.lZ hR
 exact⟨A,c,rfl,hC,hb A c (by rw[List.length_map])⟩
theorem Vr (lim:Int) (xs op:List UInt8):(kJ.eD lim op xs []).1.length<=xs.length/\(kJ.eD lim op xs []).2.2.length<=op.length+xs.length:=by
 have:=Pr.za lim xs op []
 simpa using this
set_option maxHeartbeats 4000000 in
set_option maxRecDepth 100000 in
theorem each_c {T:TypeId} {p:Value} {V:Value} {cont:List ByteArray->ByteArray->Bool} (R:SRC T p) (H:HD V cont) (r:List ByteArray) (err:Int) (lim:Int) (ws:List ByteArray) (MS M0:Nat->Prop) (w:World)
  (hs:R.St r err MS w) (hh:H.St ws M0 w) (hd:∀k,MS k->¬M0 k) (h1:1<=lim) (h2:lim<=65536) (hbig:ws.length+2*(Pure.fZ r).length<=100000):
  Calls Tryz.prog 53 #[.iface T p,.int .i64 lim,V] w fun e w'=>e= .returned (.tuple #[.int .i64 (rf lim cont err [] ws 0 r).1,.int .i64 (rf lim cont err [] ws 0 r).2.1])/\
   ∃M',H.St (rf lim cont err [] ws 0 r).2.2 M' w'/\Fr (fun k=>MS k\/M0 k) w w'/\∀k,M' k->M0 k\/w.heap.size<=k:=by
 have HS:=Lib.hid hs
 have HH:=Lib.hid hh
 have his:=R.is
 have hme:=R.meth
 have hen:=R.enter
 have yE:max lim 1=lim:=by omega
 have HML:=Lib.hid yE
 have HAT:=Lib.hid (kJ.At.fresh w w.heap.size (Nat.le_refl _) (max lim 1))
 clear hs hh yE
 go_enter Tryz.func53,Tryz.ntmps53
 go_wp2_with fail
 refine(kJ.TV lim _).mono ?_
 rintro e w1 ⟨rfl,rfl⟩
 go_wp2_with fail
 rw[HML.out] at HAT ⊢
 have HFR:=Lib.hid (show Fr (fun k=>MS k\/M0 k) w (w.alloc (.cells #[.int .i64 lim,.slice none 0 0,.bool false] kJ.TS)) from(Fr.refl _ w).alloc _)
 have Du:=Lib.hid (R.keep HS.out ((Fr.refl (fun _=>False) w).alloc (.cells #[.int .i64 lim,.slice none 0 0,.bool false] kJ.TS)) (fun _ _ h=>h))
 have HH1:=Lib.hid (H.keep HH.out ((Fr.refl (fun _=>False) w).alloc (.cells #[.int .i64 lim,.slice none 0 0,.bool false] kJ.TS)) (fun _ _ h=>h))
 have Si:=Lib.hid (R.lt HS.out)
 have HHL:=Lib.hid (H.lt HH.out)
 clear HS HH HML
 go_loopg [11] r.length (fun kq v11 wr=>∃(r':List ByteArray) (op:List UInt8) (ws':List ByteArray) (many:Nat) (ob:Option Nat) (M:Nat->Prop),kq=r'.length/\v11= .int .i64 many/\R.St r' err MS wr/\kJ.At w.heap.size w.heap.size ob lim op false wr/\H.St ws' M wr/\
  Fr (fun k=>MS k\/M0 k) w wr/\(∀k,M k->M0 k\/w.heap.size<=k)/\(∀k,M k->k≠w.heap.size/\ob≠some k)/\rf lim cont err op ws' many r'=rf lim cont err [] ws 0 r/\ws'.length+op.length+2*(Pure.fZ r').length<=100000/\many+(Pure.fZ r').length<=100000)
 case atStart=>exact⟨r,[],ws,0,none,M0,rfl,rfl,Du.out,HAT.out,HH1.out,HFR.out,fun k hk=> .inl hk,fun k hk=>⟨fun e=>by have:=HHL.out k hk;omega,by simp⟩,rfl,by simp;omega,by omega⟩
 case round=>
  obtain⟨r',op,ws',many,ob,M,hkq,rfl,hs,hat,hh,hfr,hm1,hm2,heq,hb1,hb2⟩:=hrel
  have HS:=Lib.hid hs
  have Lt:=Lib.hid hat
  have HH:=Lib.hid hh
  have HF:=Lib.hid hfr
  have uG:=Lib.hid hm1
  have WH:=Lib.hid hm2
  have HEQ:=Lib.hid heq
  have HKQ:=Lib.hid hkq
  have HB1:=Lib.hid hb1
  have HB2:=Lib.hid hb2
  clear hs hat hh hfr hm1 hm2 heq hkq hb1 hb2 HAT HFR Du HH1
  cases r' with
  |nil=>
   have HL:=Lib.hid (R.last err MS wr HS.out)
   go_wp2_with fail
   refine HL.out.mono ?_
   rintro e w2 ⟨rfl,hs2,hf2⟩
   have IX:=Lib.hid (HF.out.trans hf2 (fun k hk=> .inl (.inl hk)))
   have hdm:∀k,M k->¬MS k:=fun k hk h=>(uG.out k hk).elim (fun h0=>hd k h h0) (fun h0=>by have:=Si.out k h;omega)
   have HH2:=Lib.hid (H.keep HH.out hf2 hdm)
   have kL:=Lt.out.fr hf2 (fun h=>by have:=Si.out _ h;omega) (fun g hg h=>by have:=(Lt.out.row hg).1;have:=Si.out _ h;omega)
   have Ph:=Lib.hid kL
   clear hs2 hf2 kL HL
   by_cases he:err=0
   ·subst he
    have hfc:=kJ.Yx w.heap.size w.heap.size ob lim op none 0 [] w2 Ph.out (fun h=>absurd h (by simp)) IX.out.size (by have:=HB1.out;simp;omega)
    rw[show kJ.eD lim op [] []=([],true,op) from rfl] at hfc
    have HFC:=Lib.hid hfc
    clear hfc
    go_wp2_with fail
    refine HFC.out.mono ?_
    rintro e w3 ⟨v3,ob3,rfl,_,PX,Zc,hf3⟩
    have Xg:=Lib.hid (IX.out.trans hf3 (fun k hk=> .inr (hk.elim (fun e=>by omega) (fun e=>(Ph.out.row e).1))))
    have HH3:=Lib.hid (H.keep HH2.out hf3 (fun k hk h=>h.elim (fun e=>(WH.out k hk).1 e) (fun e=>(WH.out k hk).2 e)))
    have Lx:=Lib.hid (show∀k,M k->k≠w.heap.size/\ob3≠some k from fun k hk=>⟨(WH.out k hk).1,fun e=>by
     rcases Zc with h|h|⟨g,h,hg⟩
     ·rw[h] at e;cases e
     ·rw[h] at e;exact(WH.out k hk).2 e
     ·rw[h] at e;injection e with e;have:=H.lt HH2.out k hk;omega⟩)
    have Pj:=Lib.hid PX
    clear PX Zc hf3 HFC Ph Lt WH
    go_wp2_with fail
    refine(kJ.end_c _ _ _ _ _ _ _ Pj.out Xg.out.size (by have:=HB1.out;omega)).mono ?_
    rintro e w4 ⟨v4,rfl,hown4,hat4,JF⟩
    obtain⟨Y,hY⟩:∃Y,Y=(kJ.rq op).map Pr.ym:=⟨_,rfl⟩
    obtain⟨A4,c4,rfl,YI,hA4⟩:=IJ Y hY hown4
    have hYl:Y.length<=1:=by rw[hY,List.length_map];unfold kJ.rq;split<;>simp
    have HF4:=Lib.hid (Xg.out.trans JF (fun k hk=> .inr (by rw[hk];exact Nat.le_refl _)))
    have hh4:=H.keep HH3.out JF (fun k hk h=>(Lx.out k hk).1 h)
    have hhd:=H.hand A4 c4 Y ws' M w4 YI hh4 (fun ad had hk=>by have:=hA4 ad had;have:=H.lt HH3.out _ hk;omega) (by have:=HB1.out;omega)
    have hq:=HEQ.out
    rw[rf,if_pos rfl,<-hY] at hq
    have hl4:=Ed cont Y ws' 0
    have HSZ:=Lib.hid HF4.out.size
    generalize jF cont ws' Y 0=q at hhd hq hl4
    obtain⟨n,on,OJ⟩:=q
    have HHD:=Lib.hid hhd
    have HQ:=Lib.hid hq
    have HL4:=Lib.hid hl4
    have hn1:n<=1:=by have:=hl4.1;omega
    have hb2:=HB2.out
    clear hown4 hat4 JF YI hA4 hh4 hhd hq hl4 hY Pj
    go_wp2_with fail
    refine HHD.out.mono ?_
    rintro e w5 ⟨rfl,M5,hs5,Co,WO⟩
    have HS5:=Lib.hid hs5
    have Lu:=Lib.hid (HF4.out.trans Co (fun k hk=>(uG.out k hk).elim (fun h=> .inl (.inr h)) (fun h=> .inr h)))
    have HM5:=Lib.hid (show∀k,M5 k->M0 k\/w.heap.size<=k from fun k hk=>(WO k hk).elim (fun h=>uG.out k h) (fun h=> .inr (Nat.le_trans HSZ.out h)))
    clear hs5 Co WO HHD
    go_wp2_with fail
    all_goals go_ret2
    all_goals rw[<-HQ.out]
    all_goals exact⟨by simp,M5,HS5.out,Lu.out,HM5.out⟩
   ·go_wp2_with fail
    go_ret2
    have hx:=HEQ.out
    rw[rf,if_neg he] at hx
    rw[<-hx]
    exact⟨rfl,M,HH2.out,IX.out,uG.out⟩
  |cons s r'=>
   have hwl:(Pure.fZ (s::r')).length=s.size+(Pure.fZ r').length:=by
    have:s.data.toList.length=s.size:=by simp
    simp only[Pure.fZ,List.flatMap_cons,List.length_append]
    omega
   have hb1:=HB1.out
   have hb2:=HB2.out
   rw[hwl] at hb1 hb2
   have HL:=Lib.hid (R.more s r' err MS wr HS.out)
   clear HB1 HB2
   go_wp2_with fail
   refine HL.out.mono ?_
   rintro e w2 ⟨g,cp,rfl,hby,hg1,hg2,hs2,hf2⟩
   have IX:=Lib.hid (HF.out.trans hf2 (fun k hk=> .inl (.inl hk)))
   have hdm:∀k,M k->¬MS k:=fun k hk h=>(uG.out k hk).elim (fun h0=>hd k h h0) (fun h0=>by have:=Si.out k h;omega)
   have HH2:=Lib.hid (H.keep HH.out hf2 hdm)
   have kL:=Lt.out.fr hf2 (fun h=>by have:=Si.out _ h;omega) (fun g hg h=>by have:=(Lt.out.row hg).1;have:=Si.out _ h;omega)
   have Ph:=Lib.hid kL
   have HS2:=Lib.hid hs2
   have hsl:s.data.toList.length=s.size:=by simp
   have hpc:kJ.Piece w2 w.heap.size ob (some ⟨g,0,none⟩) s.data.toList:=by
    intro _
    refine⟨g,0,rfl,by have:=Lt.out.lt;omega,fun e=>by have:=(Lt.out.row e).2.1;omega,fun j hj=>?_⟩
    rw[hsl] at hj
    rw[hby j hj]
    simp[List.getD,hj]
    rfl
   have hfc:=kJ.Yx w.heap.size w.heap.size ob lim op (some ⟨g,0,none⟩) cp s.data.toList w2 Ph.out hpc IX.out.size (by rw[hsl];omega)
   have hfl:=Vr lim s.data.toList op
   have hq:=HEQ.out
   rw[rf] at hq
   rw[hsl] at hfc hfl
   generalize kJ.eD lim op s.data.toList []=G at hfc hq hfl
   obtain⟨L,ok,op2⟩:=G
   obtain⟨Y,hY⟩:∃Y,Y=L.map Pr.ym:=⟨_,rfl⟩
   have hYl:Y.length=L.length:=by rw[hY,List.length_map]
   simp only[<-hY] at hq
   have hl4:=Ed cont Y ws' 0
   have HFC:=Lib.hid hfc
   have HW2:=Lib.hid hg2
   clear hs2 hf2 kL hpc hfc hby hg1 hg2 HL HEQ
   have HQ:=Lib.hid hq
   clear hq
   go_wp2_with fail
   refine HFC.out.mono ?_
   rintro e w3 ⟨v3,ob3,rfl,hown3,PX,Zc,hf3⟩
   obtain⟨A3,c3,rfl,hC3,hA3⟩:=IJ Y hY hown3
   have Xg:=Lib.hid (IX.out.trans hf3 (fun k hk=> .inr (hk.elim (fun e=>by omega) (fun e=>(Ph.out.row e).1))))
   have hh3:=H.keep HH2.out hf3 (fun k hk h=>h.elim (fun e=>(WH.out k hk).1 e) (fun e=>(WH.out k hk).2 e))
   have Lx:=Lib.hid (show∀k,M k->k≠w.heap.size/\ob3≠some k from fun k hk=>⟨(WH.out k hk).1,fun e=>by
     rcases Zc with h|h|⟨g,h,hg⟩
     ·rw[h] at e;cases e
     ·rw[h] at e;exact(WH.out k hk).2 e
     ·rw[h] at e;injection e with e;have:=H.lt HH2.out k hk;omega⟩)
   have hss:R.St r' err MS w3:=R.keep HS2.out hf3 (fun k hk h=>h.elim (fun e=>by have:=Si.out k hk;omega) (fun e=>by have:=(Ph.out.row e).1;have:=Si.out k hk;omega))
   have HS3:=Lib.hid hss
   have Pj:=Lib.hid PX
   have hhd:=H.hand A3 c3 Y ws' M w3 hC3 hh3 (fun ad had hk=>by have:=hA3 ad had;have:=H.lt HH2.out _ hk;omega) (by omega)
   have HML3:=Lib.hid (H.lt hh3)
   generalize jF cont ws' Y 0=q at hhd HQ hl4
   obtain⟨n,on,OJ⟩:=q
   have HHD:=Lib.hid hhd
   have h41:n<=0+Y.length:=hl4.1
   have h42:OJ.length<=ws'.length+Y.length:=hl4.2
   have h43:L.length<=s.size:=hfl.1
   have h44:op2.length<=op.length+s.size:=hfl.2
   have hn1:n<=L.length:=by omega
   have hn2:OJ.length<=ws'.length+L.length:=by omega
   have HN:=Lib.hid hl4
   have HY:=Lib.hid hYl
   have HSZ:=Lib.hid Xg.out.size
   clear h41 h42 hfl hown3 PX hf3 hC3 hA3 hh3 hhd hl4 hY Zc hss Lt WH HFC IX HF hYl
   cases on with
   |false=>
    go_wp2_with fail
    refine HHD.out.mono ?_
    rintro e w5 ⟨rfl,M5,hs5,Co,WO⟩
    have HS5:=Lib.hid hs5
    have Lu:=Lib.hid (Xg.out.trans Co (fun k hk=>(uG.out k hk).elim (fun h=> .inl (.inr h)) (fun h=> .inr h)))
    have HM5:=Lib.hid (show∀k,M5 k->M0 k\/w.heap.size<=k from fun k hk=>(WO k hk).elim (fun h=>uG.out k h) (fun h=> .inr (Nat.le_trans HSZ.out h)))
    have hx:=HQ.out
    simp only[Bool.false_eq_true,if_false] at hx
    have HX:=Lib.hid hx
    clear hs5 Co WO HHD hx HQ
    go_wp2_with fail
    go_ret2
    rw[<-HX.out]
    exact⟨by simp,M5,HS5.out,Lu.out,HM5.out⟩
   |true=>
    cases ok with
    |false=>
     go_wp2_with fail
     refine HHD.out.mono ?_
     rintro e w5 ⟨rfl,M5,hs5,Co,WO⟩
     have HS5:=Lib.hid hs5
     have Lu:=Lib.hid (Xg.out.trans Co (fun k hk=>(uG.out k hk).elim (fun h=> .inl (.inr h)) (fun h=> .inr h)))
     have HM5:=Lib.hid (show∀k,M5 k->M0 k\/w.heap.size<=k from fun k hk=>(WO k hk).elim (fun h=>uG.out k h) (fun h=> .inr (Nat.le_trans HSZ.out h)))
     have hx:=HQ.out
     simp only[if_true,Bool.false_eq_true,if_false] at hx
     have HX:=Lib.hid hx
     clear hs5 Co WO HHD hx HQ
     go_wp2_with fail
     go_ret2
     rw[<-HX.out]
     exact⟨by simp,M5,HS5.out,Lu.out,HM5.out⟩
    |true=>
     go_wp2_with fail
     refine HHD.out.mono ?_
     rintro e w5 ⟨rfl,M5,hs5,Co,WO⟩
     have HS5:=Lib.hid hs5
     have Lu:=Lib.hid (Xg.out.trans Co (fun k hk=>(uG.out k hk).elim (fun h=> .inl (.inr h)) (fun h=> .inr h)))
     have HM5:=Lib.hid (show∀k,M5 k->M0 k\/w.heap.size<=k from fun k hk=>(WO k hk).elim (fun h=>uG.out k h) (fun h=> .inr (Nat.le_trans HSZ.out h)))
     have HM6:=Lib.hid (show∀k,M5 k->k≠w.heap.size/\ob3≠some k from fun k hk=>(WO k hk).elim (fun h=>Lx.out k h) (fun h=>⟨by have:=Pj.out.lt;omega,fun e=>by have:=(Pj.out.row e).2.1;omega⟩))
     have HSS:=Lib.hid (R.keep HS3.out Co (fun k hk h=>(uG.out k h).elim (fun h0=>hd k hk h0) (fun h0=>by have:=Si.out k hk;omega)))
     have HAT5:=Lib.hid (Pj.out.fr Co (fun h=>(Lx.out _ h).1 rfl) (fun g2 hg2 h=>(Lx.out _ h).2 hg2))
     have hx:=HQ.out
     simp only[if_true] at hx
     have HX:=Lib.hid hx
     clear hs5 Co WO HHD hx HQ HS3 Pj Lx
     go_wp2_with fail
     go_roundg r'.length
     case rel=>exact⟨r',op2,OJ,many+n,ob3,M5,rfl,by go_num,HSS.out,HAT5.out,HS5.out,Lu.out,HM5.out,HM6.out,HX.out,by omega,by omega⟩
     case measure=>
      have:=HKQ.out
      simp only[List.length_cons] at this
      omega
end Go.Proofs.YtilpincgjlclpaaGreat.Aj
namespace Go.Proofs.YtilpincgjlclpaaGreat.Aj
open Go.RowKit Bs Go.Proofs.ae.au
abbrev TX:Nat:=9
abbrev TR:Nat:=54
theorem ME {f:FuncId} {fn:Func} {c:Code} (hf:Tryz.prog.funcs[f]?=some fn) (hname:(fn.name== "runtime.NumGoroutine")=false) (hb:fn.body=some c) (args:Array Value) (w:World):(callFunc f args).run Tryz.prog w= .ok (.enter f args) w:=by
 have h1:fn.name≠ "runtime.NumGoroutine" :=by simpa using hname
 simp[callFunc,hf,h1,hb]
def App (bc:Nat) (ws:List ByteArray) (M:Nat->Prop) (w:World):Prop:=
 ∃v,w.heap[bc]?=some (.cells #[v] TR (0,0))/\w.ownsRow 0 TX 1 v ws.length (ws.map Value.string)/\∀k,M k↔(k=bc\/v.ownBlock=some k)
theorem App.keep {bc:Nat} {ws:List ByteArray} {M:Nat->Prop} {W W':World} {S:Nat->Prop} (h:App bc ws M W) (hf:Fr S W W') (hS:∀k,M k->¬S k):App bc ws M W':=by
 obtain⟨v,hb,ho,hM⟩:=h
 exact⟨v,hf.heap hb (hS _ ((hM _).2 (.inl rfl))),hf.own ho (fun g hg=>hS _ ((hM _).2 (.inr hg))),hM⟩
theorem App.lt {bc:Nat} {ws:List ByteArray} {M:Nat->Prop} {W:World} (h:App bc ws M W) (k:Nat) (hk:M k):k<W.heap.size:=by
 obtain⟨v,hb,ho,hM⟩:=h
 rcases(hM k).1 hk with rfl|h
 ·exact Bs.bA hb
 ·exact(eG ho h).2
theorem App.fresh (w:World):App w.heap.size [] (fun k=>k=w.heap.size) (w.alloc (.cells #[.slice none 0 0] TR)):=
 ⟨_,bG w _,⟨rfl,.inl ⟨rfl,rfl⟩⟩,fun k=>⟨.inl,fun h=>h.elim id (fun h=>by cases h)⟩⟩
set_option maxHeartbeats 1000000 in
set_option maxRecDepth 100000 in
theorem XQ (bc:Nat) (ws:List ByteArray) (M:Nat->Prop) (w:World) (x:ByteArray) (h:App bc ws M w) (hl:ws.length<=1000000):
  Calls Tryz.prog 54 #[.string x,.pointer (some ⟨bc,0,none⟩)] w fun e w'=>e= .returned (.bool true)/\∃M',App bc (ws++[x]) M' w'/\Fr M w w'/\∀k,M' k->M k\/w.heap.size<=k:=by
 obtain⟨v,hb,ho,hM⟩:=h
 obtain⟨i1,hx1,hx0,hxs,hxb⟩:=info_parts kJ.infoX
 have hne:=Bs.own_ne ho hb (show TR≠TX by decide)
 obtain⟨A,c,rfl⟩:=Bs.bU ho
 have c0:w.cell? ⟨bc,0,none⟩=some (.slice A ws.length c):=by rw[aj hb];rfl
 have HO:=Lib.hid (ho.alloc (.cells #[.string x] TX))
 have HB:=Lib.hid hb
 have HM:=Lib.hid hM
 have UU:=Lib.hid hne
 clear ho hb hM hne
 go_enter Tryz.func54,Tryz.ntmps54
 go_wp2_with (at_builtin;refine wpList_append_own_at _ rfl _ _ 54 rfl 0 TX i1 (.string ByteArray.empty) 1 16 Tryz.underlying54 hx1 hx0 hxs hxb rfl (by decide) _ _ _ rfl HO.out ⟨w.heap.size,0,none⟩ 1 1 [.string x] rfl rfl ?c1 ?c2 ?c3 ?c4 ?c5 ?_)
 case c1=>
  intro j u hj
  match j,hj with
  |0,hj=>simp at hj;subst hj;simp[Addr.add]
 case c2=>intro u hu;simp at hu;subst hu;rfl
 case c3=>unfold maxLen;omega
 case c4=>omega
 case c5=>exact Nat.zero_le _
 intro v' w2 hown' hgrow _ hat
 have hb2:w2.heap[bc]?=some (.cells #[.slice A ws.length c] TR (0,0)):=by
  rw[hgrow.block bc (by have:=Bs.bA HB.out;simp;omega) (fun e=>UU.out e.symm)]
  exact dw HB.out _
 have d1:w2.cell? ⟨bc,0,none⟩=some (.slice A ws.length c):=by rw[aj hb2];rfl
 have f1:w2.frozen? ⟨bc,0,none⟩=false:=aX hb2 0
 have hf2:Fr M w (w2.setCell ⟨bc,0,none⟩ v'):=
  ((((Fr.refl _ w).alloc _).grown hgrow (fun k hk=> .inl ((HM.out k).2 (.inr hk)))).set (.inl ((HM.out bc).2 (.inl rfl))) _)
 have kL:App bc (ws++[x]) (fun k=>k=bc\/v'.ownBlock=some k) (w2.setCell ⟨bc,0,none⟩ v'):=by
  refine⟨v',heap_set hb2 0 v',?_,fun k=>Iff.rfl⟩
  have hne2:=Bs.own_ne hown' hb2 (show TR≠TX by decide)
  have:=((Fr.refl (fun k=>k=bc) w2).set (p:=⟨bc,0,none⟩) (.inl rfl) v').own hown' (fun g hg e=>hne2 (by rw[hg,e]))
  simpa using this
 have hmv:∀k,(k=bc\/v'.ownBlock=some k)->M k\/w.heap.size<=k:=by
  intro k hk
  rcases hk with hk|hk
  ·exact .inl ((HM.out k).2 (.inl hk))
  ·rcases hat with h|h
   ·exact .inl ((HM.out k).2 (.inr (by rw[<-h];exact hk)))
   ·rw[h] at hk
    injection hk with hk
    exact .inr (by rw[<-hk];simp)
 have HF:=Lib.hid hf2
 have HA:=Lib.hid kL
 have HV:=Lib.hid hmv
 obtain⟨A',c',rfl⟩:=Bs.bU hown'
 clear hf2 kL hat hmv hown' hgrow
 go_wp2
 go_ret
 exact⟨rfl,_,HA.out,HF.out,HV.out⟩
def cb_read (bc:Nat):CB 54 #[.pointer (some ⟨bc,0,none⟩)] (fun _ _=>true) where
 St:=App bc
 keep:=App.keep
 lt:=App.lt
 enter:=fun args W=>ME Tryz.func54 (by rfl) (by rfl) args W
 call:=fun ws M W x h hl=>XQ bc ws M W x h hl
def scrS (B b:Nat) (ob:Option Nat) (l:List ByteArray) (fail:Int) (hl:l.length<=1000000):SRC Src.PC (.pointer (some ⟨b,0,none⟩)) where
 fn:=255
 is:=fun xT w=>Src.isScr _ xT w
 meth:=fun w=>Src.mNextS _ w _ rfl
 enter:=fun args W=>ME Tryz.func255 (by rfl) (by rfl) args W
 St:=fun r e M W=>∃i,i<=l.length/\Src.told fail i (l.drop i)=(r,e)/\Src.Dy B b ob l i fail W/\∀k,M k↔(k=b\/ob=some k)
 keep:=by
  rintro r e M W W' S ⟨i,hi,ht,hs,hM⟩ hf hS
  exact⟨i,hi,ht,hs.fr hf (hS _ ((hM _).2 (.inl rfl))) (fun g hg=>hS _ ((hM _).2 (.inr hg))),hM⟩
 lt:=by
  rintro r e M W ⟨i,hi,ht,hs,hM⟩ k hk
  rcases(hM k).1 hk with rfl|h
  ·exact hs.lt
  ·exact(hs.row h).2.1
 more:=by
  rintro s r e M W ⟨i,hi,ht,hs,hM⟩
  have htl:=Src.FE (fail:=fail) hi
  have hnc:=Src.ZH B b ob l i fail W hs hi hl
  generalize Src.uC fail i (l.drop i)=q at htl hnc
  obtain⟨o,e1,j⟩:=q
  refine hnc.mono ?_
  rintro x W' ⟨w0,hw0,hh,hs1,hf1⟩
  cases o with
  |none=>
   obtain⟨_,_,h3,_⟩:=htl
   rw[ht] at h3
   injection h3 with h3 _
   cases h3
  |some t=>
   obtain⟨rfl,h1,h2,h3,h4⟩:=htl
   rw[Src.GX (by omega),ht] at h3
   injection h3 with h3 h5
   injection h3 with h3 h6
   subst h3
   have hln:(l.drop i).length=l.length-i:=List.length_drop
   obtain⟨cp,rfl,hby,cs,hcs,_⟩:=hh.some
   have:=Bs.bA hcs
   exact⟨w0.heap.size,cp,rfl,hby,by omega,this,⟨j,by omega,Prod.ext h6.symm h5.symm,hs1,hM⟩,hf1.mono (fun k hk=>(hM k).2 (.inl hk))⟩
 last:=by
  rintro e M W ⟨i,hi,ht,hs,hM⟩
  have htl:=Src.FE (fail:=fail) hi
  have hnc:=Src.ZH B b ob l i fail W hs hi hl
  generalize Src.uC fail i (l.drop i)=q at htl hnc
  obtain⟨o,e1,j⟩:=q
  refine hnc.mono ?_
  rintro x W' ⟨w0,hw0,hh,hs1,hf1⟩
  cases o with
  |some t=>
   obtain⟨_,_,_,h3,_⟩:=htl
   rw[ht] at h3
   injection h3 with h3 _
   cases h3
  |none=>
   obtain⟨h1,h2,h3,h4⟩:=htl
   rw[ht] at h3
   injection h3 with _ h3
   subst h3
   rw[Src.GX h1] at h4
   have hln:(l.drop i).length=l.length-i:=List.length_drop
   exact⟨hh,⟨j,by omega,h4,hs1,hM⟩,hf1.mono (fun k hk=>(hM k).2 (.inl hk))⟩
end Go.Proofs.YtilpincgjlclpaaGreat.Aj
namespace Go.Proofs.YtilpincgjlclpaaGreat.Aj
open Go.RowKit Go.Proofs.ae.au
theorem MB (lim err:Int):∀(r:List ByteArray) (op:List UInt8) (ws:List ByteArray) (many:Nat),
  rf lim (fun _ _=>true) err op ws many r=if(kJ.eD lim op (Pure.fZ r) []).2.1=true then
   (if err=0 then(many+(kJ.eD lim op (Pure.fZ r) []).1.length+(kJ.rq (kJ.eD lim op (Pure.fZ r) []).2.2).length,0,ws++((kJ.eD lim op (Pure.fZ r) []).1++kJ.rq (kJ.eD lim op (Pure.fZ r) []).2.2).map Pr.ym)
   else(many+(kJ.eD lim op (Pure.fZ r) []).1.length,err,ws++(kJ.eD lim op (Pure.fZ r) []).1.map Pr.ym))
  else(many+(kJ.eD lim op (Pure.fZ r) []).1.length,4,ws++(kJ.eD lim op (Pure.fZ r) []).1.map Pr.ym)
 |[],op,ws,many=>by
  rw[show Pure.fZ []=[] from rfl,show kJ.eD lim op [] []=([],true,op) from rfl,rf,Ec]
  simp
 |s::r,op,ws,many=>by
  have hw:Pure.fZ (s::r)=s.data.toList++Pure.fZ r:=by simp[Pure.fZ]
  rw[rf,Ec,if_pos rfl,hw,kJ.yZ]
  by_cases hok:(kJ.eD lim op s.data.toList []).2.1=true
  ·rw[if_pos hok,if_pos hok,MB lim err r]
   have hp:=kJ.zb lim (kJ.eD lim op s.data.toList []).1 (Pure.fZ r) (kJ.eD lim op s.data.toList []).2.2 []
   rw[List.append_nil] at hp
   rw[hp]
   generalize kJ.eD lim (kJ.eD lim op s.data.toList []).2.2 (Pure.fZ r) []=G
   obtain⟨L,ok,op2⟩:=G
   simp only[List.length_append,List.length_map,List.map_append,List.append_assoc,Nat.add_assoc,Nat.zero_add]
  ·rw[if_neg hok,if_neg hok,if_neg hok,List.length_map,Nat.zero_add]
end Go.Proofs.YtilpincgjlclpaaGreat.Aj
namespace Go.Proofs.YtilpincgjlclpaaGreat.Aj
open Go.RowKit Bs Go.Proofs.ae.au
set_option maxHeartbeats 1000000 in
set_option maxRecDepth 100000 in
theorem Yo (x V:Value) (lim:Int) (w:World) (h:lim<1\/65536<lim):Calls Tryz.prog 53 #[x,.int .i64 lim,V] w fun e w'=>e= .returned (.tuple #[.int .i64 0,.int .i64 2])/\w'=w:=by
 go_enter Tryz.func53,Tryz.ntmps53
 rcases h with h|h
 ·go_wp2_with fail
  go_ret2
  exact⟨rfl,rfl⟩
 ·have h2:¬lim<1:=by omega
  go_wp2_with fail
  go_ret2
  exact⟨rfl,rfl⟩
set_option maxHeartbeats 1000000 in
set_option maxRecDepth 100000 in
theorem aag (x:Value) (lim:Int) (w:World) (h:lim<1\/65536<lim):Calls Tryz.prog 18 #[x,.int .i64 lim] w fun e w'=>e= .returned (.tuple #[.slice none 0 0,.int .i64 2])/\Fr (fun _=>False) w w':=by
 have hmf:∀(fn:Fn) (first cap:Array Value) (w:World),(Instr.makeFunc fn first cap).run Tryz.prog w= .ok (.func fn first cap) w:=fun _ _ _ _=>rfl
 have HH:=Lib.hid h
 clear h
 go_enter Tryz.func18,Tryz.ntmps18
 go_wp2_with fail
 refine(Yo _ _ _ _ HH.out).mono ?_
 rintro e w1 ⟨rfl,rfl⟩
 go_wp2_with fail
 go_ret2
 exact⟨rfl,(Fr.refl _ _).alloc _⟩
set_option maxHeartbeats 2000000 in
set_option maxRecDepth 100000 in
theorem read_c {T:TypeId} {p:Value} (R:SRC T p) (r:List ByteArray) (err:Int) (lim:Int) (MS:Nat->Prop) (w:World) (n:Nat) (E:Int) (Y:List ByteArray)
  (hs:R.St r err MS w) (h1:1<=lim) (h2:lim<=65536) (hbig:2*(Pure.fZ r).length<=100000) (hq:rf lim (fun _ _=>true) err [] [] 0 r=(n,E,Y)):
  Calls Tryz.prog 18 #[.iface T p,.int .i64 lim] w fun e w'=>Fr MS w w'/\
   ((E≠0/\e= .returned (.tuple #[.slice none 0 0,.int .i64 E]))\/(E=0/\∃v,e= .returned (.tuple #[v,.int .i64 0])/\w'.ownsRow 0 TX 1 v Y.length (Y.map Value.string))):=by
 have hmf:∀(fn:Fn) (first cap:Array Value) (w:World),(Instr.makeFunc fn first cap).run Tryz.prog w= .ok (.func fn first cap) w:=fun _ _ _ _=>rfl
 have hs1:=R.keep hs ((Fr.refl (fun _=>False) w).alloc (.cells #[.slice none 0 0] TR)) (fun _ _ h=>h)
 have hec:=each_c R (HD.ofCB (cb_read w.heap.size)) r err lim [] MS (fun k=>k=w.heap.size) _ hs1 (App.fresh w) (fun k hk e=>by have:=R.lt hs k hk;omega) h1 h2 (by simpa using hbig)
 rw[hq] at hec
 have HE:=Lib.hid hec
 clear hs hs1 hec hq hbig
 go_enter Tryz.func18,Tryz.ntmps18
 go_wp2_with fail
 refine HE.out.mono ?_
 rintro e w2 ⟨rfl,M',hst,hf,hm⟩
 obtain⟨v,hb,ho,hM⟩:=hst
 have hf2:Fr MS w w2:=((Fr.refl MS w).alloc _).trans hf (fun k hk=>hk.elim .inl (fun e=> .inr (by rw[e];exact Nat.le_refl _)))
 have HF:=Lib.hid hf2
 have HO:=Lib.hid ho
 have c0:w2.cell? ⟨w.heap.size,0,none⟩=some v:=by rw[aj hb];rfl
 clear hf hm hb ho hM hf2 HE
 by_cases h0:E=0
 ·subst h0
  go_wp2_with fail
  go_ret2
  exact⟨HF.out,v,rfl,HO.out⟩
 ·go_wp2_with fail
  go_ret2
  refine⟨HF.out,?_⟩
  first|exact Or.inl ⟨h0,rfl⟩|exact⟨h0,rfl⟩|exact rfl
end Go.Proofs.YtilpincgjlclpaaGreat.Aj
namespace Go.Proofs.YtilpincgjlclpaaGreat.Pr
open Go.RowKit Bs Go.Proofs.ae.au Go.Proofs.ae.aZ Go.Proofs.ae.bE
theorem Il {w:World} {B:Nat} {v:Value} {Y:List ByteArray} (h:w.ownsRow B Aj.TX 1 v Y.length (Y.map Value.string)):∃A c,v= .slice A Y.length c/\Y.length<=c/\Kd.C Kd.string w A Y.length Y:=by
 have hR:Kd.R Kd.string 9 w B (fun _=>True) v Y:=Kd.Dx h (fun _ _=>trivial)
 exact Kd.lZ hR
end Go.Proofs.YtilpincgjlclpaaGreat.Pr
namespace Go.Proofs.YtilpincgjlclpaaGreat.Aj
open Go.RowKit Bs Go.Proofs.ae.au
theorem wK (lim:Int):∀(xs op:List UInt8) (out:List (List UInt8)),(kJ.eD lim op xs out).2.1=true->(kJ.eD lim op xs out).1++kJ.rq (kJ.eD lim op xs out).2.2=out++Pure.jX op xs
 |[],op,out,_=>rfl
 |c::l,op,out,h=>by
  rw[kJ.eD] at h ⊢
  rw[Pure.jX]
  by_cases hg:kJ.gap c=true
  ·rw[if_pos hg] at h ⊢
   rw[if_pos hg]
   by_cases he:op=[]
   ·rw[if_pos he] at h ⊢
    rw[if_pos he]
    exact wK lim l [] out h
   ·rw[if_neg he] at h ⊢
    rw[if_neg he,wK lim l [] (out++[op]) h,List.append_assoc]
    rfl
  ·rw[if_neg hg] at h ⊢
   rw[if_neg hg]
   split at h
   ·rename_i hl
    rw[if_pos hl]
    exact wK lim l (op++[c]) out h
   ·cases h
def RD (lim:Int) (S:List UInt8) (err:Int):Int×List ByteArray:=
 if lim<1\/65536<lim then(2,[]) else
 if(kJ.eD lim [] S []).2.1=true then(if err=0 then(0,(Pure.jX [] S).map Pr.ym) else(err,[])) else(4,[])
theorem Bg (w:World):Kd.C Kd.string w none 0 []:=by
 obtain⟨A,c,he,_,hC⟩:=Kd.lZ (Kd.jM Kd.string 9 w 0 (fun _=>True))
 cases he
 exact hC
theorem NQ {T:TypeId} {p:Value} (R:SRC T p) (r:List ByteArray) (err:Int) (lim:Int) (MS:Nat->Prop) (w:World) (E:Int) (Y:List ByteArray)
  (hs:R.St r err MS w) (hbig:2*(Pure.fZ r).length<=100000) (hq:RD lim (Pure.fZ r) err=(E,Y)):
  Calls Tryz.prog 18 #[.iface T p,.int .i64 lim] w fun e w'=>Fr MS w w'/\∃A c,e= .returned (.tuple #[.slice A Y.length c,.int .i64 E])/\Y.length<=c/\Kd.C Kd.string w' A Y.length Y:=by
 unfold RD at hq
 by_cases hc:lim<1\/65536<lim
 ·rw[if_pos hc] at hq
  cases hq
  refine(aag _ lim w hc).mono ?_
  rintro e w' ⟨rfl,hf⟩
  exact⟨hf.mono (fun _ h=>h.elim),none,0,rfl,Nat.le_refl _,Bg _⟩
 ·rw[if_neg hc] at hq
  have hrc:=fun n E Y hq=>read_c R r err lim MS w n E Y hs (by omega) (by omega) hbig hq
  have hea:=MB lim err r [] [] 0
  by_cases hok:(kJ.eD lim [] (Pure.fZ r) []).2.1=true
  ·rw[if_pos hok] at hq hea
   by_cases he:err=0
   ·rw[if_pos he] at hq hea
    cases hq
    refine(hrc _ _ _ hea).mono ?_
    rintro e w' ⟨hf,⟨h0,_⟩|⟨_,v,rfl,ho⟩⟩
    ·exact absurd rfl h0
    ·rw[List.nil_append,wK lim _ _ _ hok,List.nil_append] at ho
     obtain⟨A,c,rfl,h1,h2⟩:=Pr.Il ho
     exact⟨hf,A,c,rfl,h1,h2⟩
   ·rw[if_neg he] at hq hea
    cases hq
    refine(hrc _ _ _ hea).mono ?_
    rintro e w' ⟨hf,⟨h0,rfl⟩|⟨h0,_⟩⟩
    ·exact⟨hf,none,0,rfl,Nat.le_refl _,Bg _⟩
    ·exact absurd h0 he
  ·rw[if_neg hok] at hq hea
   cases hq
   refine(hrc _ _ _ hea).mono ?_
   rintro e w' ⟨hf,⟨h0,rfl⟩|⟨h0,_⟩⟩
   ·exact⟨hf,none,0,rfl,Nat.le_refl _,Bg _⟩
   ·cases h0
end Go.Proofs.YtilpincgjlclpaaGreat.Aj
end
section
namespace Go.Proofs.YtilpincgjlclpaaGreat.Ob
open Go Go.RowKit Bs Mp jL Hp
open Go.Proofs.ae.au (iV eY xR Kd.C Kd.string Kd.bY)
open Pr (fV.f fV.calls)
abbrev TAny:Nat:=20
abbrev TSs:Nat:=54
theorem aat {w:World} {A:Option Addr} {l:List ByteArray} (h:Kd.C Kd.string w A l.length l) {g:Nat} {v:Value} {T:TypeId} (hg:w.heap[g]?=some (.cells #[v] T (0,0))) (hv:∀s,v≠ .string s) (u:Value):Kd.C Kd.string (w.setCell ⟨g,0,none⟩ u) A l.length l:=by
 obtain⟨h1,h2,h3⟩:=h
 refine⟨h1,h2,fun hp=>?_⟩
 obtain⟨ad,ha,hc⟩:=h3 hp
 refine⟨ad,ha,fun j p hj=>?_⟩
 obtain⟨c,hl,hK,hcell⟩:=hc j p hj
 refine⟨c,hl,hK,fun i y hi=>?_⟩
 have h9:=hcell i y hi
 have hc1:c=[.string p]:=hK
 have hy:y= .string p:=by
  subst hc1
  match i,hi with
  |0,hi=>simpa using hi.symm
 obtain⟨X,hX⟩:∃X,X=ad.add (j*Kd.string.sz+i):=⟨_,rfl⟩
 rw[<-hX] at h9 ⊢
 refine(World.cell?_setCell_far _ ⟨g,0,none⟩ _ _ ?_).trans h9
 intro e
 clear hX
 obtain⟨gb,off,sp⟩:=X
 have e2:g=gb:=e
 subst e2
 rw[hy] at h9
 have hsp:sp=none:=by
  cases sp with
  |none=>rfl
  |some x=>
   exfalso
   simp only[World.cell?] at h9
   split at h9
   ·simp at h9
   ·cases h9
 rw[hsp] at h9
 have h8:=(aj hg off).symm.trans h9
 match off,h8 with
 |0,h8=>simp at h8;exact hv p h8
 |k+1,h8=>simp at h8
set_option maxHeartbeats 1000000 in
set_option maxRecDepth 100000 in
theorem run1_c {bp:Nat} {W:World} {bu mn li r:Int} (hbp:W.heap[bp]?=some (.cells #[.int .i64 bu,.int .i64 mn,.int .i64 li] TPa (0,0))) (h:fV.f bu mn li=some r):
  Calls Tryz.prog 61 #[.pointer (some ⟨bp,0,none⟩)] W fun e W'=>e= .returned (.int .i64 r)/\Below W.heap.size W W':=by
 have p0:W.cell? ⟨bp,0,none⟩=some (.int .i64 bu):=aj hbp 0
 have p1:W.cell? ⟨bp,1,none⟩=some (.int .i64 mn):=aj hbp 1
 have p2:W.cell? ⟨bp,2,none⟩=some (.int .i64 li):=aj hbp 2
 have HP:=Lib.hid (fV.calls bu mn li r W h)
 clear hbp h
 go_enter Tryz.func61,Tryz.ntmps61
 go_wp2_with (go_at_call 62;refine HP.out.mono ?_;clear HP;rintro e w1 ⟨rfl,hB1⟩;have H1:=Lib.hid hB1;clear hB1)
 go_ret
 exact⟨rfl,H1.out⟩
set_option maxHeartbeats 2000000 in
set_option maxRecDepth 100000 in
theorem run2_c {bx bp bw:Nat} {W:World} {Tx:TypeId} {px:Value} {bu mn li E:Int} {Y:List ByteArray} {MS:Nat->Prop} {v0:Value} {k0:Nat} (hv0:v0= .slice none 0 0) (hbx:W.heap[bx]?=some (.cells #[.iface Tx px] TAny (0,0))) (hbp:W.heap[bp]?=some (.cells #[.int .i64 bu,.int .i64 mn,.int .i64 li] TPa (0,0))) (hbw:W.heap[bw]?=some (.cells #[v0] TSs (0,0))) (hn:¬MS bw)
  (hread:Calls Tryz.prog 18 #[.iface Tx px,.int .i64 li] W fun e w'=>Fr MS W w'/\∃A c,e= .returned (.tuple #[.slice A Y.length c,.int .i64 E])/\Y.length<=c/\Kd.C Kd.string w' A Y.length Y):
  Calls Tryz.prog 63 #[.pointer (some ⟨bx,0,none⟩),.pointer (some ⟨bp,0,none⟩),.pointer (some ⟨bw,0,none⟩)] W fun e W'=>e= .returned (.int .i64 E)/\Fr (fun k=>MS k\/k=bw) W W'/\∃A c,W'.heap[bw]?=some (.cells #[.slice A Y.length c] TSs (0,0))/\Y.length<=c/\Kd.C Kd.string W' A Y.length Y:=by
 subst hv0
 have x0:W.cell? ⟨bx,0,none⟩=some (.iface Tx px):=aj hbx 0
 have p2:W.cell? ⟨bp,2,none⟩=some (.int .i64 li):=aj hbp 2
 have HR:=Lib.hid hread
 have HW:=Lib.hid (And.intro hbw hn)
 clear hread hbw hn hbx hbp
 go_enter Tryz.func63,Tryz.ntmps63
 go_wp2_with (go_at_call 18;refine HR.out.mono ?_;clear HR;rintro e w1 ⟨hf1,A1,c1,rfl,hc1,OU⟩;have hw1:=hf1.heap HW.out.1 HW.out.2;have y0:w1.cell? ⟨bw,0,none⟩=some (.slice none 0 0):=aj hw1 0;have f0:=aX hw1 0;have H1:=Lib.hid (And.intro hf1 (And.intro hw1 (And.intro hc1 OU)));clear hf1 hw1 hc1 OU)
 go_ret
 obtain⟨hf1,hw1,hc1,OU⟩:=H1.out
 exact⟨rfl,(hf1.mono (S2:=fun k=>MS k\/k=bw) (fun _ h=> .inl h)).set (p:=⟨bw,0,none⟩) (.inl (.inr rfl)) _,A1,c1,by simpa using heap_set hw1 0 (.slice A1 Y.length c1),hc1,aat OU hw1 (fun s=>by simp) _⟩
theorem aar {r:Int} {v:Value} {w:World} {B n sz:Nat} {e:TypeId} {xs:List Value} (h:r≠0->v= .slice none 0 0) (h2:r=0->w.ownsRow B e sz v n xs):∃Av lv cv,v= .slice Av lv cv:=by
 by_cases h0:r=0
 ·obtain⟨A9,c9,e9⟩:=Bs.bU (h2 h0)
  exact⟨_,_,_,e9⟩
 ·exact⟨_,_,_,h h0⟩
set_option maxHeartbeats 2000000 in
set_option maxRecDepth 100000 in
theorem run3_c {bw bl:Nat} {W:World} {Y:List ByteArray} {A:Option Addr} {c:Nat} (hbw:W.heap[bw]?=some (.cells #[.slice A Y.length c] TSs (0,0))) (hc:Y.length<=c) (hC:Kd.C Kd.string W A Y.length Y) (hbl:W.heap[bl]?=some (.cells #[.slice none 0 0] TWs (0,0))) (hn:Y.length<=100000) (hs:∀x∈Y,x.size<=maxLen):
  Calls Tryz.prog 64 #[.pointer (some ⟨bw,0,none⟩),.pointer (some ⟨bl,0,none⟩)] W fun e W'=>e= .returned (.int .i64 (fH [] Y).2)/\Fr (fun k=>k=bl) W W'/\∃v,W'.heap[bl]?=some (.cells #[v] TWs (0,0))/\((fH [] Y).2=0->W'.ownsRow W.heap.size TWd 2 v (fz (fH [] Y).1).length ((fz (fH [] Y).1).flatMap AP)):=by
 have y0:W.cell? ⟨bw,0,none⟩=some (.slice A Y.length c):=aj hbw 0
 have HO:=Lib.hid (Oq hC hc hn hs)
 have HL:=Lib.hid hbl
 obtain⟨M,r,hM⟩:∃M r,fH [] Y=(M,r):=⟨_,_,rfl⟩
 rw[hM] at HO ⊢
 simp only at HO ⊢
 clear hbw hC hbl hM
 go_enter Tryz.func64,Tryz.ntmps64
 go_wp2_with (go_at_call 23;refine HO.out.mono ?_;clear HO;rintro e w1 ⟨hB1,v1,rfl,hv1,ho1⟩;have hl1:=(hB1.block bl (bA HL.out)).trans HL.out;obtain⟨Av,lv,cv,hv2⟩:=aar hv1 ho1;subst hv2;have z0:w1.cell? ⟨bl,0,none⟩=some (.slice none 0 0):=aj hl1 0;have f0:=aX hl1 0;have H1:=Lib.hid (And.intro hB1 (And.intro hl1 ho1));clear hB1 hl1 ho1 hv1)
 go_ret
 obtain⟨hB1,hl1,ho1⟩:=H1.out
 have hbs:=bA HL.out
 refine⟨rfl,(Fr.dL (S:=fun k=>k=bl) hB1).set (p:=⟨bl,0,none⟩) (.inl rfl) _,.slice Av lv cv,by simpa using heap_set hl1 0 (.slice Av lv cv),fun h0=>?_⟩
 have hf:Fr (fun k=>k=bl) w1 (w1.setCell ⟨bl,0,none⟩ (.slice Av lv cv)):=(Fr.refl (fun k=>k=bl) w1).set (p:=⟨bl,0,none⟩) (.inl rfl) _
 exact hf.own (ho1 h0) (fun g hg e=>by have:=(eG (ho1 h0) hg).1;have e2:g=bl:=e;omega)
end Go.Proofs.YtilpincgjlclpaaGreat.Ob
end
section
namespace Go.Proofs.YtilpincgjlclpaaGreat.Ob
open Go Go.RowKit Bs Mp jL Hp
open Go.Proofs.ae.au (iV eY xR Kd.C Kd.string Kd.bY)
open Pr (fV.f fV.calls)
def WJ (s:Nat):List (Nat×Array Value):=[(61,#[.pointer (some ⟨s+1,0,none⟩)]),(63,#[.pointer (some ⟨s,0,none⟩),.pointer (some ⟨s+1,0,none⟩),.pointer (some ⟨s+3,0,none⟩)]),(64,#[.pointer (some ⟨s+3,0,none⟩),.pointer (some ⟨s+4,0,none⟩)])]
abbrev paO (bu mn li:Int):Obj:= .cells #[.int .i64 bu,.int .i64 mn,.int .i64 li] TPa
structure GI where
 Tx:TypeId
 px:Value
 bu:Int
 mn:Int
 li:Int
 MS:Nat->Prop
 Y:List ByteArray
 r0:Int
 E:Int
def GI.eT (i:GI):Int:=(fH [] i.Y).2
def GI.T (i:GI):List (ByteArray×Int):=fz (fH [] i.Y).1
def GI.rr (i:GI):Int:=if i.r0≠0 then i.r0 else if i.E≠0 then i.E else i.eT
def JR (w:World) (x:GI):Nat->World->Prop
 |0,W=>Below w.heap.size w W/\w.heap.size+6<=W.heap.size/\W.heap[w.heap.size]?=some (.cells #[.iface x.Tx x.px] TAny (0,0))/\W.heap[w.heap.size+1]?=some (paO x.bu x.mn x.li)/\W.heap[w.heap.size+2]?=some KL/\W.heap[w.heap.size+3]?=some (.cells #[.slice none 0 0] TSs (0,0))/\W.heap[w.heap.size+4]?=some (.cells #[.slice none 0 0] TWs (0,0))/\W.heap[w.heap.size+5]?=some (.cells (YE (WJ w.heap.size)) TFn (0,0))
 |1,W=>x.r0=0/\Below w.heap.size w W/\w.heap.size+6<=W.heap.size/\W.heap[w.heap.size]?=some (.cells #[.iface x.Tx x.px] TAny (0,0))/\W.heap[w.heap.size+1]?=some (paO x.bu x.mn x.li)/\W.heap[w.heap.size+2]?=some KL/\W.heap[w.heap.size+3]?=some (.cells #[.slice none 0 0] TSs (0,0))/\W.heap[w.heap.size+4]?=some (.cells #[.slice none 0 0] TWs (0,0))/\W.heap[w.heap.size+5]?=some (.cells (YE (WJ w.heap.size)) TFn (0,0))
 |2,W=>x.r0=0/\x.E=0/\Fr x.MS w W/\w.heap.size+6<=W.heap.size/\W.heap[w.heap.size+1]?=some (paO x.bu x.mn x.li)/\W.heap[w.heap.size+2]?=some KL/\W.heap[w.heap.size+4]?=some (.cells #[.slice none 0 0] TWs (0,0))/\W.heap[w.heap.size+5]?=some (.cells (YE (WJ w.heap.size)) TFn (0,0))/\∃A c,W.heap[w.heap.size+3]?=some (.cells #[.slice A x.Y.length c] TSs (0,0))/\x.Y.length<=c/\Kd.C Kd.string W A x.Y.length x.Y
 |_,W=>x.r0=0/\x.E=0/\x.eT=0/\Fr x.MS w W/\w.heap.size+6<=W.heap.size/\W.heap[w.heap.size+1]?=some (paO x.bu x.mn x.li)/\W.heap[w.heap.size+2]?=some KL/\W.heap[w.heap.size+5]?=some (.cells (YE (WJ w.heap.size)) TFn (0,0))/\∃v,W.heap[w.heap.size+4]?=some (.cells #[v] TWs (0,0))/\W.ownsRow (w.heap.size+6) TWd 2 v x.T.length (x.T.flatMap AP)
def JRx (w:World) (x:GI) (r':Int) (W:World):Prop:=r'=x.rr/\Fr x.MS w W/\w.heap.size+6<=W.heap.size/\W.heap[w.heap.size+2]?=some KL
theorem JR.row {w:World} {x:GI}:∀{i:Nat} {W:World},JR w x i W->W.heap[w.heap.size+5]?=some (.cells (YE (WJ w.heap.size)) TFn (0,0))
 |0,_,h=>h.2.2.2.2.2.2.2
 |1,_,h=>h.2.2.2.2.2.2.2.2
 |2,_,h=>h.2.2.2.2.2.2.2.1
 |_+3,_,h=>h.2.2.2.2.2.2.2.1
theorem NY {w W0:World} {x:GI} (h0:JR w x 0 W0) (hM:∀k,x.MS k->k<w.heap.size) (hp:fV.f x.bu x.mn x.li=some x.r0)
  (hread:x.r0=0->∀W,Below w.heap.size w W->Calls Tryz.prog 18 #[.iface x.Tx x.px,.int .i64 x.li] W fun e w'=>Fr x.MS W w'/\∃A c,e= .returned (.tuple #[.slice A x.Y.length c,.int .i64 x.E])/\x.Y.length<=c/\Kd.C Kd.string w' A x.Y.length x.Y)
  (hn:x.Y.length<=100000) (hs:∀y∈x.Y,y.size<=maxLen):
  Calls Tryz.prog 37 #[.slice (some ⟨w.heap.size+5,0,none⟩) 3 3] W0 fun e W'=>e= .returned (.int .i64 x.rr)/\(x.rr=0->JR w x 3 W')/\(x.rr≠0->JRx w x x.rr W'):=by
 refine(Sw (fs:=WJ w.heap.size) (J:=JR w x) (Jx:=JRx w x) (c:=3) (fun i W hJ j y hy=>YF hJ.row hy) (fun y hy args W=>?_) (fun i y W hJ hy=>?_) (by simp[WJ]) h0).mono ?_
 ·simp[WJ] at hy
  rcases hy with rfl|rfl|rfl
  ·exact vB Tryz.func61 (by rfl) (by rfl) args W
  ·exact vB Tryz.func63 (by rfl) (by rfl) args W
  ·exact vB Tryz.func64 (by rfl) (by rfl) args W
 ·match i,hy with
  |0,hy=>
   simp[WJ] at hy
   subst hy
   obtain⟨hB,h6,b0,b1,b2,b3,b4,b5⟩:=hJ
   refine(run1_c b1 hp).mono ?_
   rintro e W' ⟨rfl,hB1⟩
   have hBW:=hB.trans (hB1.mono hB.size)
   have k:∀{i:Nat} {o:Obj},W.heap[i]?=some o->W'.heap[i]?=some o:=fun h=>(hB1.block _ (bA h)).trans h
   refine⟨_,rfl,fun h=>⟨h,hBW,Nat.le_trans h6 hB1.size,k b0,k b1,k b2,k b3,k b4,k b5⟩,fun h=>⟨by unfold GI.rr;rw[if_pos h],Fr.dL hBW,Nat.le_trans h6 hB1.size,k b2⟩⟩
  |1,hy=>
   simp[WJ] at hy
   subst hy
   obtain⟨hr,hB,h6,b0,b1,b2,b3,b4,b5⟩:=hJ
   have nm:∀{i:Nat},w.heap.size<=i->¬x.MS i:=fun h h2=>by have:=hM _ h2;omega
   refine(run2_c (k0:=0) rfl b0 b1 b3 (nm (by omega)) (hread hr W hB)).mono ?_
   rintro e W' ⟨rfl,hf,A,c,b3',hc,hC⟩
   have k:∀{i:Nat} {o:Obj},W.heap[i]?=some o->w.heap.size<=i->i≠w.heap.size+3->W'.heap[i]?=some o:=fun h h1 h2=>hf.heap h (fun h3=>h3.elim (nm h1) h2)
   have WL:Fr x.MS w W':=(Fr.dL hB).trans hf (fun i hi=>hi.elim (fun h=> .inl h) (fun h=> .inr (by omega)))
   refine⟨_,rfl,fun h=>⟨hr,h,WL,Nat.le_trans h6 hf.size,k b1 (by omega) (by omega),k b2 (by omega) (by omega),k b4 (by omega) (by omega),k b5 (by omega) (by omega),A,c,b3',hc,hC⟩,fun h=>⟨by unfold GI.rr;rw[if_neg (by simp[hr]),if_pos h],WL,Nat.le_trans h6 hf.size,k b2 (by omega) (by omega)⟩⟩
  |2,hy=>
   simp[WJ] at hy
   subst hy
   obtain⟨hr,hE,hF,h6,b1,b2,b4,b5,A,c,b3,hc,hC⟩:=hJ
   refine(run3_c b3 hc hC b4 hn hs).mono ?_
   rintro e W' ⟨rfl,hf,v,b4',ho⟩
   have k:∀{i:Nat} {o:Obj},W.heap[i]?=some o->i≠w.heap.size+4->W'.heap[i]?=some o:=fun h h2=>hf.heap h h2
   have WL:Fr x.MS w W':=hF.trans hf (fun i hi=> .inr (by rw[show i=w.heap.size+4 from hi];omega))
   refine⟨_,rfl,fun h=>⟨hr,hE,h,WL,Nat.le_trans h6 hf.size,k b1 (by omega),k b2 (by omega),k b5 (by omega),v,b4',Bi (ho h) h6⟩,fun h=>⟨by unfold GI.rr;rw[if_neg (by simp[hr]),if_neg (by simp[hE])];rfl,WL,Nat.le_trans h6 hf.size,k b2 (by omega)⟩⟩
  |i+3,hy=>simp[WJ] at hy
 ·rintro e W' ⟨r',rfl,h1,h2⟩
  by_cases h:r'=0
  ·have hJ:=h1 h
   have hr:x.rr=0:=by
    obtain⟨g1,g2,g3,_⟩:=hJ
    unfold GI.rr
    rw[if_neg (by simp[g1]),if_neg (by simp[g2])]
    exact g3
   exact⟨by rw[h,hr],fun _=>hJ,fun h9=>(h9 hr).elim⟩
  ·have hx:=h2 h
   have hr:r'=x.rr:=hx.1
   exact⟨by rw[hr],fun h9=>(h (by rw[hr,h9])).elim,fun _=>⟨rfl,hx.2⟩⟩
end Go.Proofs.YtilpincgjlclpaaGreat.Ob
end
