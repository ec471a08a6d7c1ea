import Derived.Test.YtilpincgjlclpaaGreatR14
import Derived.Test.YtilpincgjlclpaaGreatR8
set_option linter.unusedVariables false
set_option linter.unusedSimpArgs false
section
namespace Go.Proofs.YtilpincgjlclpaaGreat.Ob
open Go Go.RowKit Go.Proofs.ae.au Bs Mp jL Pr
open Tm (mg)
open gJ (iW nK jR gU Ws base nJ jn tx vX zV tT om AL Ug sw)
open uA (iJ oz wi jB)
theorem Kl {w:World} {A:Option Addr} {c0:Nat} {l:List dN} (hC:Kd.C lQ w A l.length l) (hc0:l.length<=c0) (hf:iJ l) (hs:ko l<=6000) (bu mn li:Int):
  Calls Tryz.prog 14 #[.slice A l.length c0,Gs bu mn li] w fun e w'=>Below w.heap.size w w'/\∃Am cm,e= .returned (.tuple #[.slice Am (jk l bu mn li).length cm,WS (rO l bu mn li),.int .i64 (ic l bu mn li)])/\(jk l bu mn li).length<=cm/\Kd.C qj w' Am (jk l bu mn li).length (jk l bu mn li):=by
 refine(Kk hC hc0 hf hs bu mn li w (Below.refl _ w)).mono ?_
 rintro e w' ⟨Av,lv,cv,rfl,ho,hn,hB⟩
 refine⟨hB,?_⟩
 have yE:=lX (bu:=bu) (mn:=mn) (li:=li) hf hs
 unfold jk at *
 by_cases h:ic l bu mn li=0
 ·rw[if_pos h] at yE ⊢
  have ho2:w'.ownsRow w.heap.size Cz 2 (.slice Av lv cv) (rM l bu mn).length ((rM l bu mn).flatMap mW):=ho h
  have hol:(rM l bu mn).length=(mg (kU l bu mn)).length:=by rw[<-qH,List.length_map]
  obtain⟨h1,h2,h3⟩:=vR ho2 (by omega)
  rw[qH] at h3
  rw[h1,hol] at *
  exact⟨Av,cv,rfl,h2,h3⟩
 ·rw[if_neg h]
  have e:=hn h
  cases e
  exact⟨none,0,rfl,Nat.le_refl _,NB⟩
theorem rdM (m:List eu) (i:Nat) (h:i<m.length):bM m (i:Int)=m[i]:=KG m i h
theorem yB {l:List dN} {m:List eu} (hm:m.length<=100000) (hz:∀x∈m,x.f0.size<=300/\x.f1.size<=300) {t:List ByteArray} (ht:t.length<=300) (out:List (List ByteArray)) (ho:out.length<=300) (i:Nat) (hi:i<=300) (k2:Nat) (hk2:400<=k2):∀d j k,j+d=m.length->k=k2+d+1->
  aN.l1 k l m out (i:Int) (nJ (m.take j) t) (j:Int)=aN.l0 k2 l m (out++[nJ m t]) ((i+1:Nat):Int):=by
 intro d
 induction d with
 |zero=>
  intro j k hj hk
  subst hk
  rw[aN.l1,if_neg (by omega),if_pos (by omega),List.take_of_length_le (by omega),wi i (by omega)]
 |succ d ih=>
  intro j k hj hk
  subst hk
  have hlt:j<m.length:=by omega
  have hx:=hz _ (List.getElem_mem hlt)
  have hs:=tT (m.take j) t
  rw[show k2+(d+1)+1=(k2+d+1)+1 by omega,aN.l1,if_pos (by omega),if_pos (by omega),rdM m j hlt,zV (by omega) (by omega) (by omega) (by omega),Option.bind_some,wi j (by omega)]
  have:=ih (j+1) (k2+d+1) (by omega) rfl
  rw[List.take_succ_eq_append_getElem hlt,om] at this
  exact this
theorem Bw {l:List dN} {m:List eu} (hf:iJ l) (hm:m.length<=100000) (hz:∀x∈m,x.f0.size<=300/\x.f1.size<=300):∃K,∀k,K<=k->aN.f k l m=some (Ws (gJ.gB l) m):=by
 have h300:=hf.1
 obtain⟨q,hq⟩:∃q,q=m.length+2:=⟨_,rfl⟩
 have loop:∀d i k,i+d=l.length->d*q+1000<=k->aN.l0 k l m ((l.take i).map fun x=>nJ m (base (tx x.f0))) (i:Int)=some (Ws (gJ.gB l) m):=by
  intro d
  induction d with
  |zero=>
   intro i k hi hk
   obtain⟨k,rfl⟩:∃k',k=k'+1:=⟨k-1,by omega⟩
   rw[aN.l0,if_neg (by omega),List.take_of_length_le (by omega)]
   unfold Ws gJ.gB
   rw[List.map_map]
   rfl
  |succ d ih=>
   intro i k hi hk
   rw[Nat.succ_mul] at hk
   obtain⟨k,rfl⟩:∃k',k=(k'+m.length+1)+1:=⟨k-m.length-2,by omega⟩
   have hlt:i<l.length:=by omega
   have hx:=(hf.2 _ (List.getElem_mem hlt)).1
   rw[aN.l0,if_pos (by omega),if_pos (by omega),jB l i hlt,vX _ (by omega) _ (by omega),Option.bind_some]
   have hb:(base (tx l[i].f0)).length<=300:=by simp[base,tx];omega
   have h1:=yB (l:=l) hm hz hb ((l.take i).map fun x=>nJ m (base (tx x.f0))) (by simp;omega) i (by omega) k (by omega) m.length 0 (k+m.length+1) (by omega) rfl
   rw[List.take_zero] at h1
   have h2:=ih (i+1) k (by omega) (by omega)
   rw[List.take_succ_eq_append_getElem hlt,List.map_append] at h2
   exact h1.trans h2
 refine⟨l.length*q+1000,fun k hk=>?_⟩
 have:=loop l.length 0 k (by omega) hk
 exact this
theorem lrn_end {ts cs} {budget least:Int} {o r:List eu} (h:nK ts cs budget least o r) (hb:(r.length:Int)<budget):∃L R n,gU (Ws ts r) cs L R n/\n<least:=by
 induction h with
 |full h=>omega
 |stop _ h1 h2=>exact⟨_,_,_,h1,h2⟩
 |step _ _ _ _ ih=>exact ih hb
structure XD (l:List dN) (bu mn:Int) (M:List eu):Prop where
 right:∃K,aI.f K M=some true
 bud:(M.length:Int)<=bu
 words:∃K,aN.f K l M=some (Ws (gJ.gB l) M)
 DF:∃L R n,fw.f (Ws (gJ.gB l) M) (sw l)=some (L,R,n)/\((M.length:Int)<bu->n<mn)
theorem aaj {l:List dN} {bu mn li:Int} (hf:iJ l) (hs:ko l<=6000) (h:ic l bu mn li=0):XD l bu mn (jk l bu mn li):=by
 have hn:=lnt hf hs h
 have hlen:=lX (bu:=bu) (mn:=mn) (li:=li) hf hs
 have hok:iW (gJ.gB l) (sw l):=hn.ok
 have hlr:nK (gJ.gB l) (sw l) bu mn [] (jk l bu mn li):=by unfold jk;rw[if_pos h];exact hn.lrn
 have hz:∀x∈jk l bu mn li,x.f0.size<=300/\x.f1.size<=300:=by unfold jk;rw[if_pos h];exact Ew hn
 obtain⟨K,hK⟩:=Bw hf hlen hz
 obtain⟨L,R,n,hb,hbf⟩:=hok.DF (jk l bu mn li)
 refine⟨⟨_,Ug (nK.chain hn.mn1 hlr (fun o x p e=>by simp at e)) hlen (fun x hx=>⟨by have:=hz x hx;omega,by have:=hz x hx;omega⟩) _ (Nat.le_refl _)⟩,nK.budget hlr (by simpa using hn.bu0),⟨K,hK K (Nat.le_refl _)⟩,L,R,n,hbf,fun hlt=>?_⟩
 obtain⟨L',R',n',hb',hn'⟩:=lrn_end hlr hlt
 obtain⟨_,_,rfl⟩:=hb.same hb'
 exact hn'
end Go.Proofs.YtilpincgjlclpaaGreat.Ob
end
section
namespace Go.Proofs.YtilpincgjlclpaaGreat.Pr
open Go Go.RowKit Bs Ob Go.Proofs.ae.au Go.Proofs.ae.aZ Go.Proofs.ae.bE
open uA (iJ oz)
open gJ (Ws sw)
theorem infoInt:(Tryz.prog.info? 3).map (fun i=>(i.zero,i.size,i.bytes))=some (some (.int .i64 0),1,8):=by kernel_rfl
theorem Pq {w:World} {ops:Array Oper} {rest:List Oper} {o:Oper} {a:Act} {Q:Exit->Act->World->Prop} (hgd:o.guard=none) (s x:Operand)
  (ho:o.op= .call {callee:= .builtin .append,args:=#[s,x],argTypes:=#[43,43]}) (base:Nat) (v:Value) (l:List Int) (t:Int) (hs:a.eval s=v) (hx:a.eval x= .slice (some ⟨w.heap.size,0,none⟩) 1 1)
  (h1:w.ownsRow base 3 1 v l.length (l.map (Value.int .i64))) (hb:base<=w.heap.size) (hn:l.length<=100000000)
  (h:∀v' w',w'.ownsRow base 3 1 v' (l++[t]).length ((l++[t]).map (Value.int .i64))->Fr (fun k=>v.ownBlock=some k) w w'->wpList Tryz.prog ops Q rest (a.put o.dst v') w'):wpList Tryz.prog ops Q (o::rest) a (w.alloc (.cells #[.int .i64 t] 3)):=by
 obtain⟨i1,hx1,hx0,hxs,hxb⟩:=info_parts infoInt
 refine wpList_append_own_at _ hgd s x 43 ho base 3 i1 (.int .i64 0) 1 8 Tryz.underlying43 hx1 hx0 hxs hxb rfl (by decide) v _ _ hs (h1.alloc _) ⟨w.heap.size,0,none⟩ 1 1 [.int .i64 t] hx rfl ?_ ?_ ?_ ?_ ?_ ?_
 ·intro j u hj
  match j,hj with
  |0,hj=>simp at hj;subst hj;simp[Addr.add]
 ·intro u hu;simp at hu;subst hu;rfl
 ·unfold maxLen;omega
 ·omega
 ·simp;omega
 ·intro v' w' hown' hg _ _
  refine h v' w' (by simpa using hown') ?_
  exact((Fr.refl _ w).alloc _).grown hg (fun k hk=> .inl hk)
theorem aaz {l:List dN} {bu mn li:Int} (h:ic l bu mn li≠0):jk l bu mn li=[]:=by unfold jk;rw[if_neg h]
def RowC (B:Nat) (l0:List dN) (i:Nat) (v:Value) (w:World):Prop:=w.ownsRow B 3 1 v ((l0.take i).map (·.f1)).length (((l0.take i).map (·.f1)).map (Value.int .i64))
def iA.f (l0:List dN) (a1 a2:Int):Option Bool:=if l0.length<=maxLen/\(∀x∈l0,-9223372036854775808<=x.f1/\x.f1<=9223372036854775807)/\(0<=a1/\a1<256)/\0<=a2/\a2<256 then some true else none
set_option maxHeartbeats 4000000 in
set_option maxRecDepth 100000 in
theorem iA.calls (A0:Option Addr) (c0:Nat) (l0:List dN) (a1 a2:Int) (r:Bool) (w:World) (hr0:Kd.C lQ w A0 l0.length l0) (hc0:l0.length<=c0) (h:iA.f l0 a1 a2=some r):
  Calls Tryz.prog 4 #[.slice A0 l0.length c0,.int .u8 a1,.int .u8 a2] w fun e w'=>e= .returned (.bool r)/\Below w.heap.size w w':=by
 unfold iA.f at h
 split at h
 ·rename_i hcond
  cases h
  obtain⟨yE,hin,⟨h10,h11⟩,h20,h21⟩:=hcond
  obtain⟨b,hg1,hg2⟩:=zh l0 yE hin
  have HC:=Lib.hid hr0
  clear hr0 hin
  go_enter Tryz.func4,Tryz.ntmps4
  go_wp2_with fail
  refine(jK.calls true _ rfl).mono ?_
  rintro e w1 ⟨rfl,hb1⟩
  have Ch:=Lib.hid (Kd.bY HC.out hb1)
  have HB1:=Lib.hid hb1
  have HG:=Lib.hid (And.intro hg1 hg2)
  clear hb1 HC hg1 hg2
  go_wp2_with fail
  refine(dR.calls _ _ _ l0 b _ Ch.out hc0 HG.out.1).mono ?_
  rintro e w2 ⟨rfl,⟨q2,rfl⟩⟩
  cases b with
  |true=>
   go_wp2_with fail
   go_ret
   exact⟨rfl,HB1.out.trans (af (Below.refl _ _) _)⟩
  |false=>
   obtain⟨hf,hs,hl60⟩:=HG.out.2 rfl
   have hlm:=Kl (Kd.dB Ch.out q2) hc0 hf (by omega) a1 (1+a2) 65536
   unfold Gs at hlm
   have HT:=Lib.hid hlm
   have HF:=Lib.hid (And.intro hf hs)
   have hw1:wrap64 (1+a2)=1+a2:=by unfold wrap64;omega
   clear hlm hf hs HG
   go_wp2_with fail
   refine HT.out.mono ?_
   clear HT
   rintro e w3 ⟨hB3,Am,cm,rfl,hcm,hCm⟩
   have hs1:(w1.drewN q2).heap.size=w1.heap.size:=rfl
   rw[hs1] at hB3
   have sG:Below w1.heap.size w1 w3:=(af (Below.refl _ w1) q2).trans hB3
   have hbad:ic l0 a1 (1+a2) 65536≠0->(jk l0 a1 (1+a2) 65536).length=0:=fun h9=>by rw[aaz h9];rfl
   have hgood:ic l0 a1 (1+a2) 65536=0->XD l0 a1 (1+a2) (jk l0 a1 (1+a2) 65536):=fun h9=>aaj HF.out.1 (by have:=HF.out.2;omega) h9
   have Tj:=lX (bu:=a1) (mn:=1+a2) (li:=65536) HF.out.1 (by have:=HF.out.2;omega)
   obtain⟨S0,hS0⟩:∃S0,S0=rO l0 a1 (1+a2) 65536:=⟨_,rfl⟩
   rw[<-hS0]
   have HX:=Lib.hid (And.intro hbad hgood)
   generalize jk l0 a1 (1+a2) 65536=M at *
   generalize ic l0 a1 (1+a2) 65536=E at *
   have Ci:=Lib.hid (Kd.bY Ch.out sG)
   have Lx:=Lib.hid hCm
   have HB3:=Lib.hid (HB1.out.trans (sG.mono HB1.out.size))
   obtain⟨s0,s1,s2,s3,s4,s5⟩:=S0
   clear hB3 sG hCm Ch HB1 hs1 hbad hgood hS0
   unfold WS
   by_cases hE:E=0
   ·subst hE
    obtain⟨⟨K1,hK1⟩,hbud,⟨K2,hK2⟩,L,R,n,YN,hlast⟩:=HX.out.2 rfl
    generalize Ws (gJ.gB l0) M=WW at hK2 YN
    have gH:=Lib.hid hK1
    have qB:=Lib.hid (And.intro hK2 (And.intro YN hlast))
    clear hK1 hK2 YN hlast HX
    have hb1:decide (a1<(M.length:Int))=false:=decide_eq_false (by omega)
    go_wp2_with fail
    refine(aI.calls K1 _ _ M true _ (Kd.dD Lx.out _) hcm gH.out).mono ?_
    rintro e w4 ⟨rfl,hB4⟩
    have xw:Below w3.heap.size w3 w4:=((Below.refl _ w3).alloc (Nat.le_refl _) _).trans (hB4.mono (by simp))
    have UR:=Lib.hid (Kd.bY Ci.out xw)
    have HM4:=Lib.hid (Kd.bY Lx.out xw)
    have wG:=Lib.hid (HB3.out.trans (xw.mono HB3.out.size))
    clear hB4 xw Ci Lx HB3 gH
    by_cases hlen:(M.length:Int)=a1
    ·go_wp2_with fail
     go_ret
     exact⟨rfl,wG.out⟩
    ·have xH:((M.length:Int)==a1)=false:=by simpa using hlen
     go_wp2_with fail
     go_loopw [10,11] (fun v10 v11 wr=>∃i:Nat,i<=l0.length/\v11= .int .i64 i/\RowC w4.heap.size l0 i v10 wr/\Below w4.heap.size w4 wr) (fun _ v11 _=>l0.length-(intOf v11).toNat)
     case atStart=>exact⟨0,Nat.zero_le _,rfl,⟨rfl,.inl ⟨rfl,rfl⟩⟩,Below.refl _ _⟩
     case round=>
      obtain⟨i,hi,rfl,hown,hBr⟩:=hrel
      obtain⟨X,hX⟩:∃X,X=(l0.take i).map (·.f1):=⟨_,rfl⟩
      unfold RowC at hown
      rw[<-hX] at hown
      have HXX:=Lib.hid hX
      clear hX
      have HO:=Lib.hid hown
      have HBr:=Lib.hid hBr
      have HCr:=Lib.hid (Kd.bY UR.out hBr)
      clear hown hBr
      by_cases hlt:i<l0.length
      ·obtain⟨ad,rfl,_,hcell⟩:=eP HCr.out (i:Int) (by omega) (by omega)
       rw[uA.jB l0 i hlt,Int.toNat_natCast] at hcell
       have htk:X.length=i:=by rw[HXX.out,List.length_map,List.length_take];omega
       have htn:X++[l0[i].f1]=(l0.take (i+1)).map (·.f1):=by rw[HXX.out,List.take_succ_eq_append_getElem hlt,List.map_append];rfl
       have HTN:=Lib.hid (And.intro htk htn)
       have hXn:X.length<=100000000:=by omega
       clear htk htn
       generalize l0[i].f1=cc at *
       obtain⟨A7,c7,rfl⟩:=Bs.bU HO.out
       go_wp2_with (at_builtin;refine Pq rfl _ _ rfl w4.heap.size (.slice A7 X.length c7) X cc rfl rfl HO.out HBr.out.size hXn ?_)
       intro v5 w5 hown5 hfr5
       have hown6:RowC w4.heap.size l0 (i+1) v5 w5:=by unfold RowC;rw[<-HTN.out.2];simpa using hown5
       have HO5:=Lib.hid hown6
       have GG:=Lib.hid (HBr.out.trans (hfr5.toBelow (fun k hk=>(eG HO.out hk).1) HBr.out.size))
       clear hown5 hown6 hfr5
       go_wp2_with fail
       exact⟨⟨i+1,by omega,by go_num,HO5.out,GG.out⟩,by simp[intOf];omega⟩
      ·go_wp2_with fail
       obtain rfl:X=sw l0:=by rw[HXX.out,List.take_of_length_le (by omega)];rfl
       obtain⟨A7,c7,rfl⟩:=Bs.bU HO.out
       have hRx:Kd.R (Kd.int .i64) 3 wr w4.heap.size (fun _=>True) (.slice A7 (sw l0).length c7) (sw l0):=Kd.Dx HO.out (fun _ _=>trivial)
       obtain⟨_,hcx,hCx⟩:=Kd.dP hRx
       have HMr:=Lib.hid (Kd.bY HM4.out HBr.out)
       have HX7:=Lib.hid hCx
       clear hRx hCx HO
       go_wp2_with fail
       refine(aN.calls K2 A0 c0 l0 Am cm M WW _ HCr.out hc0 HMr.out hcm qB.out.1).mono ?_
       rintro e w6 ⟨v6,rfl,hS6,xx⟩
       obtain⟨A6,c6,rfl,hc6,hC6⟩:=Kd.IY hS6
       have Pk:=Lib.hid hC6
       have HX8:=Lib.hid (Kd.bY HX7.out xx)
       have yJ:=Lib.hid ((wG.out.trans (HBr.out.mono wG.out.size)).trans (xx.mono (Nat.le_trans wG.out.size HBr.out.size)))
       have hbf:=qB.out.2.1
       have HBF:=Lib.hid hbf
       have hnl:n<1+a2:=qB.out.2.2 (by omega)
       clear hS6 hC6 xx HX7 hbf HXX
       go_wp2_with fail
       refine(fw.calls A6 c6 WW A7 c7 (sw l0) L R n _ Pk.out hc6 HX8.out hcx HBF.out).mono ?_
       rintro e w7 ⟨rfl,uu⟩
       have HB7:=Lib.hid (yJ.out.trans (uu.mono yJ.out.size))
       clear uu
       go_wp2_with fail
       go_ret
       exact⟨rfl,HB7.out.alloc HB7.out.size _⟩
   ·have h0:=HX.out.1 hE
    have hEb:(E != 0)=true:=by simpa using hE
    go_wp2_with fail
    go_ret
    exact⟨rfl,HB3.out.alloc HB3.out.size _⟩
 ·cases h
end Go.Proofs.YtilpincgjlclpaaGreat.Pr
end
