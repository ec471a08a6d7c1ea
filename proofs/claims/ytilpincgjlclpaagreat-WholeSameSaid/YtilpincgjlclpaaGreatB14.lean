import Derived.Test.YtilpincgjlclpaaGreatB13
set_option linter.unusedVariables false
set_option linter.unusedSimpArgs false
section
namespace Go.Proofs.YtilpincgjlclpaaGreat.Ob
open Go Go.RowKit Bs Mp jL
theorem zK {w:World} {B C n sz:Nat} {e:TypeId} {v:Value} {xs:List Value} (h:w.ownsRow C e sz v n xs) (hB:B<=C):w.ownsRow B e sz v n xs:=by
 obtain⟨h1,h2⟩:=h
 refine⟨h1,?_⟩
 rcases h2 with h2|⟨g,cap,cur,rfl,hb,r⟩
 ·exact .inl h2
 ·exact .inr ⟨g,cap,cur,rfl,by omega,r⟩
theorem cnt_new (w:World):Calls Tryz.prog 110 #[] w fun e w'=>e= .returned (.pointer (some ⟨w.heap.size,0,none⟩))/\w'=w.alloc (.cells #[.map none] TD):=by
 go_enter Tryz.func110,Tryz.ntmps110
 go_wp2
 go_ret
 exact⟨rfl,rfl⟩
theorem xq.new {B:Nat} (w:World) (hB:B<=w.heap.size):xq B (w.alloc (.cells #[.map none] TD)) w.heap.size (fun _=>0) 0 (fun k=>k=w.heap.size):=
 ⟨_,[],hB,bG w _,.inl ⟨rfl,rfl⟩,fun q=>rfl,Nat.le_refl _,fun q=>by simp,fun x hx=>by simp at hx,by funext k;simp⟩
set_option maxHeartbeats 1000000 in
set_option maxRecDepth 100000 in
theorem cnt_all {B b n:Nat} {f:P2->Int} {S:Nat->Prop} {w:World} (h:xq B w b f n S) (hn:n<=1000000):
  Calls Tryz.prog 118 #[.pointer (some ⟨b,0,none⟩)] w fun e w'=>∃(v:Value) (xs:List P2),e= .returned v/\xs.Pairwise zO/\(∀q,q∈xs↔f q≠0)/\w'.ownsRow w.heap.size TP 2 v xs.length (xs.flatMap qO)/\Below w.heap.size w w':=by
 obtain⟨v,m,hB,hb,hm,h1,h2,h3,h4,rfl⟩:=h
 obtain⟨mb,rfl⟩:∃mb,v= .map mb:=by
  rcases hm with⟨rfl,_⟩|⟨g,rfl,_⟩
  ·exact⟨_,rfl⟩
  ·exact⟨_,rfl⟩
 have cb:w.cell? ⟨b,0,none⟩=some (.map mb):=aj hb 0
 have hO:MpO (w.alloc (.cells #[.map mb] 207)) mb m:=by
  rcases hm with⟨e,rfl⟩|⟨g,e,hg,hM⟩
  ·simp at e;exact .inl ⟨e,rfl⟩
  ·simp at e;exact .inr ⟨g,e,hM.alloc _⟩
 have hnd:(m.map Prod.fst).Nodup:=by
  rcases hm with⟨e,rfl⟩|⟨g,e,hg,hM⟩
  ·simp
  ·exact hM.nodup
 have hk:=yh mb w
 have hs:=wh cmpR mb m (by omega) hnd (w.alloc (.cells #[.map mb] 207)) w.heap.size (by simp) (aj (bG w _) 0) hO
 have HX:=Lib.hid (And.intro h1 hnd)
 clear h1 h2 h3 h4 hm hO hnd hb
 go_enter Tryz.func118,Tryz.ntmps118
 go_wp2_with (first
  |(go_at_call 129;refine hk.mono ?_;rintro e w1 ⟨rfl,rfl⟩)
  |(go_at_call 128;refine hs.mono ?_;rintro e w2 ⟨v,xs,rfl,g1,g2,g3,g4⟩;have HY:=Lib.hid (And.intro g1 (And.intro g2 (And.intro g3 g4)));clear g1 g2 g3 g4))
 go_ret
 obtain⟨g1,g2,g3,g4⟩:=HY.out
 obtain⟨h1,hnd⟩:=HX.out
 refine⟨v,xs,rfl,g1,fun q=>?_,zK g3 (by simp),((Below.refl _ w).alloc (Nat.le_refl _) _).trans (g4.mono (by simp))⟩
 rw[g2.mem_iff,List.mem_map]
 constructor
 ·rintro⟨⟨x,c⟩,hx,rfl⟩ e
  have h5:=tH hnd hx
  rw[h1 x,if_pos e] at h5
  cases h5
 ·intro e
  have h5:=h1 q
  rw[if_neg e] at h5
  exact⟨(q,f q),get_mem h5,rfl⟩
set_option maxHeartbeats 1000000 in
set_option maxRecDepth 100000 in
theorem apply1 {B b n Bc:Nat} {f:P2->Int} {S:Nat->Prop} {W:World} (h:xq B W b f n S) (dm:W.heap[Bc]?=some (.cells #[.pointer (some ⟨b,0,none⟩)] 192 (0,0))) (q:P2) (hq:lD q.1/\lD q.2) (c:Int):
  Calls Tryz.prog 174 #[pv q,.int .i64 c,.pointer (some ⟨Bc,0,none⟩)] W fun e w'=>e= .returned (.bool (c==f q))/\Below W.heap.size W w':=by
 obtain⟨q1,q2⟩:=q
 have h':=h.below ((Below.refl _ W).alloc (Nat.le_refl _) (.cells #[.int .i64 q1,.int .i64 q2] 160))
 have hb':=dw dm (.cells #[.int .i64 q1,.int .i64 q2] 160)
 have cb:(W.alloc (.cells #[.int .i64 q1,.int .i64 q2] 160)).cell? ⟨Bc,0,none⟩=some (.pointer (some ⟨b,0,none⟩)):=aj hb' 0
 have hg:=Je h' hq
 clear h h' dm hb'
 generalize f (q1,q2)=fq at hg ⊢
 go_enter Tryz.func174,Tryz.ntmps174
 go_wp2_with (go_at_call 119;refine hg.mono ?_;rintro e w1 ⟨rfl,hB1⟩;have HB1:=Lib.hid hB1;clear hB1)
 go_ret
 exact⟨rfl,((Below.refl _ W).alloc (Nat.le_refl _) _).trans (HB1.out.mono (by simp))⟩
theorem sD {xs:List (P2×Int)} {i:Nat} {x:P2×Int} (h:xs[i]?=some x):(xs.flatMap mV)[i*3]?=some (.int .i64 x.1.1)/\(xs.flatMap mV)[i*3+1]?=some (.int .i64 x.1.2)/\(xs.flatMap mV)[i*3+2]?=some (.int .i64 x.2):=by
 have e:xs.flatMap mV=rc (xs.map fun x=>(x.1.1,x.1.2,x.2)):=by
  unfold rc
  rw[List.flatMap_map]
  rfl
 rw[e]
 exact Uf (x:=(x.1.1,x.1.2,x.2)) (by rw[List.getElem?_map,h];rfl)
def upto (f:P2->Int) (xs:List (P2×Int)) (k:Int):P2->Int:=xs.foldl (fun f x=>bump f x.1 (x.2*k)) f
theorem WC (f:P2->Int) (xs:List (P2×Int)) (x:P2×Int) (k:Int):upto f (xs++[x]) k=bump (upto f xs k) x.1 (x.2*k):=by simp[upto]
theorem Uw {f:P2->Int} {k:Int} (xs:List (P2×Int)):∀(f:P2->Int),(xs.map Prod.fst).Nodup->∀q,upto f xs k q=f q+((Mp.get xs q).getD 0)*k:=by
 induction xs with
 |nil=>intro f _ q;simp[upto,Mp.get]
 |cons x xs ih=>
  intro f hn q
  rw[List.map_cons,List.nodup_cons] at hn
  have:=ih (bump f x.1 (x.2*k)) hn.2 q
  show upto (bump f x.1 (x.2*k)) xs k q=_
  rw[this]
  obtain⟨x1,x2⟩:=x
  rw[Mp.get]
  unfold bump
  by_cases e:x1=q
  ·subst e
   have h0:Mp.get xs x1=none:=get_none.2 fun p hp e=>hn.1 (List.mem_map.2 ⟨p,hp,e⟩)
   rw[if_pos rfl,if_pos rfl,h0]
   simp
  ·rw[if_neg e,if_neg (fun h=>e h.symm)]
   omega
theorem Ig {l:List P2} (h:l.Pairwise zO):l.Nodup:=by
 have h2:=h.imp (S:=fun a b:P2=>a≠b) (fun{a b} hab e=>by rw[e] at hab;exact tQ b hab)
 exact h2
theorem UQ.get {d:P2->Int} {xs:List (P2×Int)} (h:UQ d xs) (q:P2):(Mp.get xs q).getD 0=d q:=by
 have hn:(xs.map Prod.fst).Nodup:=Ig h.srt
 cases hg:Mp.get xs q with
 |none=>
  by_cases e:d q=0
  ·rw[e];rfl
  ·have:=(h.is q (d q)).2 ⟨rfl,e⟩
   rw[tH hn this] at hg
   cases hg
 |some c=>
  have:=(h.is q c).1 (get_mem hg)
  rw[this.1]
  rfl
theorem UQ.nodup {d:P2->Int} {xs:List (P2×Int)} (h:UQ d xs):(xs.map Prod.fst).Nodup:=Ig h.srt
structure BC (f:P2->Int) (d:P2->Int) (xs:List (P2×Int)) (k:Int):Prop where
 chg:UQ d xs
 key:∀x∈xs,lD x.1.1/\lD x.1.2
 small:∀q,-1000000<=d q/\d q<=1000000
 k0:0<=k/\k<=9223372036854775807
 prod:∀q,-9223372036854775807<=d q*k/\d q*k<=9223372036854775807
 old:∀q,0<=f q/\f q<=9223372036854775807
 new:∀q,0<=f q+d q*k/\f q+d q*k<=9223372036854775807
theorem BC.final {f d:P2->Int} {xs:List (P2×Int)} {k:Int} (h:BC f d xs k):upto f xs k=fun q=>f q+d q*k:=by
 funext q
 rw[Uw (f:=f) xs f h.chg.nodup q,h.chg.get q]
theorem BC.at {f d:P2->Int} {xs A C:List (P2×Int)} {x:P2×Int} {k:Int} (h:BC f d xs k) (e:xs=A++x::C):x.2=d x.1/\upto f A k x.1=f x.1:=by
 have h1:=(h.chg.is x.1 x.2).1 (by rw[e];simp)
 refine⟨h1.1,?_⟩
 have hn:=h.chg.nodup
 rw[e,List.map_append,List.map_cons,List.nodup_append] at hn
 rw[Uw (f:=f) A f hn.1 x.1,get_none.2 fun p hp e2=>hn.2.2 p.1 (List.mem_map_of_mem hp) x.1 (by simp) e2]
 simp
set_option maxHeartbeats 4000000 in
set_option maxRecDepth 100000 in
theorem Vk {B b n:Nat} {f d:P2->Int} {S:Nat->Prop} {w:World} (h:xq B w b f n S) {v:Value} {xs:List (P2×Int)} {B0:Nat} (hv:w.ownsRow B0 TG 3 v xs.length (xs.flatMap mV)) (hsep:∀k,v.ownBlock=some k->¬S k) (hxl:xs.length<=100000) (hn:n<=100000) {k:Int} (hc:BC f d xs k):
  Calls Tryz.prog 142 #[.pointer (some ⟨b,0,none⟩),v,.int .i64 k] w fun e w'=>∃u:Value,e= .returned (.tuple #[u,.int .i64 0])/\∃S',xq B w' b (fun q=>f q+d q*k) (n+xs.length) S'/\Fr S w w'/\Into w S S':=by
 obtain⟨A,cap,rfl⟩:=bU hv
 have hmm:=@run_makeMap Tryz.prog
 obtain⟨W0,hW0⟩:∃W0,W0=(w.alloc (.cells #[.pointer (some ⟨b,0,none⟩)] 192)).alloc (.map #[] 0):=⟨_,rfl⟩
 have hB0:Below w.heap.size w W0:=by rw[hW0];exact((Below.refl _ w).alloc (Nat.le_refl _) _).alloc (by simp) _
 have hbx:W0.heap[w.heap.size]?=some (.cells #[.pointer (some ⟨b,0,none⟩)] 192 (0,0)):=by rw[hW0];exact dw (bG w _) _
 have hM0:mp ou W0 (w.heap.size+1) []:=by
  rw[hW0]
  have:=oW (T:=ou) (w.alloc (.cells #[.pointer (some ⟨b,0,none⟩)] 192))
  rwa[World.size_alloc] at this
 have hs0:W0.heap.size=w.heap.size+2:=by rw[hW0];simp
 have hin:=h.oq
 have hF0:Fr S w W0:=Fr.dL hB0
 have lC:=Lib.hid (h.below hB0)
 have HB0:=Lib.hid hbx
 have HM0:=Lib.hid hM0
 have HF0:=Lib.hid hF0
 have HV:=Lib.hid hv
 have Xd:=Lib.hid hc
 have HSP:=Lib.hid hsep
 have FZ:=Lib.hid hin
 have HS0:=Lib.hid hs0
 have HW0:=Lib.hid hW0
 clear h hbx hM0 hF0 hB0 hv hc hsep hin hs0 hW0
 go_enter Tryz.func142,Tryz.ntmps142
 go_wp2
 clear hmm
 rw[<-HW0.out]
 go_loopg [17] xs.length (fun gk v17 wr=>∃(A1 R:List (P2×Int)) (wm:List (P2×Int)) (S1:Nat->Prop),v17= .int .i64 (A1.length:Int)/\R.length=gk/\Hid (xs=A1++R)/\Hid (xq B wr b (upto f A1 k) (n+A1.length) S1)/\Hid (mp ou wr (w.heap.size+1) wm)/\Hid (wm.length<=A1.length)/\Hid (wr.heap[w.heap.size]?=some (.cells #[.pointer (some ⟨b,0,none⟩)] 192 (0,0)))/\Hid (Fr S w wr)/\Hid (Into w S S1)/\Hid (w.heap.size+2<=wr.heap.size)/\Hid (¬S1 w.heap.size/\¬S1 (w.heap.size+1)))
 case atStart=>exact⟨[],xs,[],S,rfl,rfl,Lib.hid rfl,lC,HM0,Lib.hid (Nat.le_refl _),HB0,HF0,Lib.hid (Into.refl w S),Lib.hid (Nat.le_of_eq HS0.out.symm),Lib.hid ⟨FZ.out.ne (Nat.le_refl _),FZ.out.ne (by omega)⟩⟩
 case round=>
  obtain⟨A1,R,wm,S1,rfl,qy,HX,HC,HM,HL,HB,HF,HI,HZ,HD⟩:=hrel
  cases R with
  |nil=>
   have hxe:xs=A1:=by rw[HX.out];simp
   have hend:Hid (A1.length=xs.length):=Lib.hid (by rw[hxe])
   have hge:¬A1.length<xs.length:=by rw[hxe];omega
   have hdel:=BM (g:=174) (cb:= .pointer (some ⟨w.heap.size,0,none⟩)) (enters_of Tryz.func174 (by kernel_rfl) rfl) (fun q c=>c==upto f A1 k q) wm wr HM.out (fun W q c hF hq=>apply1 (HC.out.fr hF (fun i h1 h2=>HD.out.2 (by rw[<-h1];exact h2))) (hF.heap HB.out (by omega)) q hq c)
   have hwl:=HL.out
   have hA1l:A1.length<=100000:=by rw[<-hxe];exact hxl
   have Le:=Lib.hid hxe
   clear hxe
   go_wp2_with (first
    |(go_at_call 126;refine hdel.mono ?_;rintro e w5 ⟨rfl,Hg,Gl⟩;have hk:=yh (some (w.heap.size+1)) w5;have hs:=wh cmpR (some (w.heap.size+1)) _ (Nat.le_trans (List.length_filter_le _ _) (by omega)) Hg.nodup (w5.alloc (.cells #[.map (some (w.heap.size+1))] 207)) w5.heap.size (by simp) (aj (bG w5 _) 0) (.inr ⟨_,rfl,Hg.alloc _⟩);have Lu:=Lib.hid Gl;clear Hg Gl)
    |(go_at_call 129;refine hk.mono ?_;rintro e w6 ⟨rfl,rfl⟩)
    |(go_at_call 128;refine hs.mono ?_;rintro e w7 ⟨u,ys,rfl,g1,g2,g3,g4⟩;have HY:=Lib.hid g4;clear g1 g2 g3 g4))
   go_ret2
   refine⟨_,rfl,S1,?_,?_,HI.out⟩
   ·have h1:=HC.out
    rw[<-Le.out,Xd.out.final] at h1
    have h2:=h1.fr Lu.out (fun i h1 h2=>HD.out.2 (by rw[<-h1];exact h2))
    exact(h2.below ((Below.refl _ w5).alloc (Nat.le_refl _) _)).below HY.out
   ·exact((HF.out.trans Lu.out (fun i hi=> .inr (by omega))).alloc _).below HY.out
  |cons x R=>
   obtain⟨⟨x1,x2⟩,xc⟩:=x
   obtain⟨gk,rfl⟩:∃g,gk=g+1:=⟨R.length,by simpa using qy.symm⟩
   have hxe:=HX.out
   have hxi:xs[A1.length]?=some ((x1,x2),xc):=by rw[hxe];simp
   have hlt:A1.length<xs.length:=(List.getElem?_eq_some_iff.1 hxi).1
   have hat:=Xd.out.at hxe
   simp only at hat
   have hkey:lD x1/\lD x2:=Xd.out.key ((x1,x2),xc) (by rw[hxe];simp)
   have hov:=HF.out.own HV.out (fun g hg=>HSP.out g hg)
   obtain⟨g0,hA,hg0,hg1,hg2,hg3,hg4⟩:=gz hov (by omega)
   have e0:=hg3 _ _ (sD hxi).1
   have e1:=hg3 _ _ (sD hxi).2.1
   have e2:=hg3 _ _ (sD hxi).2.2
   have hW1:Below wr.heap.size wr (wr.alloc (.cells #[.int .i64 x1,.int .i64 x2,.int .i64 xc] TG)):=(Below.refl _ wr).alloc (Nat.le_refl _) _
   have OU:=HC.out.below hW1
   have hM1:=HM.out.alloc (.cells #[.int .i64 x1,.int .i64 x2,.int .i64 xc] TG)
   have hB1:=dw HB.out (.cells #[.int .i64 x1,.int .i64 x2,.int .i64 xc] TG)
   have hT1:=bG wr (.cells #[.int .i64 x1,.int .i64 x2,.int .i64 xc] TG)
   have b0:(wr.alloc (.cells #[.int .i64 x1,.int .i64 x2,.int .i64 xc] TG)).cell? ⟨w.heap.size,0,none⟩=some (.pointer (some ⟨b,0,none⟩)):=aj hB1 0
   have hok:ou.ok (x1,x2):=hkey
   have hlk:=hM1.Qo hok
   have hadd:∀W,xq B W b (upto f A1 k) (n+A1.length) S1->Calls Tryz.prog 173 #[.pointer (some ⟨b,0,none⟩),pv (x1,x2),.int .i64 xc,.int .i64 k] W fun e w'=>e= .returned (.int .i64 0)/\∃S',xq B w' b (upto f (A1++[((x1,x2),xc)]) k) (n+(A1++[((x1,x2),xc)]).length) S'/\Fr S1 W w'/\Into W S1 S':=fun W hC=>by
    have h1:=Xd.out.small (x1,x2)
    have h2:=Xd.out.prod (x1,x2)
    have h3:=Xd.out.new (x1,x2)
    rw[<-hat.1] at h1 h2 h3
    have:=cnt_add hC (by omega) hkey (c:=xc) (k:=k) h1 Xd.out.k0 h2.2 h2.1 (by rw[hat.2];exact h3.1) (by rw[hat.2];exact h3.2)
    rw[WC]
    simpa[Nat.add_assoc] using this
   have fin:∀(W w2:World) (Di:List (P2×Int)) (S2:Nat->Prop),Fr S w W->wr.heap.size<=W.heap.size->mp ou W (w.heap.size+1) Di->Di.length<=A1.length+1->W.heap[w.heap.size]?=some (.cells #[.pointer (some ⟨b,0,none⟩)] 192 (0,0))->
     xq B w2 b (upto f (A1++[((x1,x2),xc)]) k) (n+(A1++[((x1,x2),xc)]).length) S2->Fr S1 W w2->Into W S1 S2->
     Hid (xs=(A1++[((x1,x2),xc)])++R)/\Hid (xq B w2 b (upto f (A1++[((x1,x2),xc)]) k) (n+(A1++[((x1,x2),xc)]).length) S2)/\Hid (mp ou w2 (w.heap.size+1) Di)/\Hid (Di.length<=(A1++[((x1,x2),xc)]).length)/\Hid (w2.heap[w.heap.size]?=some (.cells #[.pointer (some ⟨b,0,none⟩)] 192 (0,0)))/\Hid (Fr S w w2)/\Hid (Into w S S2)/\Hid (w.heap.size+2<=w2.heap.size)/\Hid (¬S2 w.heap.size/\¬S2 (w.heap.size+1)):=fun W w2 Di S2 a1 a2 a3 a4 a5 a6 a7 a8=>by
    have z1:=HZ.out
    have z2:=a7.size
    refine⟨Lib.hid (by rw[hxe];simp),Lib.hid a6,Lib.hid (a3.same (a7.blk _ a3.lt HD.out.2)),Lib.hid (by simpa using a4),Lib.hid (a7.heap a5 HD.out.1),Lib.hid (a1.trans a7 HI.out),Lib.hid (HI.out.trans a8 a1.size),Lib.hid (by omega),Lib.hid ⟨fun h=>?_,fun h=>?_⟩⟩
    ·rcases a8 _ h with h|h
     ·exact HD.out.1 h
     ·omega
    ·rcases a8 _ h with h|h
     ·exact HD.out.2 h
     ·omega
   have HADD:=Lib.hid hadd
   have HFIN:=Lib.hid fin
   have HT1:=Lib.hid (And.intro OU (And.intro hM1 (And.intro hB1 hT1)))
   have HHAT:=Lib.hid hat
   clear hadd fin OU hM1 hB1 hT1 hov hg3 hg4 hxe hxi hW1 hat
   subst hA
   cases hi:(Mp.get wm (x1,x2)).isSome with
   |true=>
    rw[hi] at hlk
    generalize (Mp.get wm (x1,x2)).getD ou.z=nn at hlk
    have MM:(Instr.lookup 207 (.map (some (w.heap.size+1))) (.agg #[.int .i64 x1,.int .i64 x2]) true).run Tryz.prog (wr.alloc (.cells #[.int .i64 x1,.int .i64 x2,.int .i64 xc] TG))= .ok (.tuple #[.int .i64 nn,.bool true]) (wr.alloc (.cells #[.int .i64 x1,.int .i64 x2,.int .i64 xc] TG)):=hlk
    clear hlk
    go_wp2_with (go_at_call 173;refine(HADD.out _ HT1.out.1).mono ?_;rintro e w2 ⟨rfl,S2,hC2,hF2,hI2⟩;have H2:=Lib.hid (And.intro hC2 (And.intro hF2 hI2));clear hC2 hF2 hI2)
    obtain⟨hC2,hF2,hI2⟩:=H2.out
    go_roundg R.length
    case measure=>simp at qy;omega
    case rel=>exact⟨A1++[((x1,x2),xc)],R,wm,S2,by simp,rfl,HFIN.out _ w2 wm S2 (HF.out.alloc _) (by simp) HT1.out.2.1 (by have:=HL.out;omega) HT1.out.2.2.1 hC2 hF2 hI2⟩
   |false=>
    rw[hi] at hlk
    generalize (Mp.get wm (x1,x2)).getD ou.z=nn at hlk
    have MM:(Instr.lookup 207 (.map (some (w.heap.size+1))) (.agg #[.int .i64 x1,.int .i64 x2]) true).run Tryz.prog (wr.alloc (.cells #[.int .i64 x1,.int .i64 x2,.int .i64 xc] TG))= .ok (.tuple #[.int .i64 nn,.bool false]) (wr.alloc (.cells #[.int .i64 x1,.int .i64 x2,.int .i64 xc] TG)):=hlk
    clear hlk
    go_wp2_with fail
    have ht:=HT1.out
    have hfw:=HF.out.alloc (.cells #[.int .i64 x1,.int .i64 x2,.int .i64 xc] TG)
    have hsz:wr.heap.size<=(wr.alloc (.cells #[.int .i64 x1,.int .i64 x2,.int .i64 xc] TG)).heap.size:=by simp
    clear HT1 b0 MM hg1 e0 e1 e2
    generalize wr.alloc (.cells #[.int .i64 x1,.int .i64 x2,.int .i64 xc] TG)=W1 at ht hfw hsz ⊢
    obtain⟨OU,hM1,hB1,hT1⟩:=ht
    have b0:W1.cell? ⟨w.heap.size,0,none⟩=some (.pointer (some ⟨b,0,none⟩)):=aj hB1 0
    have t0:W1.cell? ⟨wr.heap.size,0,none⟩=some (.int .i64 x1):=aj hT1 0
    have t1:W1.cell? ⟨wr.heap.size,1,none⟩=some (.int .i64 x2):=aj hT1 1
    have hC1d:xq B W1.drew b (upto f A1 k) (n+A1.length) S1:=OU.same fun _ _=>rfl
    have hget:=Je hC1d (p:=(x1,x2)) hkey
    have hB1d:W1.drew.heap[w.heap.size]?=some (.cells #[.pointer (some ⟨b,0,none⟩)] 192 (0,0)):=hB1
    have hT1d:W1.drew.heap[wr.heap.size]?=some (.cells #[.int .i64 x1,.int .i64 x2,.int .i64 xc] TG (0,0)):=hT1
    have hfwd:Fr S w W1.drew:=hfw.drew
    have hszd:wr.heap.size<=W1.drew.heap.size:=hsz
    generalize upto f A1 k (x1,x2)=gv at hget
    have HT:=Lib.hid (And.intro hC1d (And.intro hM1.drew (And.intro hB1d (And.intro hT1d (And.intro hfwd hszd)))))
    clear OU hM1 hB1 hT1 hC1d hB1d hT1d hfwd hszd hfw hsz
    go_region_with (go_at_call 119;refine hget.mono ?_;rintro e w2 ⟨rfl,hB2⟩;have ht2:=(hB2.block _ (bA HT.out.2.2.2.1)).trans HT.out.2.2.2.1;have p0:w2.cell? ⟨wr.heap.size,0,none⟩=some (.int .i64 x1):=aj ht2 0;have p1:w2.cell? ⟨wr.heap.size,1,none⟩=some (.int .i64 x2):=aj ht2 1;have hM2:=HT.out.2.1.same (hB2.block _ HT.out.2.1.lt);obtain⟨w3,hst,sH,BP⟩:=hM2.store (by have:=HL.out;unfold maxLen;omega) hok gv;have e9:(Instr.mapUpdate 207 (.map (some (w.heap.size+1))) (.agg #[.int .i64 x1,.int .i64 x2]) (.int .i64 gv)).run Tryz.prog w2= .ok () w3:=hst;have HR:=Lib.hid (And.intro hB2 (And.intro sH (jI BP)));clear hB2 hM2 hst sH BP ht2)
    all_goals
     clear p0 p1 e9
     obtain⟨hB2,sH,qR⟩:=HR.out
     obtain⟨OU,hM1,hB1,hT1,hfw,hsz⟩:=HT.out
     have hb3:=qR.heap ((hB2.block _ (bA hB1)).trans hB1) (by omega)
     have ht3:=qR.heap ((hB2.block _ (bA hT1)).trans hT1) (by have:=HZ.out;omega)
     have hC3:=(OU.below hB2).fr qR (fun k h1 h2=>HD.out.2 (by rw[<-h1];exact h2))
     have hfw3:=(hfw.below hB2).trans qR (fun i hi=> .inr (by omega))
     have Zf:wr.heap.size<=w3.heap.size:=by have:=hB2.size;have:=qR.size;omega
     have b3:w3.cell? ⟨w.heap.size,0,none⟩=some (.pointer (some ⟨b,0,none⟩)):=aj hb3 0
     have u0:w3.cell? ⟨wr.heap.size,0,none⟩=some (.int .i64 x1):=aj ht3 0
     have u1:w3.cell? ⟨wr.heap.size,1,none⟩=some (.int .i64 x2):=aj ht3 1
     have u2:w3.cell? ⟨wr.heap.size,2,none⟩=some (.int .i64 xc):=aj ht3 2
     have HK:=Lib.hid (And.intro sH (And.intro hb3 (And.intro hC3 (And.intro hfw3 Zf))))
     clear hB2 sH qR OU hM1 hB1 hT1 hfw hsz hb3 ht3 hC3 hfw3 Zf HR
     go_wp2_with (go_at_call 173;refine(HADD.out _ HK.out.2.2.1).mono ?_;rintro e w4 ⟨rfl,S2,hC2,hF2,hI2⟩;have H2:=Lib.hid (And.intro hC2 (And.intro hF2 hI2));clear hC2 hF2 hI2)
     obtain⟨hC2,hF2,hI2⟩:=H2.out
     go_roundg R.length
     case measure=>simp at qy;omega
     case rel=>exact⟨A1++[((x1,x2),xc)],R,Mp.put wm (x1,x2) gv,S2,by simp,rfl,HFIN.out w3 w4 _ S2 HK.out.2.2.2.1 HK.out.2.2.2.2 HK.out.1 (by have:=HL.out;have:=jO (m:=wm) (a:=(x1,x2)) (u:=gv);omega) HK.out.2.1 hC2 hF2 hI2⟩
end Go.Proofs.YtilpincgjlclpaaGreat.Ob
end
section
namespace Go.Proofs.YtilpincgjlclpaaGreat.Ob
open Go Go.RowKit Bs Mp jL
abbrev TS:Nat:=249
abbrev TC:Nat:=251
structure uU (B:Nat) (w:World) (b:Nat) (v:Value) (row:List C3) (L:List NI):Prop where
 lo:B<=b
 blk:w.heap[b]?=some (.cells #[v,.int .i64 (Hl L (-1)),.int .i64 (L.length:Int)] TS (0,0))
 own:w.ownsRow B TC 3 v row.length (rc row)
 Px:IW row (-1) L (-1)
 nod:(L.map Prod.fst).Nodup
 len:row.length<=1000
 sym:∀x∈L,0<=x.2/\x.2<=1000000
def Sq (B:Nat) (w:World) (b:Nat) (W:List Int) (S:Nat->Prop):Prop:=∃v row L,uU B w b v row L/\W=L.map Prod.snd/\S=fun k=>k=b\/v.ownBlock=some k
theorem uU.oq {B b:Nat} {w:World} {v:Value} {row:List C3} {L:List NI} (h:uU B w b v row L):In B w (fun k=>k=b\/v.ownBlock=some k):=fun k hk=>by
 rcases hk with rfl|hk
 ·exact⟨h.lo,bA h.blk⟩
 ·exact eG h.own hk
theorem uU.same {B b:Nat} {w w':World} {v:Value} {row:List C3} {L:List NI} (h:uU B w b v row L) (he:∀k,(k=b\/v.ownBlock=some k)->w'.heap[k]?=w.heap[k]?):uU B w' b v row L:=by
 obtain⟨lo,blk,own,r1,r2,r3,r4⟩:=h
 refine⟨lo,(he b (.inl rfl)).trans blk,?_,r1,r2,r3,r4⟩
 obtain⟨h1,h2⟩:=own
 refine⟨h1,?_⟩
 rcases h2 with h2|⟨g,cap,cur,rfl,hg,hh,r⟩
 ·exact .inl h2
 ·exact .inr ⟨g,cap,cur,rfl,hg,(he g (.inr rfl)).trans hh,r⟩
theorem Sq.oq {B b:Nat} {w:World} {W:List Int} {S:Nat->Prop} (h:Sq B w b W S):In B w S:=by
 obtain⟨v,row,L,h,_,rfl⟩:=h
 exact h.oq
theorem Sq.same {B b:Nat} {w w':World} {W:List Int} {S:Nat->Prop} (h:Sq B w b W S) (he:∀k,S k->w'.heap[k]?=w.heap[k]?):Sq B w' b W S:=by
 obtain⟨v,row,L,h,hW,rfl⟩:=h
 exact⟨v,row,L,h.same he,hW,rfl⟩
def uC (s:Int) (C:List NI):Option P2:=C.head?.map fun x=>(s,x.2)
def At (L:List NI) (i:Int) (o:Option P2):Prop:=i= -1/\o=none\/∃(j:Nat) (A:List NI) (s:Int) (C:List NI),i=j/\L=A++(j,s)::C/\o=uC s C
section
variable {B b:Nat} {w w':World} {v:Value} {row:List C3} {L:List NI}
theorem uU.below (h:uU B w b v row L) (f:Below w.heap.size w w'):uU B w' b v row L:=h.same fun k hk=>f.block k (h.oq k hk).2
theorem uU.fr {T:Nat->Prop} (h:uU B w b v row L) (f:Fr T w w') (d:∀k,(k=b\/v.ownBlock=some k)->¬T k):uU B w' b v row L:=h.same fun k hk=>f.blk k (h.oq k hk).2 (d k hk)
theorem uU.cells (h:uU B w b v row L) {i:Nat} {x:C3} (hi:row[i]?=some x):∃g cap,v= .slice (some ⟨g,0,none⟩) row.length cap/\i<row.length/\row.length<=cap/\g≠b/\g<w.heap.size/\B<=g/\
  w.cell? ⟨g,i*3,none⟩=some (.int .i64 x.1)/\w.cell? ⟨g,i*3+1,none⟩=some (.int .i64 x.2.1)/\w.cell? ⟨g,i*3+2,none⟩=some (.int .i64 x.2.2)/\∀j,w.frozen? ⟨g,j,none⟩=false:=by
 have hlt:=(List.getElem?_eq_some_iff.1 hi).1
 have hne:=Bs.own_ne h.own h.blk (show TS≠TC by decide)
 obtain⟨A,c,rfl⟩:=Bs.bU h.own
 obtain⟨g,rfl,hg,hgl,hcap,hc,hfz⟩:=gz h.own (by omega)
 obtain⟨c0,c1,c2⟩:=Uf hi
 exact⟨g,c,rfl,hlt,hcap,fun e=>hne (by simp[Value.ownBlock,e]),hgl,hg,hc _ _ c0,hc _ _ c1,hc _ _ c2,hfz⟩
end
theorem Ub (w:World) (x y:Value) (t:TypeId):(w.alloc (.cells #[x,y] t)).cell? ⟨w.heap.size,0,none⟩=some x:=aj (bG w _) 0
theorem Uc (w:World) (x y:Value) (t:TypeId):(w.alloc (.cells #[x,y] t)).cell? ⟨w.heap.size,1,none⟩=some y:=aj (bG w _) 1
theorem pair_d0 (w:World) (x y:Value) (t:TypeId):(w.alloc (.cells #[x,y] t)).drew.cell? ⟨w.heap.size,0,none⟩=some x:=aj (bG w _) 0
theorem pair_d1 (w:World) (x y:Value) (t:TypeId):(w.alloc (.cells #[x,y] t)).drew.cell? ⟨w.heap.size,1,none⟩=some y:=aj (bG w _) 1
set_option maxHeartbeats 1000000 in
set_option maxRecDepth 100000 in
theorem Oc {B b:Nat} {w:World} {v:Value} {row:List C3} {L:List NI} (h:uU B w b v row L) {i:Int} {o:Option P2} (ha:At L i o):
  Calls Tryz.prog 155 #[.pointer (some ⟨b,0,none⟩),.int .i64 i] w fun e w'=>e= .returned (.tuple #[pv (o.getD (0,0)),.bool o.isSome])/\Below w.heap.size w w':=by
 have hb:=h.blk
 rcases ha with⟨rfl,rfl⟩|⟨j,A,s,C,rfl,rfl,rfl⟩
 ·go_enter Tryz.func155,Tryz.ntmps155
  go_wp2
  exact bodyPost_ret (v:= .tuple #[.agg #[.int .i64 0,.int .i64 0],.bool false]) (by simp[results,Tryz.results155,go_sem,Ub,Uc]) rfl ⟨rfl,(Below.refl _ _).alloc (Nat.le_refl _) _⟩
 ·have h0:=h
  replace h:=h.below ((Below.refl _ _).alloc (Nat.le_refl _) (.cells #[.int .i64 0,.int .i64 0] 160))
  replace hb:=h.blk
  have hat:=h.Px.at
  simp only at hat
  obtain⟨g,cap,rfl,hj,hcap,hgb,hgl,hgB,c0,c1,c2,hfz⟩:=h.cells hat
  have cb:(w.alloc (.cells #[.int .i64 0,.int .i64 0] 160)).cell? ⟨b,0,none⟩=some (.slice (some ⟨g,0,none⟩) row.length cap):=aj hb 0
  have hj0:decide ((j:Int)<0)=false:=decide_eq_false (by omega)
  have hlen:=h.len
  cases C with
  |nil=>
   have c2':(w.alloc (.cells #[.int .i64 0,.int .i64 0] 160)).cell? ⟨g,j*3+2,none⟩=some (.int .i64 (-1)):=c2
   clear c2 hat h hb h0
   go_enter Tryz.func155,Tryz.ntmps155
   go_wp2
   exact bodyPost_ret (v:= .tuple #[.agg #[.int .i64 0,.int .i64 0],.bool false]) (by simp[results,Tryz.results155,go_sem,Ub,Uc]) rfl ⟨rfl,(Below.refl _ _).alloc (Nat.le_refl _) _⟩
  |cons k C=>
   have hk0:=h.Px
   rw[show A++(j,s)::k::C=(A++[(j,s)])++k::C by simp] at hk0
   obtain⟨g',cap',e',hk,_,_,_,_,d0,_,_,_⟩:=h.cells hk0.at
   have eg:g'=g:=by simp at e';exact e'.1.symm
   rw[eg] at d0
   have c2':(w.alloc (.cells #[.int .i64 0,.int .i64 0] 160)).cell? ⟨g,j*3+2,none⟩=some (.int .i64 (k.1:Int)):=c2
   obtain⟨k,t⟩:=k
   have hk1:decide ((k:Int)<0)=false:=decide_eq_false (by omega)
   simp only at hk d0 c2'
   clear c2 hat h hb e' eg hk0 h0
   go_enter Tryz.func155,Tryz.ntmps155
   go_wp2
   go_region
   go_wp2
   exact bodyPost_ret (v:= .tuple #[.agg #[.int .i64 s,.int .i64 t],.bool true]) (by simp[results,Tryz.results155,go_sem,Ub,Uc,pair_d0,pair_d1]) rfl ⟨rfl,((Below.refl _ _).alloc (Nat.le_refl _) _).drew⟩
def ui (d:P2->Int) (o:Option P2) (c:Int):P2->Int:=match o with
 |none=>d
 |some p=>bump d p c
theorem xC.below {B g n:Nat} {w w':World} {d:P2->Int} (h:xC B w g d n) (f:Below w.heap.size w w'):xC B w' g d n:=h.same (f.block g h.lt.2)
theorem xC.alloc {B g n:Nat} {w:World} {d:P2->Int} (h:xC B w g d n) (o:Obj):xC B (w.alloc o) g d n:=h.same (Below.heap_alloc w o g h.lt.2)
theorem uU.tK {B b g n:Nat} {w:World} {v:Value} {row:List C3} {L:List NI} {d:P2->Int} (h:uU B w b v row L) (hg:xC B w g d n):∀k,(k=b\/v.ownBlock=some k)->¬k=g:=fun k hk e=>by
 obtain⟨m,hM,_⟩:=hg.out
 subst e
 rcases hk with rfl|hk
 ·exact iQ h.blk hM rfl
 ·exact nO h.own hM hk
theorem At.i64 {B b:Nat} {w:World} {v:Value} {row:List C3} {L:List NI} (h:uU B w b v row L) {i:Int} {p:P2} (ha:At L i (some p)):lD p.1/\lD p.2:=by
 rcases ha with⟨_,e⟩|⟨j,A,s,C,_,rfl,e⟩
 ·cases e
 ·cases C with
  |nil=>cases e
  |cons k C=>
   simp only[uC,List.head?_cons,Option.map_some,Option.some.injEq] at e
   subst e
   have h1:=h.sym (j,s) (by simp)
   have h2:=h.sym k (by simp)
   simp only at h1 h2
   exact⟨lD.mk (by omega) (by omega),lD.mk (by omega) (by omega)⟩
set_option maxHeartbeats 1000000 in
set_option maxRecDepth 100000 in
theorem oo {B b g n:Nat} {w:World} {v:Value} {row:List C3} {L:List NI} {d:P2->Int} (h:uU B w b v row L) (hg:xC B w g d n) (hn:n<=1000000) {i:Int} {o:Option P2} (ha:At L i o) {c:Int} (hc:c=1\/c= -1):
  Calls Tryz.prog 143 #[.pointer (some ⟨b,0,none⟩),.map (some g),.int .i64 i,.int .i64 c] w fun e w'=>e= .returned (.tuple #[])/\xC B w' g (ui d o c) (n+1)/\Fr (fun k=>k=g) w w':=by
 have hp:=Oc h ha
 cases o with
 |none=>
  go_enter Tryz.func143,Tryz.ntmps143
  go_wp2_with (go_at_call 155;refine hp.mono ?_;rintro e w1 ⟨rfl,hB1⟩;have HB1:=Lib.hid hB1;clear hB1)
  go_end0
  exact⟨rfl,((hg.below HB1.out).alloc _).more (by omega),(Fr.dL HB1.out).alloc _⟩
 |some p=>
  have hi:=ha.i64 h
  obtain⟨p1,p2⟩:=p
  go_enter Tryz.func143,Tryz.ntmps143
  go_wp2_with (first
   |(go_at_call 155;refine hp.mono ?_;rintro e w1 ⟨rfl,hB1⟩;have HB1:=Lib.hid hB1;have hadd:=led_add ((hg.below hB1).alloc (.cells #[.int .i64 p1,.int .i64 p2] 160)) hn hi hc;clear hB1)
   |(go_at_call 175;refine hadd.mono ?_;rintro e w2 ⟨rfl,hL2,hF2⟩;have H2:=Lib.hid (And.intro hL2 hF2);clear hL2 hF2))
  go_end0
  exact⟨rfl,H2.out.1,((Fr.dL HB1.out).alloc _).trans H2.out.2 (fun i hi=> .inl hi)⟩
def prv (A:List NI) (s:Int):Option P2:=A.getLast?.map fun x=>(x.2,s)
theorem At.here (A:List NI) (i:Nat) (s:Int) (C:List NI):At (A++(i,s)::C) (i:Int) (uC s C):= .inr ⟨i,A,s,C,rfl,rfl,rfl⟩
theorem At.back (A:List NI) (i:Nat) (s:Int) (C:List NI):At (A++(i,s)::C) (Kn A (-1)) (prv A s):=by
 rcases List.eq_nil_or_concat A with rfl|⟨A',k,rfl⟩
 ·exact .inl ⟨rfl,rfl⟩
 ·rw[List.concat_eq_append]
  refine .inr ⟨k.1,A',k.2,(i,s)::C,by rw[yl];rfl,by simp,?_⟩
  unfold prv
  rw[List.getLast?_append]
  rfl
theorem wI (d:P2->Int) (s:Int) (C:List NI) (c:Int) (q:P2):ui d (uC s C) c q=d q+c*link q (some s) (C.map Prod.snd).head?:=by
 cases C with
 |nil=>simp[uC,ui]
 |cons k C=>
  show d q+(if q=(s,k.2) then c else 0)=_
  rw[List.map_cons,List.head?_cons,lH]
  by_cases h:q=(s,k.2)
  ·rw[if_pos h,if_pos (by rw[h];exact⟨rfl,rfl⟩)];omega
  ·rw[if_neg h,if_neg (fun g=>h (Prod.ext g.1.symm g.2.symm))];omega
theorem GL (d:P2->Int) (s:Int) (A:List NI) (c:Int) (q:P2):ui d (prv A s) c q=d q+c*link q (A.map Prod.snd).getLast? (some s):=by
 unfold prv
 rw[List.getLast?_map]
 cases A.getLast? with
 |none=>simp[ui]
 |some k=>
  show d q+(if q=(k.2,s) then c else 0)=_
  rw[Option.map_some,lH]
  by_cases h:q=(k.2,s)
  ·rw[if_pos h,if_pos (by rw[h];exact⟨rfl,rfl⟩)];omega
  ·rw[if_neg h,if_neg (fun g=>h (Prod.ext g.1.symm g.2.symm))];omega
def Tv (d:P2->Int) (A C:List NI) (a t s:Int):P2->Int:=ui (ui (ui (ui (ui d (prv A a) (-1)) (some (a,t)) (-1)) (uC t C) (-1)) (prv A s) 1) (uC s C) 1
theorem Zr (d:P2->Int) (A C:List NI) (i j:Nat) (a t s:Int) (q:P2):Tv d A C a t s q=d q+jy q ((A++(i,s)::C).map Prod.snd)-jy q ((A++(i,a)::(j,t)::C).map Prod.snd):=by
 unfold Tv
 have h1:∀e:P2->Int,ui e (some (a,t)) (-1) q=e q+(-1)*link q (some a) (some t):=fun e=>wI e a ((j,t)::C) (-1) q
 rw[wI,GL,wI,h1,GL]
 simp only[List.map_append,List.map_cons]
 rw[ZR (A.map Prod.snd) (C.map Prod.snd) a t s]
 omega
end Go.Proofs.YtilpincgjlclpaaGreat.Ob
end
section
namespace Go.Proofs.YtilpincgjlclpaaGreat.Ob
open Go Go.RowKit Bs Mp jL
theorem zH:∀(n:Nat) (l:List Nat),l.Nodup->(∀x∈l,x<n)->l.length<=n
 |0,l,_,hl=>by
  cases l with
  |nil=>simp
  |cons x l=>have:=hl x (by simp);omega
 |n+1,l,h,hl=>by
  have h1:=zH n (l.erase n) (h.erase n) (fun x hx=>by
   rw[List.Nodup.mem_erase_iff h] at hx
   have:=hl x hx.2
   have:=hx.1
   omega)
  rw[List.length_erase] at h1
  split at h1<;>omega
theorem Bh {A:List NI} {n:Nat} (h:(A.map Prod.fst).Nodup) (hl:∀x∈A,x.1<n):A.length<=n:=by
 have:=zH n (A.map Prod.fst) h (fun x hx=>by obtain⟨y,hy,rfl⟩:=List.mem_map.1 hx;exact hl y hy)
 simpa using this
theorem uU.drew {B b:Nat} {w:World} {v:Value} {row:List C3} {L:List NI} (h:uU B w b v row L):uU B w.drew b v row L:=h.same fun _ _=>rfl
theorem xC.drew {B g n:Nat} {w:World} {d:P2->Int} (h:xC B w g d n):xC B w.drew g d n:=h.same rfl
theorem fr_join {g b g0 n cap:Nat} {w w3:World} (h:Fr (fun k=>k=g\/k=b\/(Value.slice (some ⟨g0,0,none⟩) n cap).ownBlock=some k) w w3) (x1 x2 x3:Nat) (u1 u2 u3:Value):
  Fr (fun k=>k=g\/k=b\/(Value.slice (some ⟨g0,0,none⟩) n cap).ownBlock=some k) w (((w3.setCell ⟨g0,x1,none⟩ u1).setCell ⟨g0,x2,none⟩ u2).setCell ⟨b,x3,none⟩ u3).drew:=
 (((h.set (p:=⟨g0,x1,none⟩) (.inl (.inr (.inr rfl))) u1).set (p:=⟨g0,x2,none⟩) (.inl (.inr (.inr rfl))) u2).set (p:=⟨b,x3,none⟩) (.inl (.inr (.inl rfl))) u3).drew
theorem YB {g b g0 n cap:Nat} {w w3:World} (h:Fr (fun k=>k=g\/k=b\/(Value.slice (some ⟨g0,0,none⟩) n cap).ownBlock=some k) w w3) (x1 x2 x3 x4:Nat) (u1 u2 u3 u4:Value):
  Fr (fun k=>k=g\/k=b\/(Value.slice (some ⟨g0,0,none⟩) n cap).ownBlock=some k) w ((((w3.setCell ⟨g0,x1,none⟩ u1).setCell ⟨g0,x2,none⟩ u2).setCell ⟨g0,x4,none⟩ u4).setCell ⟨b,x3,none⟩ u3).drew:=
 ((((h.set (p:=⟨g0,x1,none⟩) (.inl (.inr (.inr rfl))) u1).set (p:=⟨g0,x2,none⟩) (.inl (.inr (.inr rfl))) u2).set (p:=⟨g0,x4,none⟩) (.inl (.inr (.inr rfl))) u4).set (p:=⟨b,x3,none⟩) (.inl (.inr (.inl rfl))) u3).drew
theorem YC {g:Nat} {T:Nat->Prop} {w w3 w5 w6:World} (h:Fr T w w3) (hT:T g) (h5:Fr (fun k=>k=g) w3 w5) (h6:Fr (fun k=>k=g) w5 w6):Fr T w w6:=(h.trans h5 (fun k hk=> .inl (by rw[hk];exact hT))).trans h6 (fun k hk=> .inl (by rw[hk];exact hT))
section
variable {B b i j g0 cap:Nat} {w:World} {row:List C3} {A C:List NI} {a t s:Int}
theorem zL (h:w.ownsRow B TC 3 (.slice (some ⟨g0,0,none⟩) row.length cap) row.length (rc row)) {x:C3} (hx:row[i]?=some x) (s o:Int):
  ((w.setCell ⟨g0,i*3,none⟩ (.int .i64 s)).setCell ⟨g0,i*3+2,none⟩ (.int .i64 o)).ownsRow B TC 3 (.slice (some ⟨g0,0,none⟩) row.length cap) row.length (rc (row.set i (s,x.2.1,o))):=by
 have h1:=tO h (i*3) (.int .i64 s)
 rw[(yx hx s).1] at h1
 have h2:=tO h1 (i*3+2) (.int .i64 o)
 have hx2:(row.set i (s,x.2.1,x.2.2))[i]?=some (s,x.2.1,x.2.2):=List.getElem?_set_self (List.getElem?_eq_some_iff.1 hx).1
 rw[(yx hx2 o).2.2,List.set_set] at h2
 exact h2
theorem Hm (e:Int):Hl (A++(i,s)::C) e=Hl (A++(i,a)::(j,t)::C) e:=by rw[yf,yf];rfl
theorem uU.join_nil (h:uU B w b (.slice (some ⟨g0,0,none⟩) row.length cap) row (A++(i,a)::(j,t)::[])) (hgb:g0≠b) (hs:0<=s/\s<=1000000) {M:Int} (hM:M=((A++(i,s)::[]).length:Int)):
  uU B (((w.setCell ⟨g0,i*3,none⟩ (.int .i64 s)).setCell ⟨g0,i*3+2,none⟩ (.int .i64 (-1))).setCell ⟨b,2,none⟩ (.int .i64 M)) b (.slice (some ⟨g0,0,none⟩) row.length cap) (wZ row i s (Kn A (-1)) [] (-1)) (A++(i,s)::[]):=by
 have hat:=h.Px.at (x:=(i,a))
 refine⟨h.lo,?_,?_,h.Px.join h.nod,EC h.nod s,by rw[kY];exact h.len,fun x hx=>?_⟩
 ·have:=heap_set (dI (dI h.blk (p:=⟨g0,i*3,none⟩) (fun e=>hgb e.symm) (.int .i64 s)) (p:=⟨g0,i*3+2,none⟩) (fun e=>hgb e.symm) (.int .i64 (-1))) 2 (.int .i64 M)
  rw[Hm (a:=a) (j:=j) (t:=t),<-hM]
  simpa using this
 ·rw[kY]
  exact iq (zL h.own hat s (-1)) (by simp[Value.ownBlock];exact hgb) _
 ·rcases List.mem_append.1 hx with hx|hx
  ·exact h.sym x (List.mem_append_left _ hx)
  ·rcases List.mem_cons.1 hx with rfl|hx
   ·exact hs
   ·simp at hx
theorem uU.join_cons {k:NI} (h:uU B w b (.slice (some ⟨g0,0,none⟩) row.length cap) row (A++(i,a)::(j,t)::k::C)) (hgb:g0≠b) (hs:0<=s/\s<=1000000) {M:Int} (hM:M=((A++(i,s)::k::C).length:Int)):
  uU B ((((w.setCell ⟨g0,i*3,none⟩ (.int .i64 s)).setCell ⟨g0,i*3+2,none⟩ (.int .i64 (k.1:Int))).setCell ⟨g0,k.1*3+1,none⟩ (.int .i64 (i:Int))).setCell ⟨b,2,none⟩ (.int .i64 M)) b (.slice (some ⟨g0,0,none⟩) row.length cap) (wZ row i s (Kn A (-1)) (k::C) (-1)) (A++(i,s)::k::C):=by
 have hat:=h.Px.at (x:=(i,a))
 have hak:=h.Px
 rw[show A++(i,a)::(j,t)::k::C=(A++[(i,a),(j,t)])++k::C by simp] at hak
 replace hak:=hak.at
 have hn:=h.nod
 rw[List.map_append,List.map_cons,List.map_cons,List.map_cons,List.nodup_append] at hn
 have hik:i≠k.1:=fun e=>by
  have:=hn.2.1
  rw[List.nodup_cons] at this
  exact this.1 (by simp[e])
 refine⟨h.lo,?_,?_,h.Px.join h.nod,EC h.nod s,by rw[kY];exact h.len,fun x hx=>?_⟩
 ·have:=heap_set (dI (dI (dI h.blk (p:=⟨g0,i*3,none⟩) (fun e=>hgb e.symm) (.int .i64 s)) (p:=⟨g0,i*3+2,none⟩) (fun e=>hgb e.symm) (.int .i64 (k.1:Int))) (p:=⟨g0,k.1*3+1,none⟩) (fun e=>hgb e.symm) (.int .i64 (i:Int))) 2 (.int .i64 M)
  rw[Hm (a:=a) (j:=j) (t:=t),<-hM]
  simpa using this
 ·rw[kY]
  refine iq ?_ (by simp[Value.ownBlock];exact hgb) _
  have h2:=zL h.own hat s (k.1:Int)
  have hl:row.length=(row.set i (s,Kn A (-1),(k.1:Int))).length:=by simp
  rw[hl] at h2
  have h3:=tO h2 (k.1*3+1) (.int .i64 (i:Int))
  rw[(yx (show(row.set i (s,Kn A (-1),(k.1:Int)))[k.1]?=some (k.2,(j:Int),Hl C (-1)) by
   rw[List.getElem?_set_ne hik,hak,yl];rfl) (i:Int)).2.1,<-hl] at h3
  exact h3
 ·rcases List.mem_append.1 hx with hx|hx
  ·exact h.sym x (List.mem_append_left _ hx)
  ·rcases List.mem_cons.1 hx with rfl|hx
   ·exact hs
   ·exact h.sym x (List.mem_append_right _ (List.mem_cons_of_mem _ (List.mem_cons_of_mem _ hx)))
end
set_option maxHeartbeats 2000000 in
set_option maxRecDepth 100000 in
theorem aaq {B b g n i j:Nat} {w:World} {v:Value} {row:List C3} {A C:List NI} {a t s:Int} {d:P2->Int} (h:uU B w b v row (A++(i,a)::(j,t)::C)) (hg:xC B w g d n) (hn:n<=100000) (hs:0<=s/\s<=1000000):
  Calls Tryz.prog 156 #[.pointer (some ⟨b,0,none⟩),.map (some g),.int .i64 i,.int .i64 s] w fun e w'=>e= .returned (.tuple #[])/\uU B w' b v (wZ row i s (Kn A (-1)) C (-1)) (A++(i,s)::C)/\xC B w' g (Tv d A C a t s) (n+5)/\Fr (fun k=>k=g\/k=b\/v.ownBlock=some k) w w':=by
 have hat:=h.Px.at (x:=(i,a))
 simp only at hat
 obtain⟨g0,cap,rfl,hi,hcap,hgb,hgl,hgB,c0,c1,c2,hfz⟩:=h.cells hat
 have cb:w.cell? ⟨b,0,none⟩=some (.slice (some ⟨g0,0,none⟩) row.length cap):=aj h.blk 0
 have c2':w.cell? ⟨g0,i*3+2,none⟩=some (.int .i64 (j:Int)):=c2
 have hlen:=h.len
 have hN1:=oo h.drew hg.drew (by omega) (At.back A i a ((j,t)::C)) (.inr rfl:(-1:Int)=1\/(-1:Int)= -1)
 have hd0:=h.tK hg
 clear c2 hat c0
 go_enter Tryz.func156,Tryz.ntmps156
 go_wp2_with fail
 go_region
 go_wp2_with fail
 refine hN1.mono ?_
 rintro e w1 ⟨rfl,hL1,hF1⟩
 have h1:=h.drew.fr hF1 hd0
 have hd1:=h1.tK hL1
 have hN2:=oo h1 hL1 (by omega) (At.here A i a ((j,t)::C)) (.inr rfl:(-1:Int)=1\/(-1:Int)= -1)
 go_wp2_with fail
 refine hN2.mono ?_
 rintro e w2 ⟨rfl,hL2,hF2⟩
 have h2:=h1.fr hF2 hd1
 have hd2:=h2.tK hL2
 have hL3:A++(i,a)::(j,t)::C=(A++[(i,a)])++(j,t)::C:=by simp
 have hN3:=oo h2 hL2 (by omega) (by rw[hL3];exact At.here (A++[(i,a)]) j t C) (.inr rfl:(-1:Int)=1\/(-1:Int)= -1)
 go_wp2_with fail
 refine hN3.mono ?_
 rintro e w3 ⟨rfl,hL3',qR⟩
 have h3:=h2.fr qR hd2
 have hd3:=h3.tK hL3'
 have Vx:=h3.Px
 rw[hL3] at Vx
 replace Vx:=Vx.at
 simp only at Vx
 obtain⟨g0',cap',e',hj,_,_,_,_,d0,d1,d2,_⟩:=h3.cells Vx
 have eg:g0'=g0:=by simp at e';exact e'.1.symm
 rw[eg] at d0 d1 d2
 obtain⟨g0'',cap'',e'',_,_,_,_,_,a0,a1,a2,hfz3⟩:=h3.cells (h3.Px.at (x:=(i,a)))
 have eg':g0''=g0:=by simp at e'';exact e''.1.symm
 rw[eg'] at a0 a1 a2 hfz3
 have cb3:w3.cell? ⟨b,0,none⟩=some (.slice (some ⟨g0,0,none⟩) row.length cap):=aj h3.blk 0
 obtain⟨M,hM⟩:∃M:Int,M=(((A++(i,a)::(j,t)::C).length:Nat):Int):=⟨_,rfl⟩
 have cm3:w3.cell? ⟨b,2,none⟩=some (.int .i64 M):=by rw[hM];exact aj h3.blk 2
 have hM1:wrap64 (M-1)=(((A++(i,s)::C).length:Nat):Int):=by
  have h8:=h3.nod
  have h9:(A++(i,a)::(j,t)::C).length<=row.length:=Bh h3.nod h3.Px.lt
  have:=h3.len
  rw[hM]
  simp only[List.length_append,List.length_cons] at h9 ⊢
  unfold wrap64
  omega
 have uG:=Lib.hid hM1
 clear hM hM1
 have fb3:=aX h3.blk 2
 have f30:=hfz3 (i*3)
 have f32:=hfz3 (i*3+2)
 have hFw:Fr (fun k=>k=g\/k=b\/(Value.slice (some ⟨g0,0,none⟩) row.length cap).ownBlock=some k) w w3:=(((Fr.refl _ w).drew.trans hF1 (fun k hk=> .inl (.inl hk))).trans hF2 (fun k hk=> .inl (.inl hk))).trans qR (fun k hk=> .inl (.inl hk))
 have H3:=Lib.hid (And.intro h3 (And.intro hL3' (And.intro hd3 hFw)))
 clear e' eg e'' eg' h1 h2 hL1 hL2 hF1 hF2 qR hd0 hd1 hd2 c1 c2' cb hN1 hN2 hN3 hfz3 hFw hd3 hL3' h3 hL3 Vx
 cases C with
 |nil=>
  have d2':w3.cell? ⟨g0,j*3+2,none⟩=some (.int .i64 (-1)):=d2
  clear d2
  go_wp2_with fail
  go_region
  go_wp2_with fail
  have h4:=(H3.out.1.join_nil hgb hs (M:=wrap64 (M-1)) uG.out).drew
  have hL4:xC B (((w3.setCell ⟨g0,i*3,none⟩ (.int .i64 s)).setCell ⟨g0,i*3+2,none⟩ (.int .i64 (-1))).setCell ⟨b,2,none⟩ (.int .i64 (wrap64 (M-1)))).drew g _ _:=H3.out.2.1.same (by
   have hd:=H3.out.2.2.1
   exact((Below.heap_setCell _ _ _ _ (fun e=>hd b (.inl rfl) e.symm)).trans (Below.heap_setCell _ _ _ _ (fun e=>hd g0 (.inr rfl) e.symm))).trans (Below.heap_setCell _ _ _ _ (fun e=>hd g0 (.inr rfl) e.symm)))
  refine(oo h4 hL4 (by omega) (At.back A i s []) (.inl rfl:(1:Int)=1\/(1:Int)= -1)).mono ?_
  rintro e w5 ⟨rfl,hL5,Gl⟩
  have h5:=h4.fr Gl (h4.tK hL4)
  go_wp2_with fail
  refine(oo h5 hL5 (by omega) (At.here A i s []) (.inl rfl:(1:Int)=1\/(1:Int)= -1)).mono ?_
  rintro e w6 ⟨rfl,hL6,Cm⟩
  have h6:=h5.fr Cm (h5.tK hL5)
  go_wp2_with fail
  go_end0
  refine⟨rfl,h6,hL6,?_⟩
  exact YC (fr_join H3.out.2.2.2 _ _ _ _ _ _) (.inl rfl) Gl Cm
 |cons k C=>
  have hak:=H3.out.1.Px
  rw[show A++(i,a)::(j,t)::k::C=(A++[(i,a),(j,t)])++k::C by simp] at hak
  replace hak:=hak.at
  obtain⟨g4,cap4,e4,hk,_,_,_,_,_,k1,_,JF⟩:=H3.out.1.cells hak
  have e4':g4=g0:=by simp at e4;exact e4.1.symm
  rw[e4'] at k1 JF
  have f31:=JF (k.1*3+1)
  have d2':w3.cell? ⟨g0,j*3+2,none⟩=some (.int .i64 (k.1:Int)):=d2
  obtain⟨k,u⟩:=k
  simp only at d2' hk k1 f31
  clear d2 hak e4 e4' JF
  go_wp2_with fail
  go_region
  go_wp2_with fail
  have h4:=(H3.out.1.join_cons (k:=(k,u)) hgb hs (M:=wrap64 (M-1)) uG.out).drew
  simp only at h4
  have hL4:xC B ((((w3.setCell ⟨g0,i*3,none⟩ (.int .i64 s)).setCell ⟨g0,i*3+2,none⟩ (.int .i64 (k:Int))).setCell ⟨g0,k*3+1,none⟩ (.int .i64 (i:Int))).setCell ⟨b,2,none⟩ (.int .i64 (wrap64 (M-1)))).drew g _ _:=H3.out.2.1.same (by
   have hd:=H3.out.2.2.1
   exact(((Below.heap_setCell _ _ _ _ (fun e=>hd b (.inl rfl) e.symm)).trans (Below.heap_setCell _ _ _ _ (fun e=>hd g0 (.inr rfl) e.symm))).trans (Below.heap_setCell _ _ _ _ (fun e=>hd g0 (.inr rfl) e.symm))).trans (Below.heap_setCell _ _ _ _ (fun e=>hd g0 (.inr rfl) e.symm)))
  refine(oo h4 hL4 (by omega) (At.back A i s ((k,u)::C)) (.inl rfl:(1:Int)=1\/(1:Int)= -1)).mono ?_
  rintro e w5 ⟨rfl,hL5,Gl⟩
  have h5:=h4.fr Gl (h4.tK hL4)
  go_wp2_with fail
  refine(oo h5 hL5 (by omega) (At.here A i s ((k,u)::C)) (.inl rfl:(1:Int)=1\/(1:Int)= -1)).mono ?_
  rintro e w6 ⟨rfl,hL6,Cm⟩
  have h6:=h5.fr Cm (h5.tK hL5)
  go_wp2_with fail
  go_end0
  refine⟨rfl,h6,hL6,?_⟩
  exact YC (YB H3.out.2.2.2 _ _ _ _ _ _ _ _) (.inl rfl) Gl Cm
end Go.Proofs.YtilpincgjlclpaaGreat.Ob
end
