import Derived.Test.YtilpincgjlclpaaGreatB25
import Derived.Test.YtilpincgjlclpaaGreatB9
set_option linter.unusedVariables false
set_option linter.unusedSimpArgs false
section
namespace Go.Proofs.YtilpincgjlclpaaGreat.Ob
open Go Go.RowKit Bs Mp jL Hp
open Go.Proofs.ae.au (iV)
open Tm (It St lI jd puts vQ Ak bt qM fK)
theorem uN.sym {B b ib tb qb nw fst ro cb ab tc n M zI:Nat} {w w':World} {bu mn li:Int} {vs vc:Value} {tg:Nat->Tag} {gF:List Nat} {am:List (P2×Value)} {rws:P2->List Nat} {cs:List Int} {s:St} {Sq So So':Nat->Prop} (h:uN B w b ib tb qb bu mn li nw fst ro vs vc cb ab tg gF am rws cs s tc n M zI Sq So) {p:P2} (hs:Sym B w' tb (fK s p).o So') (hF:Fr So w w') (hi:Into w So So'):uN B w' b ib tb qb bu mn li nw fst ro vs vc cb ab tg gF am rws cs {s with o:=(fK s p).o} tc n M zI Sq So':=by
 refine⟨h.lo,hF.heap h.blk h.nb.2.1,h.ix.fr hF h.s1.symm,h.cov,h.gd,hs,QuS.join (Qu.fr h.qu hF h.s3.symm) p,(h.s1.symm.into h.ix.oq hi).symm,h.s2,(h.s3.symm.into (Qu.oq h.qu) hi).symm,⟨h.nb.1,fun hk=>?_,h.nb.2.2⟩⟩
 rcases hi b hk with h1|h1
 ·exact h.nb.2.1 h1
 ·have:=bA h.blk;omega
theorem uN.index {B b ib tb qb nw fst ro cb ab tc n M zI tc' n' M':Nat} {w w':World} {bu mn li:Int} {vs vc:Value} {tg xy:Nat->Tag} {gF:List Nat} {am Lf:List (P2×Value)} {rws lS:P2->List Nat} {cs:List Int} {s:St} {ws':List (List Int)} {Sq So:Nat->Prop} (h:uN B w b ib tb qb bu mn li nw fst ro vs vc cb ab tg gF am rws cs s tc n M zI Sq So) (hx:nL B w' ib vs vc cb ab xy gF Lf ws' cs (bR cs ws') lS (fG ws') tc' n' M') (hc:xP ws' lS (fun _=>False)) (hg:Gd cs ws') (hF:Fr (gZ tg) w w') (hi:Into w (gZ tg) (gZ xy)):uN B w' b ib tb qb bu mn li nw fst ro vs vc cb ab xy gF Lf lS cs {s with ws:=ws'} tc' n' M' zI Sq So:=by
 refine⟨h.lo,hF.heap h.blk h.nb.1,hx,hc,hg,h.sy.fr hF h.s1,Qu.fr h.qu hF h.s2,h.s1.into h.sy.oq hi,h.s2.into (Qu.oq h.qu) hi,h.s3,⟨fun hk=>?_,h.nb.2.1,h.nb.2.2⟩⟩
 rcases hi b hk with h1|h1
 ·exact h.nb.1 h1
 ·have:=bA h.blk;omega
theorem uN.round {B b ib tb qb nw fst ro cb ab tc n M zI:Nat} {w:World} {bu mn li:Int} {vs vc:Value} {tg:Nat->Tag} {gF:List Nat} {am:List (P2×Value)} {rws:P2->List Nat} {cs:List Int} {s:St} {Sq So:Nat->Prop} (h:uN B w b ib tb qb bu mn li nw fst ro vs vc cb ab tg gF am rws cs s tc n M zI Sq So):uN B (w.setCell ⟨b,8,none⟩ (.int .i64 ((ro:Int)+1))) b ib tb qb bu mn li nw fst (ro+1) vs vc cb ab tg gF am rws cs s tc n M zI Sq So:=by
 have f:Fr (fun k=>k=b) w (w.setCell ⟨b,8,none⟩ (.int .i64 ((ro:Int)+1))):=(Fr.refl (fun k=>k=b) w).set (p:=⟨b,8,none⟩) (.inl rfl) _
 refine⟨h.lo,?_,h.ix.fr f (fun k hk hs=>h.nb.1 (hk▸hs)),h.cov,h.gd,h.sy.fr f (fun k hk hs=>h.nb.2.1 (hk▸hs)),Qu.fr h.qu f (fun k hk hs=>h.nb.2.2 (hk▸hs)),h.s1,h.s2,h.s3,h.nb⟩
 have h9:=heap_set h.blk 8 (.int .i64 ((ro:Int)+1))
 rw[h9]
 simp
section
variable {B b ib tb qb nw fst ro cb ab tc n M zI:Nat} {w w':World} {bu mn li:Int} {vs vc:Value} {tg:Nat->Tag} {gF:List Nat} {am:List (P2×Value)} {rws:P2->List Nat} {cs:List Int} {s:St} {Sq So T:Nat->Prop}
set_option maxHeartbeats 8000000 in
set_option maxRecDepth 100000 in
theorem KS (h:uN B w b ib tb qb bu mn li nw fst ro vs vc cb ab tg gF am rws cs s tc n M zI Sq So) (hro:(ro:Int)<bu) (hol:s.o.length<100000) (hnq:zI<100000) (hinj:Ak s.o) {s1:St} {x:It} (Ze:jd (bR cs s.ws) (s.H.length+1) s=(s1,some x)) (hok:Pok cs mn s1 x) (hKn:n+5*fG s.ws<=100000) (hKM:M+5*fG s.ws<=100000) (hKq:zI+5*fG s.ws<90000) (htc:tc<=1000000000) (hro2:ro<=1000000) (hlen:(sd (bR cs s.ws) (bR cs (fK s1 x.1).ws)).length+4*fG (fK s1 x.1).ws<=4*fG s.ws+1):
  Calls Tryz.prog 46 #[.pointer (some ⟨b,0,none⟩)] w fun e w'=>∃(t1 t2:ByteArray) (xy:Nat->Tag) (Lf:List (P2×Value)) (lS:P2->List Nat) (k tc' n' M' nq':Nat) (Ga So':Nat->Prop),e= .returned (.tuple #[.agg #[.string t1,.string t2],.bool true])/\uN B w' b ib tb qb bu mn li nw fst (ro+1) vs vc cb ab xy gF Lf lS cs (puts mn (bR cs (fK s1 x.1).ws) (fK s1 x.1) (sd (bR cs s.ws) (bR cs (fK s1 x.1).ws))) tc' n' M' nq' Ga So'/\fG (fK s1 x.1).ws+k=fG s.ws/\n'<=n+5*k/\M'<=M+5*k/\tc'<=tc+s.ws.length/\nq'<=zI+5*k+1/\Fr (fun k=>k=b\/gZ tg k\/So k\/Sq k) w w'/\Into w (fun k=>k=b\/gZ tg k\/So k\/Sq k) (fun k=>k=b\/gZ xy k\/So' k\/Ga k):=by
 obtain⟨⟨x1,x2⟩,xc⟩:=x
 obtain⟨V,hV⟩:∃V,V=w.alloc (.cells #[.string (⟨#[]⟩:ByteArray),.string (⟨#[]⟩:ByteArray)] 47):=⟨_,rfl⟩
 have ji:Below w.heap.size w V:=by rw[hV];exact(Below.refl _ w).alloc (Nat.le_refl _) _
 have hr0:V.heap[w.heap.size]?=some (.cells #[.string (⟨#[]⟩:ByteArray),.string (⟨#[]⟩:ByteArray)] 47 (0,0)):=by rw[hV];exact bG _ _
 have h1:=h.below ji
 have c8:V.cell? ⟨b,8,none⟩=some (.int .i64 (ro:Int)):=aj h1.blk 8
 have c8d:V.drew.cell? ⟨b,8,none⟩=some (.int .i64 (ro:Int)):=c8
 have c0:V.cell? ⟨b,0,none⟩=some (.int .i64 bu):=aj h1.blk 0
 have c0d:V.drew.cell? ⟨b,0,none⟩=some (.int .i64 bu):=c0
 have hge:decide ((ro:Int)>=bu)=false:=decide_eq_false (by omega)
 have JV:decide (bu<=(ro:Int))=false:=decide_eq_false (by omega)
 have HBW:=Lib.hid (bA h.blk)
 have HIX:Hid (∀k,gZ tg k->k<w.heap.size):=Lib.hid fun k hk=>(h.ix.lt k hk).2
 have HSO:Hid (∀k,So k->k<w.heap.size):=Lib.hid fun k hk=>(h.sy.oq k hk).2
 have HSI:Hid (∀k,Sq k->k<w.heap.size):=Lib.hid fun k hk=>(Qu.oq h.qu k hk).2
 have HL:=Lib.hid (And.intro h1 (And.intro ji hr0))
 have HPO:=Lib.hid Ze
 have HINJ:=Lib.hid hinj
 have Sg:=Lib.hid hok
 clear h h1 ji hr0 Ze hinj hok
 go_enter Tryz.func46,Tryz.ntmps46
 go_wp2_with fail
 rw[<-hV]
 clear hV
 go_quiet (fail)
 obtain⟨V1,hV1⟩:∃V1,V1=V.drewN nq:=⟨_,rfl⟩
 have hB1:Below V.heap.size V V1:=by rw[hV1];exact⟨rfl,rfl,rfl,Nat.le_refl _,fun _ _=>rfl⟩
 rw[<-hV1]
 have HV1:Hid (w.heap.size+1<=V1.heap.size):=Lib.hid (by have h9:=hB1.size;have h10:=bA HL.out.2.2;omega)
 have h2:=HL.out.1.below hB1
 have hr1:=(hB1.block _ (bA HL.out.2.2)).trans HL.out.2.2
 have c4:V1.cell? ⟨b,4,none⟩=some (.pointer (some ⟨ib,0,none⟩)):=aj h2.blk 4
 have c6:V1.cell? ⟨b,6,none⟩=some (.pointer (some ⟨qb,0,none⟩)):=aj h2.blk 6
 have hpp:=Nu (ix:=ib) (f:=bR cs s.ws) h2.qu h2.sy h2.s3 HINJ.out (by omega) hnq (fun W p hF hp=>vL (h2.ix.fr hF h2.s2.symm) (VP.ok (by omega) hp))
 have HPP:=Lib.hid hpp
 have Dr:=Lib.hid (And.intro h2 (And.intro hr1 (HL.out.2.1.trans (hB1.mono HL.out.2.1.size))))
 clear hV1 hB1 h2 hr1 hpp c8 c8d c0 c0d hge JV
 go_wp2_with (go_at_call 87;refine HPP.out.mono ?_;rintro e w1 ⟨s2,r2,hpq,⟨Sq1,hq1,hf1,hi1⟩,rfl⟩;rw[HPO.out] at hpq;cases hpq;have H1:=Lib.hid (And.intro hq1 (And.intro hf1 hi1));clear hq1 hf1 hi1)
 have hbw:b<w.heap.size:=HBW.out
 have hnS:¬Sq w.heap.size:=fun hk=>by have:=(HSI.out _ hk);omega
 have hr1:=H1.out.2.1.heap Dr.out.2.1 hnS
 obtain⟨V2,hV2⟩:∃V2,V2=w1.alloc (.cells #[.int .i64 x1,.int .i64 x2,.int .i64 xc] 162):=⟨_,rfl⟩
 have how:=Ky (bR cs s.ws) (s.H.length+1) s
 rw[HPO.out] at how
 simp only at how
 have hB2:Below w1.heap.size w1 V2:=by rw[hV2];exact(Below.refl _ w1).alloc (Nat.le_refl _) _
 have hL3:=(Dr.out.1.queue H1.out.1 how.1 how.2 H1.out.2.1 H1.out.2.2).below hB2
 have hib:V2.heap[w1.heap.size]?=some (.cells #[.int .i64 x1,.int .i64 x2,.int .i64 xc] 162 (0,0)):=by rw[hV2];exact bG _ _
 have hr2:=(hB2.block _ (bA hr1)).trans hr1
 have g1:V2.cell? ⟨b,1,none⟩=some (.int .i64 mn):=aj hL3.blk 1
 have g1d:V2.drew.cell? ⟨b,1,none⟩=some (.int .i64 mn):=g1
 have g2:V2.cell? ⟨w1.heap.size,2,none⟩=some (.int .i64 xc):=aj hib 2
 have g2d:V2.drew.cell? ⟨w1.heap.size,2,none⟩=some (.int .i64 xc):=g2
 have hlt:decide (xc<mn)=false:=decide_eq_false (by have h9:mn<=xc:=Sg.out.mn;omega)
 have HR:=Lib.hid (And.intro hL3 (And.intro hib (And.intro hr2 hB2)))
 have HOW:=Lib.hid how
 clear hL3 hib hr2 hB2 hr1 how c4 c6
 rw[<-hV2]
 clear hV2
 go_quiet (fail)
 obtain⟨V3,hV3⟩:∃V3,V3=V2.drewN nq:=⟨_,rfl⟩
 have hB3:Below V2.heap.size V2 V3:=by rw[hV3];exact⟨rfl,rfl,rfl,Nat.le_refl _,fun _ _=>rfl⟩
 rw[<-hV3]
 clear hV3 g1 g1d g2 g2d
 have h4:=HR.out.1.below hB3
 have Za:=(hB3.block _ (bA HR.out.2.1)).trans HR.out.2.1
 have hr3:=(hB3.block _ (bA HR.out.2.2.1)).trans HR.out.2.2.1
 have hv1:Vl s1.o x1:=Sg.out.vp.1
 have hv2:Vl s1.o x2:=Sg.out.vp.2
 obtain⟨n1,rfl⟩:∃n1:Nat,x1=(n1:Int):=⟨x1.toNat,by have:=hv1.1;omega⟩
 obtain⟨n2,rfl⟩:∃n2:Nat,x2=(n2:Int):=⟨x2.toNat,by have:=hv2.1;omega⟩
 have hol1:s1.o.length<100000:=by rw[HOW.out.1];exact hol
 have hsj:=Oo (w:=V3.drew) ((h4.sy).same fun _ _=>rfl) (by omega) (i:=n1) (j:=n2) (by have:=hv1.2;omega) (by have:=hv2.2;omega) Sg.out.sz Sg.out.fr
 have hw1s:w1.heap.size<V3.heap.size:=bA Za
 have hws1:w.heap.size<w1.heap.size:=by have h9:=HV1.out;have h10:=H1.out.2.1.size;omega
 have q1:¬So b:=h4.nb.2.1
 have q2:¬So w1.heap.size:=fun hk=>by have:=HSO.out _ hk;omega
 have hst:V3.drew.cell? ⟨b,5,none⟩=some (.pointer (some ⟨tb,0,none⟩))/\V3.drew.cell? ⟨w1.heap.size,0,none⟩=some (.int .i64 (n1:Int))/\V3.drew.cell? ⟨w1.heap.size,1,none⟩=some (.int .i64 (n2:Int)):=⟨aj h4.blk 5,aj Za 0,aj Za 1⟩
 have H4:=Lib.hid (And.intro h4 (And.intro Za (And.intro hr3 (And.intro hB3 (And.intro hv1 hv2)))))
 clear h4 Za hr3 hB3 hv1 hv2
 go_wp2_with fail
 go_region_held3 (fun w'=>w'.cell? ⟨b,5,none⟩=some (.pointer (some ⟨tb,0,none⟩))/\w'.cell? ⟨w1.heap.size,0,none⟩=some (.int .i64 (n1:Int))/\w'.cell? ⟨w1.heap.size,1,none⟩=some (.int .i64 (n2:Int))) (first
  |exact hst
  |exact Zu (T:=So) (by assumption) (by assumption) q1 q2 q2) (first
  |(go_at_call 88;refine hsj.mono ?_;rintro e w4 ⟨rfl,So1,hsy4,hfs4,his4⟩))
 clear hst hsj q1 q2
 have uw:Fr So V3 w4:=((Fr.refl So V3).drew).trans hfs4 (fun _ h=> .inl h)
 have L4:=H4.out.1.sym (p:=((n1:Int),(n2:Int))) hsy4 uw his4
 have HD4:=Lib.hid (And.intro uw his4)
 have c8:w4.cell? ⟨b,8,none⟩=some (.int .i64 (ro:Int)):=aj L4.blk 8
 have f8:=aX L4.blk 8
 have L5:=L4.round
 have F5:Fr (fun k=>k=b) w4 (w4.setCell ⟨b,8,none⟩ (.int .i64 ((ro:Int)+1))):=(Fr.refl (fun k=>k=b) w4).set (p:=⟨b,8,none⟩) (.inl rfl) _
 obtain⟨w5,hw5⟩:∃w5,w5=w4.setCell ⟨b,8,none⟩ (.int .i64 ((ro:Int)+1)):=⟨_,rfl⟩
 clear hsy4 hfs4 uw his4 L4
 go_wp2_with fail
 rw[<-hw5] at L5 F5 ⊢
 clear hw5 c8 f8
 have qo2:¬So w1.heap.size:=fun hk=>by have:=HSO.out _ hk;omega
 have qo3:¬So w.heap.size:=fun hk=>by have:=HSO.out _ hk;omega
 have hib5:=F5.heap (HD4.out.1.heap H4.out.2.1 qo2) (by omega)
 have Tk:=F5.heap (HD4.out.1.heap H4.out.2.2.1 qo3) (by omega)
 have hst5:w5.drew.cell? ⟨b,4,none⟩=some (.pointer (some ⟨ib,0,none⟩))/\w5.drew.cell? ⟨w1.heap.size,0,none⟩=some (.int .i64 (n1:Int))/\w5.drew.cell? ⟨w1.heap.size,1,none⟩=some (.int .i64 (n2:Int)):=⟨aj L5.blk 4,aj hib5 0,aj hib5 1⟩
 have L5d:=L5.below ((Below.refl _ w5).drew)
 have hix5:nL B w5.drew ib vs vc cb ab tg gF am s1.ws cs (bR cs s1.ws) rws (fG s1.ws) tc n M:=L5d.ix
 have Zh:VP s1.o ((n1:Int),(n2:Int)):=Sg.out.vp
 have hme:=Zm (s:=256+(s1.o.length:Int)) hix5 L5d.gd L5d.cov rfl (VP.ok (by omega) Zh) (by omega) (WA L5d.cov Sg.out.th) (by have h9:(n1:Int)<256+(s1.o.length:Int):=Zh.1.2;show 256+(s1.o.length:Int)≠(n1:Int);omega) (by have h9:(n2:Int)<256+(s1.o.length:Int):=Zh.2.2;show 256+(s1.o.length:Int)≠(n2:Int);omega) (by rw[HOW.out.2];exact hKn) (by rw[HOW.out.2];omega) htc
 have q1:¬gZ tg b:=L5.nb.1
 have q2:¬gZ tg w1.heap.size:=fun hk=>by have:=HIX.out _ hk;omega
 have HME:=Lib.hid hme
 have H5:=Lib.hid (And.intro L5d (And.intro hib5 (And.intro Tk F5)))
 clear hme L5 L5d hix5 hib5 Tk F5 qo2 qo3
 go_region_held3 (fun w'=>w'.cell? ⟨b,4,none⟩=some (.pointer (some ⟨ib,0,none⟩))/\w'.cell? ⟨w1.heap.size,0,none⟩=some (.int .i64 (n1:Int))/\w'.cell? ⟨w1.heap.size,1,none⟩=some (.int .i64 (n2:Int))) (first
  |exact hst5
  |exact Zu (T:=gZ tg) (by assumption) (by assumption) q1 q2 q2) (first
  |(go_at_call 89;refine HME.out.mono ?_;rintro e w6 ⟨k,v,xs,xy,Lf,lS,n',M',tc',rfl,Zb,YS,YY,MP,hn6,Vw,MQ,VE,hown6,JG,Qf⟩;have H6:=Lib.hid (And.intro Zb (And.intro YS (And.intro YY (And.intro MP (And.intro hn6 (And.intro Vw (And.intro MQ (And.intro VE (And.intro hown6 (And.intro JG Qf))))))))));clear Zb YS YY MP hn6 Vw MQ VE hown6 Qf))
 have HF6:=Lib.hid JG
 obtain⟨Zb,YS,YY,MP,hn6,Vw,MQ,VE,hown6,_,Qf⟩:=H6.out
 have L6:uN B w6 b ib tb qb bu mn li nw fst (ro+1) vs vc cb ab xy gF Lf lS cs (fK s1 ((n1:Int),(n2:Int))) tc' n' M' zI Sq1 So1:=H5.out.1.index Zb YS YY JG Qf
 have hsd:sd (bR cs s.ws) (bR cs (fK s1 ((n1:Int),(n2:Int))).ws)=xs:=by rw[<-HOW.out.2];exact aao VE
 have xH:xs.length+4*fG (fK s1 ((n1:Int),(n2:Int))).ws<=4*fG s.ws+1:=by rw[<-hsd];exact hlen
 have hsum:fG (fK s1 ((n1:Int),(n2:Int))).ws+k=fG s.ws:=by rw[<-HOW.out.2];exact MP
 have hput:=tr_put L6 hown6 (fun g hg hk=>by have h8:=(eG hown6 hg).1;have h9:=(Qu.oq H5.out.1.qu g hk).2;omega) (by show(s1.o++[_]).length<=100000;rw[List.length_append,List.length_singleton];omega) (by omega) (fun y hy=>Sg.out.chg y ((VE.2 y).1 hy))
 have HPU:=Lib.hid hput
 have HSD:=Lib.hid (And.intro hsd (And.intro xH hsum))
 have hib6:=JG.heap H5.out.2.1 q2
 have qr2:¬gZ tg w.heap.size:=fun hk=>by have:=HIX.out _ hk;omega
 have MO:=JG.heap H5.out.2.2.1 qr2
 have HR6:=Lib.hid (And.intro hib6 MO)
 clear Zb YS YY MP hn6 Vw MQ VE hown6 Qf L6 hsd xH hsum hput hib6 MO JG hst5 q1 q2 qr2 hlen HME
 go_wp2_with (go_at_call 84;refine HPU.out.mono ?_;rintro e w7 ⟨rfl,Sq2,hL7,hF7,hI7⟩;have H7:=Lib.hid (And.intro hL7 (And.intro hF7 hI7));clear hL7 hF7 hI7)
 have qq1:¬Sq1 w1.heap.size:=fun hk=>by have:=(Qu.oq H1.out.1 _ hk).2;omega
 have qq0:¬Sq1 w.heap.size:=fun hk=>by
  rcases H1.out.2.2 _ hk with h9|h9
  ·have:=HSI.out _ h9;omega
  ·have:=HV1.out;omega
 have hib7:=H7.out.2.1.heap HR6.out.1 qq1
 have hr7:=H7.out.2.1.heap HR6.out.2 qq0
 have Lg:(puts mn (bR cs (fK s1 ((n1:Int),(n2:Int))).ws) (fK s1 ((n1:Int),(n2:Int))) xs).o=s1.o++[(((n1:Int),(n2:Int)),fI s1.o (n1:Int)++fI s1.o (n2:Int))]:=(zR _ _ _).1
 have htx:∀(U:World) (x:Int),Below w7.heap.size w7 U->Vl s1.o x->Calls Tryz.prog 90 #[.pointer (some ⟨b,0,none⟩),.int .i64 x] U fun e w'=>e= .returned (.string (fI s1.o x))/\Below U.heap.size U w':=by
  intro U x hU hx
  have h9:=tr_text (H7.out.1.below hU) (x:=x) (by rw[Lg,List.length_append,List.length_singleton];omega) (by rw[Lg];exact hx.more _)
  rw[Lg,iI hx] at h9
  exact h9
 obtain⟨t1,ht1⟩:∃t1,fI s1.o (n1:Int)=t1:=⟨_,rfl⟩
 obtain⟨t2,ht2⟩:∃t2,fI s1.o (n2:Int)=t2:=⟨_,rfl⟩
 have HT1:Hid (∀U,Below w7.heap.size w7 U->Calls Tryz.prog 90 #[.pointer (some ⟨b,0,none⟩),.int .i64 (n1:Int)] U fun e w'=>e= .returned (.string t1)/\Below U.heap.size U w'):=Lib.hid fun U hU=>by rw[<-ht1];exact htx U _ hU Zh.1
 have HT2:Hid (∀U,Below w7.heap.size w7 U->Calls Tryz.prog 90 #[.pointer (some ⟨b,0,none⟩),.int .i64 (n2:Int)] U fun e w'=>e= .returned (.string t2)/\Below U.heap.size U w'):=Lib.hid fun U hU=>by rw[<-ht2];exact htx U _ hU Zh.2
 have hB0:Below w7.heap.size w7 w7.drew:=(Below.refl _ w7).drew
 have k0:w7.cell? ⟨w1.heap.size,0,none⟩=some (.int .i64 (n1:Int)):=aj hib7 0
 have k0d:w7.drew.cell? ⟨w1.heap.size,0,none⟩=some (.int .i64 (n1:Int)):=k0
 have k1:w7.cell? ⟨w1.heap.size,1,none⟩=some (.int .i64 (n2:Int)):=aj hib7 1
 have k1d:w7.drew.cell? ⟨w1.heap.size,1,none⟩=some (.int .i64 (n2:Int)):=k1
 have HBK:=Lib.hid (And.intro hib7 hr7)
 have Xf:Hid (∀U,Below w7.heap.size w7 U->uN B ((U.setCell ⟨w.heap.size,0,none⟩ (.string t1)).setCell ⟨w.heap.size,1,none⟩ (.string t2)) b ib tb qb bu mn li nw fst (ro+1) vs vc cb ab xy gF Lf lS cs (puts mn (bR cs (fK s1 ((n1:Int),(n2:Int))).ws) (fK s1 ((n1:Int),(n2:Int))) xs) tc' n' M' (zI+xs.length) Sq2 So1/\Fr (fun k=>k=b\/gZ tg k\/So k\/Sq k) w ((U.setCell ⟨w.heap.size,0,none⟩ (.string t1)).setCell ⟨w.heap.size,1,none⟩ (.string t2))/\Into w (fun k=>k=b\/gZ tg k\/So k\/Sq k) (fun k=>k=b\/gZ xy k\/So1 k\/Sq2 k)):=Lib.hid (by
  intro U hU
  obtain⟨hL7,hF7,hI7⟩:=H7.out
  obtain⟨_,_,_,_,_,_,_,_,_,JG,Qf⟩:=H6.out
  have a1:Below w.heap.size w V1:=Dr.out.2.2
  have F1:Fr (fun k=>k=b\/gZ tg k\/So k\/Sq k) w w1:=(Fr.dL (S:=fun k=>k=b\/gZ tg k\/So k\/Sq k) a1).trans H1.out.2.1 (fun k hk=> .inl (.inr (.inr (.inr hk))))
  have F3:=(F1.below HR.out.2.2.2).below H4.out.2.2.2.1
  have F4:=F3.trans HD4.out.1 (fun k hk=> .inl (.inr (.inr (.inl hk))))
  have F5:=(F4.trans H5.out.2.2.2 (fun k hk=> .inl (.inl hk))).drew
  have F6:=F5.trans JG (fun k hk=> .inl (.inr (.inl hk)))
  have F7:=F6.trans hF7 (fun k hk=>by
   rcases H1.out.2.2 k hk with h9|h9
   ·exact .inl (.inr (.inr (.inr h9)))
   ·exact .inr (Nat.le_trans a1.size h9))
  have FU:=F7.below hU
  have hI1:Into w (fun k=>k=b\/gZ tg k\/So k\/Sq k) Sq1:=fun k hk=>by
   rcases H1.out.2.2 k hk with h9|h9
   ·exact .inl (.inr (.inr (.inr h9)))
   ·exact .inr (Nat.le_trans a1.size h9)
  have s3:=F3.size
  have s5:=F5.size
  have s6:=F6.size
  have i1:∀k,gZ xy k->gZ tg k\/w5.drew.heap.size<=k:=Qf
  have i2:∀k,So1 k->So k\/V3.heap.size<=k:=HD4.out.2
  have i3:∀k,Sq2 k->Sq1 k\/w6.heap.size<=k:=hI7
  have z1:=HV1.out
  have z2:=H1.out.2.1.size
  have z3:=hw1s
  have z4:=HD4.out.1.size
  have z5:=H5.out.2.2.2.size
  have z6:w5.drew.heap.size=w5.heap.size:=rfl
  have z7:=JG.size
  refine⟨?_,(FU.set (p:=⟨w.heap.size,0,none⟩) (.inr (Nat.le_refl _)) _).set (p:=⟨w.heap.size,1,none⟩) (.inr (Nat.le_refl _)) _,?_⟩
  ·refine(hL7.below hU).fr (T:=fun k=>k=w.heap.size) (((Fr.refl (fun k=>k=w.heap.size) U).set (p:=⟨w.heap.size,0,none⟩) (.inl rfl) _).set (p:=⟨w.heap.size,1,none⟩) (.inl rfl) _) (by omega) (fun k e hk=>?_) (fun k e hk=>?_) (fun k e hk=>?_)
   ·rcases i1 k hk with h9|h9
    ·have:=HIX.out k h9;omega
    ·omega
   ·rcases i2 k hk with h9|h9
    ·have:=HSO.out k h9;omega
    ·omega
   ·rcases i3 k hk with h9|h9
    ·rcases H1.out.2.2 k h9 with h8|h8
     ·have:=HSI.out k h8;omega
     ·omega
    ·omega
  ·intro k hk
   rcases hk with h9|h9|h9|h9
   ·exact .inl (.inl h9)
   ·rcases i1 k h9 with h8|h8
    ·exact .inl (.inr (.inl h8))
    ·exact .inr (Nat.le_trans s5 h8)
   ·rcases i2 k h9 with h8|h8
    ·exact .inl (.inr (.inr (.inl h8)))
    ·exact .inr (Nat.le_trans s3 h8)
   ·rcases i3 k h9 with h8|h8
    ·exact hI1 k h8
    ·exact .inr (Nat.le_trans s6 h8))
 clear hib7 hr7 Lg htx ht1 ht2 qq1 qq0 HPU
 go_region_with (first
  |(go_at_call 90;refine(HT1.out _ hB0).mono ?_;clear HT1;rintro e u1 ⟨rfl,hbA⟩;have hB1:Below w7.heap.size w7 u1:=hB0.trans (hbA.mono hB0.size);have k2:u1.cell? ⟨w1.heap.size,1,none⟩=some (.int .i64 (n2:Int)):=aj ((hB1.block _ (bA HBK.out.1)).trans HBK.out.1) 1;have HB1:=Lib.hid hB1;clear hbA hB1 hB0)
  |(go_at_call 90;refine(HT2.out _ HB1.out).mono ?_;clear HT2;rintro e u2 ⟨rfl,hbA⟩;have hB2:Below w7.heap.size w7 u2:=HB1.out.trans (hbA.mono HB1.out.size);have hr8:=(hB2.block _ (bA HBK.out.2)).trans HBK.out.2;have z0:u2.cell? ⟨w.heap.size,0,none⟩=some (.string (⟨#[]⟩:ByteArray)):=aj hr8 0;have z1:u2.cell? ⟨w.heap.size,1,none⟩=some (.string (⟨#[]⟩:ByteArray)):=aj hr8 1;have f0:=aX hr8 0;have f1:=aX hr8 1;have HB2:=Lib.hid (And.intro hB2 hr8);clear hbA hB2 hr8))
 all_goals
  go_wp2
  apply bodyPost_ret
  ·exact iV rfl _ _ w.heap.size 47 #[.string t1,.string t2] (0,0) _ rfl (heap_set (heap_set HB2.out.2 0 (.string t1)) 1 (.string t2)) Tryz.underlying47 rfl (by kernel_rfl)
  ·rfl
  ·obtain⟨_,_,_,_,hn6,Vw,MQ,_⟩:=H6.out
   obtain⟨hsd,xH,hsum⟩:=HSD.out
   obtain⟨e1,e2,e3⟩:=Xf.out u2 HB2.out.1
   refine⟨t1,t2,xy,Lf,lS,k,tc',n',M',zI+xs.length,Sq2,So1,rfl,?_,hsum,hn6,Vw,?_,?_,e2,e3⟩
   ·rw[hsd];exact e1
   ·rw[<-HOW.out.2];exact MQ
   ·omega
end
end Go.Proofs.YtilpincgjlclpaaGreat.Ob
end
section
namespace Go.Proofs.YtilpincgjlclpaaGreat.Ob
open Go Go.RowKit Bs Mp jL Hp
open Go.Proofs.ae.au (eY)
open Tm (It St lI jd puts vQ Ak bt qM fK)
section
variable {B b ib tb qb nw fst ro cb ab tc n M zI:Nat} {w w':World} {bu mn li:Int} {vs vc:Value} {tg:Nat->Tag} {gF:List Nat} {am:List (P2×Value)} {rws:P2->List Nat} {cs:List Int} {s:St} {Sq So T:Nat->Prop}
set_option maxHeartbeats 2000000 in
set_option maxRecDepth 100000 in
theorem WB (h:uN B w b ib tb qb bu mn li nw fst ro vs vc cb ab tg gF am rws cs s tc n M zI Sq So) (hol:s.o.length<=1000000) (hs:∀x∈s.o,VP s.o x.1):
  Calls Tryz.prog 47 #[.pointer (some ⟨b,0,none⟩)] w fun e w'=>∃v,e= .returned v/\w'.ownsRow w.heap.size Cz 2 v (pR s.o).length ((pR s.o).flatMap mW)/\Below w.heap.size w w':=by
 have c5:w.cell? ⟨b,5,none⟩=some (.pointer (some ⟨tb,0,none⟩)):=aj h.blk 5
 have HM:=Lib.hid (RN h.sy hol hs)
 clear h
 go_enter Tryz.func47,Tryz.ntmps47
 go_wp2_with (go_at_call 91;refine HM.out.mono ?_;rintro e w1 ⟨v,rfl,h1,h2⟩)
 go_ret
 exact⟨v,rfl,h1,h2⟩
set_option maxHeartbeats 4000000 in
set_option maxRecDepth 100000 in
theorem tr_stats (h:uN B w b ib tb qb bu mn li nw fst ro vs vc cb ab tg gF am rws cs s tc n M zI Sq So):
  Calls Tryz.prog 48 #[.pointer (some ⟨b,0,none⟩)] w fun e w'=>e= .returned (.agg #[.int .i64 (fst:Int),.int .i64 (ro:Int),.int .i64 (s.pu:Int),.int .i64 (s.po:Int),.int .i64 (s.pe:Int),.int .i64 (s.re:Int)])/\Below w.heap.size w w':=by
 obtain⟨V,hV⟩:∃V,V=w.alloc (.cells #[.int .i64 0,.int .i64 0,.int .i64 0,.int .i64 0,.int .i64 0,.int .i64 0] 29):=⟨_,rfl⟩
 have ji:Below w.heap.size w V:=by rw[hV];exact(Below.refl _ w).alloc (Nat.le_refl _) _
 have hb0:V.heap[w.heap.size]?=some (.cells #[.int .i64 0,.int .i64 0,.int .i64 0,.int .i64 0,.int .i64 0,.int .i64 0] 29 (0,0)):=by rw[hV];exact bG _ _
 have h1:=h.below ji
 have c6:V.cell? ⟨b,6,none⟩=some (.pointer (some ⟨qb,0,none⟩)):=aj h1.blk 6
 have HS:=Lib.hid (Qn h1.qu)
 have HX:=Lib.hid (And.intro h1 (And.intro ji hb0))
 have hbw:=bA h.blk
 obtain⟨pu,jA⟩:∃x,s.pu=x:=⟨_,rfl⟩
 obtain⟨po,hpo⟩:∃x,s.po=x:=⟨_,rfl⟩
 obtain⟨pe,hpe⟩:∃x,s.pe=x:=⟨_,rfl⟩
 obtain⟨re,hre⟩:∃x,s.re=x:=⟨_,rfl⟩
 rw[jA,hpo,hpe,hre] at HS
 rw[jA,hpo,hpe,hre]
 clear h1 h ji hb0 jA hpo hpe hre
 rw[hV] at c6 HS HX
 clear hV
 go_enter Tryz.func48,Tryz.ntmps48
 go_wp2_with (go_at_call 92;refine HS.out.mono ?_;rintro e w1 ⟨rfl,hB1⟩)
 clear c6
 obtain⟨V2,hV2⟩:∃V2,V2=w1.alloc (.cells #[.int .i64 0,.int .i64 0,.int .i64 (pu:Int),.int .i64 (po:Int),.int .i64 (pe:Int),.int .i64 (re:Int)] 29):=⟨_,rfl⟩
 have hB2:Below w1.heap.size w1 V2:=by rw[hV2];exact(Below.refl _ w1).alloc (Nat.le_refl _) _
 have hb2:V2.heap[w1.heap.size]?=some (.cells #[.int .i64 0,.int .i64 0,.int .i64 (pu:Int),.int .i64 (po:Int),.int .i64 (pe:Int),.int .i64 (re:Int)] 29 (0,0)):=by rw[hV2];exact bG _ _
 have hBB:=hB1.trans (hB2.mono hB1.size)
 have hL2:=HX.out.1.below hBB
 have hr2:=(hBB.block _ (bA HX.out.2.2)).trans HX.out.2.2
 have c7:V2.cell? ⟨b,7,none⟩=some (.int .i64 (fst:Int)):=aj hL2.blk 7
 have c7d:V2.drew.cell? ⟨b,7,none⟩=some (.int .i64 (fst:Int)):=c7
 have c8:V2.cell? ⟨b,8,none⟩=some (.int .i64 (ro:Int)):=aj hL2.blk 8
 have c8d:V2.drew.cell? ⟨b,8,none⟩=some (.int .i64 (ro:Int)):=c8
 have z0:V2.cell? ⟨w1.heap.size,0,none⟩=some (.int .i64 0):=aj hb2 0
 have z0d:V2.drew.cell? ⟨w1.heap.size,0,none⟩=some (.int .i64 0):=z0
 have z1:V2.cell? ⟨w1.heap.size,1,none⟩=some (.int .i64 0):=aj hb2 1
 have z1d:V2.drew.cell? ⟨w1.heap.size,1,none⟩=some (.int .i64 0):=z1
 have f0:V2.frozen? ⟨w1.heap.size,0,none⟩=false:=aX hb2 0
 have f0d:V2.drew.frozen? ⟨w1.heap.size,0,none⟩=false:=f0
 have f1:V2.frozen? ⟨w1.heap.size,1,none⟩=false:=aX hb2 1
 have f1d:V2.drew.frozen? ⟨w1.heap.size,1,none⟩=false:=f1
 have HB:=Lib.hid (And.intro hBB (And.intro hr2 hb2))
 have hws:w.heap.size<w1.heap.size:=by have:=bA HX.out.2.2;have:=hB1.size;omega
 clear hB1 hB2 hb2 hBB hL2 hr2
 rw[<-hV2]
 clear hV2
 obtain⟨W,hW⟩:∃W,W=((V2.setCell ⟨w1.heap.size,0,none⟩ (.int .i64 (fst:Int))).setCell ⟨w1.heap.size,1,none⟩ (.int .i64 (ro:Int))).drew:=⟨_,rfl⟩
 have hb3:W.heap[w1.heap.size]?=some (.cells #[.int .i64 (fst:Int),.int .i64 (ro:Int),.int .i64 (pu:Int),.int .i64 (po:Int),.int .i64 (pe:Int),.int .i64 (re:Int)] 29 (0,0)):=by rw[hW];exact heap_set (heap_set HB.out.2.2 0 _) 1 _
 have hr3:W.heap[w.heap.size]?=some (.cells #[.int .i64 0,.int .i64 0,.int .i64 0,.int .i64 0,.int .i64 0,.int .i64 0] 29 (0,0)):=by rw[hW];exact dI (dI HB.out.2.1 (by show w.heap.size≠w1.heap.size;omega) _) (by show w.heap.size≠w1.heap.size;omega) _
 have hBW:Below w.heap.size w W:=by
  rw[hW]
  exact((((Fr.dL (S:=fun k=>w.heap.size<=k) (HX.out.2.1.trans (HB.out.1.mono HX.out.2.1.size))).set (p:=⟨w1.heap.size,0,none⟩) (.inr (by show w.heap.size<=w1.heap.size;omega)) _).set (p:=⟨w1.heap.size,1,none⟩) (.inr (by show w.heap.size<=w1.heap.size;omega)) _).drew).toBelow (fun _ h=>h) (Nat.le_refl _)
 have HW:=Lib.hid hW
 have k0:W.cell? ⟨w1.heap.size,0,none⟩=some (.int .i64 (fst:Int)):=aj hb3 0
 have y0:W.cell? ⟨w.heap.size,0,none⟩=some (.int .i64 0):=aj hr3 0
 have g0:W.frozen? ⟨w.heap.size,0,none⟩=false:=aX hr3 0
 have k1:W.cell? ⟨w1.heap.size,1,none⟩=some (.int .i64 (ro:Int)):=aj hb3 1
 have y1:W.cell? ⟨w.heap.size,1,none⟩=some (.int .i64 0):=aj hr3 1
 have g1:W.frozen? ⟨w.heap.size,1,none⟩=false:=aX hr3 1
 have k2:W.cell? ⟨w1.heap.size,2,none⟩=some (.int .i64 (pu:Int)):=aj hb3 2
 have y2:W.cell? ⟨w.heap.size,2,none⟩=some (.int .i64 0):=aj hr3 2
 have g2:W.frozen? ⟨w.heap.size,2,none⟩=false:=aX hr3 2
 have k3:W.cell? ⟨w1.heap.size,3,none⟩=some (.int .i64 (po:Int)):=aj hb3 3
 have y3:W.cell? ⟨w.heap.size,3,none⟩=some (.int .i64 0):=aj hr3 3
 have g3:W.frozen? ⟨w.heap.size,3,none⟩=false:=aX hr3 3
 have k4:W.cell? ⟨w1.heap.size,4,none⟩=some (.int .i64 (pe:Int)):=aj hb3 4
 have y4:W.cell? ⟨w.heap.size,4,none⟩=some (.int .i64 0):=aj hr3 4
 have g4:W.frozen? ⟨w.heap.size,4,none⟩=false:=aX hr3 4
 have k5:W.cell? ⟨w1.heap.size,5,none⟩=some (.int .i64 (re:Int)):=aj hb3 5
 have y5:W.cell? ⟨w.heap.size,5,none⟩=some (.int .i64 0):=aj hr3 5
 have g5:W.frozen? ⟨w.heap.size,5,none⟩=false:=aX hr3 5
 have hr4:=(heap_set (heap_set (heap_set (heap_set (heap_set (heap_set hr3 0 (.int .i64 (fst:Int))) 1 (.int .i64 (ro:Int))) 2 (.int .i64 (pu:Int))) 3 (.int .i64 (po:Int))) 4 (.int .i64 (pe:Int))) 5 (.int .i64 (re:Int)))
 have hB4:=(((((((Fr.dL (S:=fun k=>w.heap.size<=k) hBW).set (p:=⟨w.heap.size,0,none⟩) (.inr (Nat.le_refl _)) (.int .i64 (fst:Int))).set (p:=⟨w.heap.size,1,none⟩) (.inr (Nat.le_refl _)) (.int .i64 (ro:Int))).set (p:=⟨w.heap.size,2,none⟩) (.inr (Nat.le_refl _)) (.int .i64 (pu:Int))).set (p:=⟨w.heap.size,3,none⟩) (.inr (Nat.le_refl _)) (.int .i64 (po:Int))).set (p:=⟨w.heap.size,4,none⟩) (.inr (Nat.le_refl _)) (.int .i64 (pe:Int))).set (p:=⟨w.heap.size,5,none⟩) (.inr (Nat.le_refl _)) (.int .i64 (re:Int))).toBelow (fun _ h=>h) (Nat.le_refl _)
 have HE:=Lib.hid (And.intro hr4 hB4)
 clear hW hb3 hr3 hBW hr4 hB4
 go_region_with (fail)
 all_goals
  rw[<-HW.out]
  clear HW c7 c7d c8 c8d z0 z0d z1 z1d f0 f0d f1 f1d HX HB
  go_wp2
  apply bodyPost_ret
  ·exact eY rfl (.cell w.heap.size 29 #[.int .i64 (fst:Int),.int .i64 (ro:Int),.int .i64 (pu:Int),.int .i64 (po:Int),.int .i64 (pe:Int),.int .i64 (re:Int)] (0,0) _ rfl HE.out.1 Tryz.underlying29 rfl (by kernel_rfl) .nil)
  ·rfl
  ·exact⟨rfl,HE.out.2⟩
end
end Go.Proofs.YtilpincgjlclpaaGreat.Ob
end
section
namespace Go.Proofs.YtilpincgjlclpaaGreat.Ob
open Go Go.RowKit Go.Proofs.ae.au Pr Bs Mp jL Hp
open Tm (It St lI jd puts vQ Ak bt qM fK)
theorem oM.low {B C b tb hb kb:Nat} {w:World} {v:Value} {o:List J} {kn H R:List It} {pu po pe re jA hpe n:Nat} (h:oM B w b tb hb kb v o kn H R pu po pe re jA hpe n) (hC:C<=B):oM C w b tb hb kb v o kn H R pu po pe re jA hpe n:=
 ⟨Nat.le_trans hC h.lo,Nat.le_trans hC h.klo,h.blk,h.Gc,h.WQ,⟨Nat.le_trans hC h.hpr.lo,h.hpr.blk,zK h.hpr.own hC,h.hpr.vp⟩,h.ord,h.per,h.bnd⟩
theorem Qu.low {B C b tb:Nat} {w:World} {o:List J} {kn H:List It} {pu po pe re n:Nat} {S:Nat->Prop} (h:Qu B w b tb o kn H pu po pe re n S) (hC:C<=B):Qu C w b tb o kn H pu po pe re n S:=by
 obtain⟨hb,kb,v,R,jA,hpe,h,rfl⟩:=h
 exact⟨hb,kb,v,R,jA,hpe,h.low hC,rfl⟩
def s0 (ws:List (List Int)):St:={o:=[],ws:=ws,kn:=[],H:=[],pu:=0,po:=0,pe:=0,re:=0}
theorem keepN {a1 a2 a3:Addr} {v1 v2 v3:Value} {w0 U U':World} (h:Below w0.heap.size w0 U/\U.cell? a1=some v1/\U.cell? a2=some v2/\U.cell? a3=some v3) (hB:Below U.heap.size U U'):Below w0.heap.size w0 U'/\U'.cell? a1=some v1/\U'.cell? a2=some v2/\U'.cell? a3=some v3:=
 ⟨h.1.trans (hB.mono h.1.size),(Fr.dL (S:=fun _=>False) hB).cell h.2.1 id,(Fr.dL (S:=fun _=>False) hB).cell h.2.2.1 id,(Fr.dL (S:=fun _=>False) hB).cell h.2.2.2 id⟩
theorem keepNA {a1 a2 a3:Addr} {v1 v2 v3:Value} {w0 U:World} {o:Obj} (h:Below w0.heap.size w0 U/\U.cell? a1=some v1/\U.cell? a2=some v2/\U.cell? a3=some v3):Below w0.heap.size w0 (U.alloc o)/\(U.alloc o).cell? a1=some v1/\(U.alloc o).cell? a2=some v2/\(U.alloc o).cell? a3=some v3:=keepN h ((Below.refl _ _).alloc (Nat.le_refl _) o)
theorem aav (w:World):Calls Tryz.prog 81 #[] w fun e w'=>e= .returned (.pointer (some ⟨w.heap.size,0,none⟩))/\(∀B,B<=w.heap.size->Sym B w' w.heap.size [] (fun k=>k=w.heap.size))/\Below w.heap.size w w':=
 (Un w).mono fun e w' h=>⟨h.1,fun B hB=>by rw[h.2];exact Sym.new w hB,by rw[h.2];exact(Below.refl _ w).alloc (Nat.le_refl _) _⟩
set_option maxHeartbeats 8000000 in
set_option maxRecDepth 100000 in
theorem tr_new {w:World} {A:Option Addr} {c0:Nat} {l:List dN} (hC:Kd.C lQ w A l.length l) (hc0:l.length<=c0) {k1 k2 k3:Nat} {p bu mn li:Int} (xZ:dG.f k1 l=some (p,0)) (hpos:dM.f k2 l=some ((fG (gI l):Nat):Int)) (hwr:eZ.f k3 l bu mn li=some 0) (hg:Gd (gG l) (gI l)) (hsz:∀x∈l,x.f0.size<=1000) (hlen:(sd (fun _=>0) (bR (gG l) (gI l))).length<90000) (hvp:∀q,bR (gG l) (gI l) q≠0->VP [] q) (hsum:fG (gI l)<=1000000):
  Calls Tryz.prog 45 #[.slice A l.length c0,.agg #[.int .i64 bu,.int .i64 mn,.int .i64 li]] w fun e w'=>∃B b ib tb qb vs vc cb ab tg gF am rws n M Sq So,w.heap.size<=B/\e= .returned (.tuple #[.pointer (some ⟨b,0,none⟩),.int .i64 0])/\uN B w' b ib tb qb bu mn li l.length (fG (gI l)) 0 vs vc cb ab tg gF am rws (gG l) (puts mn (bR (gG l) (gI l)) (s0 (gI l)) (sd (fun _=>0) (bR (gG l) (gI l)))) 0 n M (sd (fun _=>0) (bR (gG l) (gI l))).length Sq So/\n<=fG (gI l)/\M<=fG (gI l)/\Below w.heap.size w w'/\∀k,(k=b\/gZ tg k\/So k\/Sq k)->w.heap.size<=k:=by
 have hl6:l.length<=10000:=by have:=hg.many;simpa[gI] using this
 obtain⟨V0,CJ⟩:∃V0,V0=w.alloc (.cells #[.int .i64 bu,.int .i64 mn,.int .i64 li] 24):=⟨_,rfl⟩
 have hB0:Below w.heap.size w V0:=by rw[CJ];exact(Below.refl _ w).alloc (Nat.le_refl _) _
 have hp0:V0.heap[w.heap.size]?=some (.cells #[.int .i64 bu,.int .i64 mn,.int .i64 li] 24 (0,0)):=by rw[CJ];exact bG _ _
 have e0:V0.cell? ⟨w.heap.size,0,none⟩=some (.int .i64 bu):=aj hp0 0
 have e1:V0.cell? ⟨w.heap.size,1,none⟩=some (.int .i64 mn):=aj hp0 1
 have e2:V0.cell? ⟨w.heap.size,2,none⟩=some (.int .i64 li):=aj hp0 2
 have Xv:=Lib.hid (eZ.calls k3 A c0 l bu mn li 0 V0 (Kd.bY hC hB0) hc0 hwr)
 have Dt:Hid (∀W,Below w.heap.size w W->_):=Lib.hid fun W hB=>ix_new (Kd.bY hC hB) hc0 xZ hpos hg hsz
 have H0:=Lib.hid (And.intro hB0 hp0)
 have HG:=Lib.hid (And.intro hg (And.intro hlen (And.intro hvp hsum)))
 clear hC xZ hpos hwr hg hsz hlen hvp hsum hB0 hp0
 rw[CJ] at Xv e0 e1 e2 H0
 clear CJ
 go_enter Tryz.func45,Tryz.ntmps45
 go_wp2_with (first
  |(go_at_call 79;refine Xv.out.mono ?_;clear Xv;rintro e w1 ⟨rfl,hB1⟩;have H1:=Lib.hid (H0.out.1.trans (hB1.mono H0.out.1.size));have BF:=Lib.hid ((hB1.block _ (Bs.bA H0.out.2)).trans H0.out.2);clear hB1)
  |(go_at_call 80;refine(Dt.out _ H1.out).mono ?_;clear Dt;rintro e w3 ⟨ib,vs,vc,cb,ab,tg,gF,am,rws,n,M,rfl,hix3,hcv3,hn3,sH,hB3⟩;have H3:=Lib.hid (And.intro hix3 (And.intro hcv3 (And.intro hn3 (And.intro sH hB3))));clear hix3 hcv3 hn3 sH hB3)
  |fail)
 have hp3:=(H3.out.2.2.2.2.block _ (Bs.bA BF.out)).trans BF.out
 have hst:Below w3.heap.size w3 w3.drew/\w3.drew.cell? ⟨w.heap.size,0,none⟩=some (.int .i64 bu)/\w3.drew.cell? ⟨w.heap.size,1,none⟩=some (.int .i64 mn)/\w3.drew.cell? ⟨w.heap.size,2,none⟩=some (.int .i64 li):=⟨(Below.refl _ w3).drew,Bs.aj hp3 0,Bs.aj hp3 1,Bs.aj hp3 2⟩
 obtain⟨N,hN⟩:∃N,fG (gI l)=N:=⟨_,rfl⟩
 have HPS:Hid (∀U,Below w3.heap.size w3 U->Calls Tryz.prog 82 #[.pointer (some ⟨ib,0,none⟩)] U fun e w'=>e= .returned (.int .i64 (N:Int))/\Below U.heap.size U w'):=Lib.hid fun U hU=>by rw[<-hN];exact Kh (H3.out.1.below hU)
 have HN:=Lib.hid hN
 clear hN hp3 e0 e1 e2
 go_region_held3 (fun w'=>Below w3.heap.size w3 w'/\w'.cell? ⟨w.heap.size,0,none⟩=some (.int .i64 bu)/\w'.cell? ⟨w.heap.size,1,none⟩=some (.int .i64 mn)/\w'.cell? ⟨w.heap.size,2,none⟩=some (.int .i64 li)) (first
  |exact hst
  |exact keepN (by assumption) (by assumption)
  |exact keepNA (by assumption)) (first
  |(go_at_call 81;refine(aav _).mono ?_;rintro e w4 ⟨rfl,hy4,hB4⟩;have wG:=Lib.hid (show Below w3.heap.size w3 w4 from((Below.refl _ w3).drew).trans hB4);have HY4:=Lib.hid hy4;clear hy4)
  |(go_at_call 82;refine(HPS.out _ wG.out).mono ?_;rintro e w5 ⟨rfl,wL⟩;have GG:=Lib.hid wL))
 clear hst HPS BF
 obtain⟨V6,hV6⟩:∃V6,V6=w5.alloc (.cells #[.int .i64 bu,.int .i64 mn,.int .i64 li,.int .i64 (l.length:Int),.pointer (some ⟨ib,0,none⟩),.pointer (some ⟨w3.heap.size,0,none⟩),.pointer none,.int .i64 (N:Int),.int .i64 0] TL):=⟨_,rfl⟩
 have xx:Below w5.heap.size w5 V6:=by rw[hV6];exact(Below.refl _ w5).alloc (Nat.le_refl _) _
 have hb6:V6.heap[w5.heap.size]?=some (.cells #[.int .i64 bu,.int .i64 mn,.int .i64 li,.int .i64 (l.length:Int),.pointer (some ⟨ib,0,none⟩),.pointer (some ⟨w3.heap.size,0,none⟩),.pointer none,.int .i64 (N:Int),.int .i64 0] TL (0,0)):=by rw[hV6];exact Bs.bG _ _
 have h36:Below w3.heap.size w3 V6:=(wG.out.trans (GG.out.mono wG.out.size)).trans (xx.mono (Nat.le_trans wG.out.size GG.out.size))
 have h46:Below w4.heap.size w4 V6:=GG.out.trans (xx.mono GG.out.size)
 have hs6:w5.heap.size<V6.heap.size:=Bs.bA hb6
 have h45:w3.heap.size<w5.heap.size:=by
  have h8:=((HY4.out 0 (Nat.zero_le _)).oq w3.heap.size rfl).2
  have h9:=GG.out.size
  omega
 have c5:V6.cell? ⟨w5.heap.size,5,none⟩=some (.pointer (some ⟨w3.heap.size,0,none⟩)):=Bs.aj hb6 5
 have HLN:=Lib.hid (Zv (w:=V6) w3.heap.size [])
 have H6:=Lib.hid (And.intro hb6 (And.intro h36 h46))
 clear xx hb6 h36 h46 hB4 wL
 rw[<-hV6]
 clear hV6
 go_wp2_with (first
  |(go_at_call 83;refine HLN.out.mono ?_;clear HLN;rintro e w7 ⟨qb,Sq,rfl,hq7,uu⟩;have Vy:=(uu.block _ (Bs.bA H6.out.1)).trans H6.out.1;have z6:w7.cell? ⟨w5.heap.size,6,none⟩=some (.pointer none):=Bs.aj Vy 6;have f6:=Bs.aX Vy 6;have H7:=Lib.hid (And.intro hq7 (And.intro uu Vy));clear hq7 uu Vy)
  |fail)
 obtain⟨hq7,uu,Vy⟩:=H7.out
 obtain⟨hb6,h36,h46⟩:=H6.out
 have b37:Below w3.heap.size w3 w7:=h36.trans (uu.mono h36.size)
 have b47:Below w4.heap.size w4 w7:=h46.trans (uu.mono h46.size)
 have WK:Fr (fun k=>k=w5.heap.size) w7 (w7.setCell ⟨w5.heap.size,6,none⟩ (.pointer (some ⟨qb,0,none⟩))):=(Fr.refl (fun k=>k=w5.heap.size) w7).set (p:=⟨w5.heap.size,6,none⟩) (.inl rfl) _
 have hb8:=Bs.heap_set Vy 6 (.pointer (some ⟨qb,0,none⟩))
 have hy7:=(HY4.out w1.heap.size (H3.out.2.2.2.2.size)).same fun k hk=>b47.block k (by have e:k=w3.heap.size:=hk;have h8:=((HY4.out 0 (Nat.zero_le _)).oq w3.heap.size rfl).2;omega)
 have hQ:∀k,Sq k->V6.heap.size<=k/\k<w7.heap.size:=fun k hk=>Qu.oq hq7 k hk
 have hT:∀k,gZ tg k->w1.heap.size<=k/\k<w3.heap.size:=fun k hk=>H3.out.1.lt k hk
 obtain⟨w8,hw8⟩:∃w8,w8=w7.setCell ⟨w5.heap.size,6,none⟩ (.pointer (some ⟨qb,0,none⟩)):=⟨_,rfl⟩
 rw[<-hw8] at WK hb8 ⊢
 have h13:=H3.out.2.2.2.2.size
 have L8:uN w1.heap.size w8 w5.heap.size ib w3.heap.size qb bu mn li l.length (fG (gI l)) 0 vs vc cb ab tg gF am rws (gG l) (s0 (gI l)) 0 n M 0 Sq (fun k=>k=w3.heap.size):=by
  refine⟨by omega,?_,(H3.out.1.below b37).fr WK (fun k e hk=>?_),H3.out.2.1,HG.out.1,hy7.fr WK (fun k e hk=>?_),Qu.fr (hq7.low (by omega)) WK (fun k e hk=>?_),fun k h1 h2=>?_,fun k h1 h2=>?_,fun k h1 h2=>?_,fun hk=>?_,fun hk=>?_,fun hk=>?_⟩
  ·rw[HN.out,hb8];simp
  ·have:=(hT k hk).2;have e9:k=w5.heap.size:=e;omega
  ·have e8:k=w3.heap.size:=hk;have e9:k=w5.heap.size:=e;omega
  ·have:=(hQ k hk).1;have e9:k=w5.heap.size:=e;omega
  ·have:=(hT k h1).2;have e9:k=w3.heap.size:=h2;omega
  ·have:=(hT k h1).2;have:=(hQ k h2).1;omega
  ·have:=(hQ k h1).1;have e9:k=w3.heap.size:=h2;omega
  ·have:=(hT _ hk).2;omega
  ·have e9:w5.heap.size=w3.heap.size:=hk;omega
  ·have:=(hQ _ hk).1;omega
 have HPA:=Lib.hid (Zn L8.ix (by have:=H3.out.2.2.1;have:=HG.out.2.2.2;omega))
 have HL8:=Lib.hid L8
 have hz8:w7.heap.size<=w8.heap.size:=WK.size
 have HF8:=Lib.hid WK
 have HQ:=Lib.hid hQ
 have HT:=Lib.hid hT
 have HB37:=Lib.hid b37
 clear hq7 uu Vy hb6 h36 h46 b37 b47 WK hb8 hy7 hw8 L8 z6 f6 c5 hQ hT
 go_wp2_with (first
  |(go_at_call 85;refine HPA.out.mono ?_;clear HPA;rintro e w9 ⟨v,xs,rfl,hx1,hx2,hx3,hB9⟩;have HX:=Lib.hid (And.intro hx1 (And.intro hx2 (And.intro hx3 hB9)));clear hx1 hx2 hx3 hB9)
  |fail)
 obtain⟨hx1,hx2,hx3,hB9⟩:=HX.out
 have hsd:sd (fun _=>0) (bR (gG l) (gI l))=xs:=aao ⟨hx1,fun q=>(hx2 q).trans ⟨fun h=>Ne.symm h,fun h=>Ne.symm h⟩⟩
 have hxl:xs.length<90000:=by rw[<-hsd];exact HG.out.2.1
 have L9:=HL8.out.below hB9
 have hpt:=tr_put L9 hx3 (fun g hg hk=>by have h8:=(eG hx3 hg).1;have h9:=(HQ.out g hk).2;omega) (Nat.zero_le _) (by omega) (fun q hq=>HG.out.2.2.1 q ((hx2 q).1 hq))
 have HPT:=Lib.hid hpt
 have HSD:=Lib.hid hsd
 clear hx1 hx2 hx3 hB9 hsd L9 hpt
 go_wp2_with (first
  |(go_at_call 84;refine HPT.out.mono ?_;clear HPT;rintro e w10 ⟨rfl,Ga,YJ,hF10,hI10⟩;have H10:=Lib.hid (And.intro YJ (And.intro hF10 hI10));clear YJ hF10 hI10)
  |fail)
 go_ret2
 obtain⟨YJ,hF10,hI10⟩:=H10.out
 have hz1:=H1.out.size
 have b18:Below w1.heap.size w1 w7:=(H3.out.2.2.2.2).trans (HB37.out.mono H3.out.2.2.2.2.size)
 have c8:Below w1.heap.size w1 w8:=b18.trans (HF8.out.toBelow (fun k e=>by have e9:k=w5.heap.size:=e;omega) b18.size)
 have c9:Below w1.heap.size w1 w9:=c8.trans ((HX.out.2.2.2).mono c8.size)
 have c10:Below w1.heap.size w1 w10:=c9.trans (hF10.toBelow (fun k hk=>by have:=(HQ.out k hk).1;omega) c9.size)
 have hSq:∀k,Ga k->w1.heap.size<=k:=fun k hk=>by
  rcases hI10 k hk with h8|h8
  ·have:=(HQ.out k h8).1;omega
  ·exact Nat.le_trans c9.size h8
 refine⟨w1.heap.size,w5.heap.size,ib,w3.heap.size,qb,vs,vc,cb,ab,tg,gF,am,rws,n,M,Ga,(fun k=>k=w3.heap.size),hz1,rfl,?_,H3.out.2.2.1,H3.out.2.2.2.1,H1.out.trans (c10.mono hz1),fun k hk=>?_⟩
 ·rw[HSD.out]
  rw[Nat.zero_add] at YJ
  exact YJ
 ·rcases hk with h9|h9|h9|h9
  ·omega
  ·have:=(HT.out k h9).1;omega
  ·have e9:k=w3.heap.size:=h9;omega
  ·have:=hSq k h9;omega
end Go.Proofs.YtilpincgjlclpaaGreat.Ob
end
section
namespace Go.Proofs.YtilpincgjlclpaaGreat.Ob
open Go Go.RowKit Bs Mp jL Hp
open Go.Proofs.ae.au (iV)
open Tm (It St lI jd puts vQ Ak bt qM fK)
section
variable {B b ib tb qb nw fst ro cb ab tc n M zI:Nat} {w w':World} {bu mn li:Int} {vs vc:Value} {tg:Nat->Tag} {gF:List Nat} {am:List (P2×Value)} {rws:P2->List Nat} {cs:List Int} {s:St} {Sq So T:Nat->Prop}
set_option maxHeartbeats 8000000 in
set_option maxRecDepth 100000 in
theorem KQ (h:uN B w b ib tb qb bu mn li nw fst ro vs vc cb ab tg gF am rws cs s tc n M zI Sq So) (hro:bu<=(ro:Int)):
  Calls Tryz.prog 46 #[.pointer (some ⟨b,0,none⟩)] w fun e w'=>e= .returned (.tuple #[.agg #[.string (⟨#[]⟩:ByteArray),.string (⟨#[]⟩:ByteArray)],.bool false])/\uN B w' b ib tb qb bu mn li nw fst ro vs vc cb ab tg gF am rws cs s tc n M zI Sq So/\Below w.heap.size w w':=by
 obtain⟨V,hV⟩:∃V,V=w.alloc (.cells #[.string (⟨#[]⟩:ByteArray),.string (⟨#[]⟩:ByteArray)] 47):=⟨_,rfl⟩
 have ji:Below w.heap.size w V:=by rw[hV];exact(Below.refl _ w).alloc (Nat.le_refl _) _
 have hr0:V.heap[w.heap.size]?=some (.cells #[.string (⟨#[]⟩:ByteArray),.string (⟨#[]⟩:ByteArray)] 47 (0,0)):=by rw[hV];exact bG _ _
 have h1:=h.below ji
 have c8:V.cell? ⟨b,8,none⟩=some (.int .i64 (ro:Int)):=aj h1.blk 8
 have c8d:V.drew.cell? ⟨b,8,none⟩=some (.int .i64 (ro:Int)):=c8
 have c0:V.cell? ⟨b,0,none⟩=some (.int .i64 bu):=aj h1.blk 0
 have c0d:V.drew.cell? ⟨b,0,none⟩=some (.int .i64 bu):=c0
 have hge:decide ((ro:Int)>=bu)=true:=decide_eq_true (by omega)
 have JV:decide (bu<=(ro:Int))=true:=decide_eq_true (by omega)
 have HL:=Lib.hid (And.intro h (And.intro ji hr0))
 clear h h1 ji hr0
 go_enter Tryz.func46,Tryz.ntmps46
 go_wp2_with fail
 rw[<-hV]
 clear hV
 go_quiet (fail)
 obtain⟨V1,hV1⟩:∃V1,V1=V.drewN nq:=⟨_,rfl⟩
 have hB1:Below V.heap.size V V1:=by rw[hV1];exact⟨rfl,rfl,rfl,Nat.le_refl _,fun _ _=>rfl⟩
 rw[<-hV1]
 have hr1:=(hB1.block _ (bA HL.out.2.2)).trans HL.out.2.2
 have z0:V1.cell? ⟨w.heap.size,0,none⟩=some (.string (⟨#[]⟩:ByteArray)):=aj hr1 0
 have z1:V1.cell? ⟨w.heap.size,1,none⟩=some (.string (⟨#[]⟩:ByteArray)):=aj hr1 1
 have f0:=aX hr1 0
 have f1:=aX hr1 1
 have hs:=heap_set (heap_set hr1 0 (.string (⟨#[]⟩:ByteArray))) 1 (.string (⟨#[]⟩:ByteArray))
 have hBw:Below w.heap.size w V1:=HL.out.2.1.trans (hB1.mono HL.out.2.1.size)
 have HB2:=Lib.hid (And.intro hBw hs)
 clear hV1 hB1 hr1 hs hBw c8 c8d c0 c0d hge JV
 go_wp2
 apply bodyPost_ret
 ·exact iV rfl _ _ w.heap.size 47 #[.string (⟨#[]⟩:ByteArray),.string (⟨#[]⟩:ByteArray)] (0,0) _ rfl HB2.out.2 Tryz.underlying47 rfl (by kernel_rfl)
 ·rfl
 ·have hf:=((Fr.dL (S:=fun k=>w.heap.size<=k) HB2.out.1).set (p:=⟨w.heap.size,0,none⟩) (.inr (Nat.le_refl _)) (.string (⟨#[]⟩:ByteArray))).set (p:=⟨w.heap.size,1,none⟩) (.inr (Nat.le_refl _)) (.string (⟨#[]⟩:ByteArray))
  have hb:=hf.toBelow (fun _ h=>h) (Nat.le_refl _)
  exact⟨rfl,HL.out.1.below hb,hb⟩
end
end Go.Proofs.YtilpincgjlclpaaGreat.Ob
end
