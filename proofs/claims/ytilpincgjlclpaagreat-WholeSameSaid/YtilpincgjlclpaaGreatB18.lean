import Derived.Test.YtilpincgjlclpaaGreatB17
set_option linter.unusedVariables false
set_option linter.unusedSimpArgs false
section
namespace Go.Proofs.YtilpincgjlclpaaGreat.Ob
open Go Go.RowKit Bs Mp jL
section
variable {B b cb ab left touched n M:Nat} {w w':World} {vs vc:Value} {tg:Nat->Tag} {gF:List Nat} {am:List (P2×Value)} {ws:List (List Int)} {cs:List Int} {f:P2->Int} {rws:P2->List Nat} {T:Nat->Prop}
def MgI (B b:Nat) (vs vc:Value) (cb ab:Nat) (tg:Nat->Tag) (gF:List Nat) (ws:List (List Int)) (cs:List Int) (left touched n M:Nat) (p:P2) (s:Int) (rW:Nat) (W3:World) (D:List Nat) (k:Nat) (wr:World):Prop:=
 ∃Ap XP zW n1 M1 BA wm,nL B wr b vs vc cb ab Ap gF XP BA cs (bR cs BA) zW left (touched+D.length) n1 M1/\Mrg p s ws D BA k/\Gd cs BA/\xP BA zW (fun q=>q=p)/\mp ou wr rW wm/\Was (bR cs ws) (bR cs BA) wm/\wm.length<=5*k/\n1<=n+5*k/\M1<=M+5*k/\Fr (fun j=>gZ tg j\/j=rW) W3 wr/\Into W3 (gZ tg) (gZ Ap)
def WsI (f f1:P2->Int) (rW:Nat) (wm:List (P2×Int)) (wb:World) (A2:List (P2×Int)) (wq:World):Prop:=
 ∃Di,mp ou wq rW Di/\Was f f1 Di/\(∀x∈A2,Mp.get Di x.1≠none)/\(∀q,Mp.get wm q≠none->Mp.get Di q≠none)/\Di.length<=wm.length+A2.length/\Fr (fun j=>j=rW) wb wq
theorem keep6 {T:Nat->Prop} {a1 a2 a3 a4 a5:Addr} {v1 v2 v3 v4 v5:Value} {U w1:World} (h:U.cell? a1=some v1/\U.cell? a2=some v2/\U.cell? a3=some v3/\U.cell? a4=some v4/\U.cell? a5=some v5) (hf:Fr T U w1) (n1:¬T a1.block) (n2:¬T a2.block) (n3:¬T a3.block) (n4:¬T a4.block) (n5:¬T a5.block):w1.cell? a1=some v1/\w1.cell? a2=some v2/\w1.cell? a3=some v3/\w1.cell? a4=some v4/\w1.cell? a5=some v5:=
 ⟨hf.cell h.1 n1,hf.cell h.2.1 n2,hf.cell h.2.2.1 n3,hf.cell h.2.2.2.1 n4,hf.cell h.2.2.2.2 n5⟩
set_option maxHeartbeats 8000000 in
set_option maxRecDepth 100000 in
theorem Zm (h:nL B w b vs vc cb ab tg gF am ws cs (bR cs ws) rws left touched n M) (g:Gd cs ws) (hcov:xP ws rws (fun _=>False)) (hleft:left=fG ws) {p:P2} {s:Int} (hp:lD p.1/\lD p.2) (hs:0<=s/\s<=1000000) (hr:rws p≠[]) (hs1:s≠p.1) (hs2:s≠p.2) (hn:n+5*fG ws<=100000) (hM:M+5*fG ws<=900000) (ht:touched<=1000000000):
  Calls Tryz.prog 89 #[.pointer (some ⟨b,0,none⟩),pv p,.int .i64 s] w fun e w'=>∃(k:Nat) (v:Value) (xs:List P2) (xy:Nat->Tag) (Lf:List (P2×Value)) (lS:P2->List Nat) (n' M' rT:Nat),e= .returned (.tuple #[.int .i64 (k:Int),v])/\nL B w' b vs vc cb ab xy gF Lf (ws.map (mI p s)) cs (bR cs (ws.map (mI p s))) lS (fG (ws.map (mI p s))) rT n' M'/\xP (ws.map (mI p s)) lS (fun _=>False)/\Gd cs (ws.map (mI p s))/\fG (ws.map (mI p s))+k=fG ws/\n'<=n+5*k/\M'<=M+5*k/\rT<=touched+ws.length/\SD (bR cs ws) (bR cs (ws.map (mI p s))) xs/\w'.ownsRow w.heap.size TP 2 v xs.length (xs.flatMap qO)/\Fr (gZ tg) w w'/\Into w (gZ tg) (gZ xy):=by
 obtain⟨p1,p2⟩:=p
 have hmm:=@run_makeMap Tryz.prog
 obtain⟨V,hV⟩:∃V,V=(w.alloc (.cells #[.pointer (some ⟨b,0,none⟩)] 145)).alloc (.cells #[.int .i64 p1,.int .i64 p2] 160):=⟨_,rfl⟩
 have ji:Below w.heap.size w V:=by rw[hV];exact((Below.refl _ w).alloc (Nat.le_refl _) _).alloc (by simp) _
 have hsV:V.heap.size=w.heap.size+2:=by rw[hV];simp
 have hxb:V.heap[w.heap.size]?=some (.cells #[.pointer (some ⟨b,0,none⟩)] 145 (0,0)):=by rw[hV];exact dw (bG _ _) _
 have hpb:V.heap[w.heap.size+1]?=some (.cells #[.int .i64 p1,.int .i64 p2] 160 (0,0)):=by
  rw[hV]
  have:=bG (w.alloc (.cells #[.pointer (some ⟨b,0,none⟩)] 145)) (.cells #[.int .i64 p1,.int .i64 p2] 160)
  rwa[World.size_alloc] at this
 have k0:V.cell? ⟨w.heap.size,0,none⟩=some (.pointer (some ⟨b,0,none⟩)):=aj hxb 0
 have q0:V.cell? ⟨w.heap.size+1,0,none⟩=some (.int .i64 p1):=aj hpb 0
 have q1:V.cell? ⟨w.heap.size+1,1,none⟩=some (.int .i64 p2):=aj hpb 1
 have hwd:=Zo (h.below ji) (by omega) hp hr
 have HV:=Lib.hid (And.intro ji (And.intro hsV (And.intro hxb hpb)))
 have HH:=Lib.hid (And.intro h (And.intro g (And.intro hcov hleft)))
 clear ji hsV hxb hpb h g hcov hr hleft
 go_enter Tryz.func89,Tryz.ntmps89
 go_wp2_with fail
 rw[<-hV]
 clear hV
 go_wp2_with (go_at_call 124;refine hwd.mono ?_;rintro e w1 ⟨v,ys,rfl,hnd,hmem,hyo,hB1⟩;have HY:=Lib.hid (And.intro hnd (And.intro hmem (And.intro hyo hB1)));clear hnd hmem hyo hB1)
 obtain⟨Ay,cy,hvy⟩:=bU HY.out.2.2.1
 subst hvy
 have PW:Below w.heap.size w w1:=HV.out.1.trans (HY.out.2.2.2.mono HV.out.1.size)
 have h1:=HH.out.1.below PW
 have hs1z:=HY.out.2.2.2.size
 obtain⟨w2,hdl,hM2,hF2,hs2z⟩:=wJ (T:=VK) w1.drew h1.drew.amp (show VK.ok (p1,p2) from hp) 0
 have e2:(Builtin.delete_ #[194,160] 0 #[.map (some ab),.agg #[.int .i64 p1,.int .i64 p2]]).run Tryz.prog w1.drew= .ok (.tuple #[]) w2:=hdl
 have xb1:=(HY.out.2.2.2.block _ (bA HV.out.2.2.1)).trans HV.out.2.2.1
 have pb1:=(HY.out.2.2.2.block _ (bA HV.out.2.2.2)).trans HV.out.2.2.2
 have j0:w1.cell? ⟨w.heap.size,0,none⟩=some (.pointer (some ⟨b,0,none⟩)):=aj xb1 0
 have j0d:w1.drew.cell? ⟨w.heap.size,0,none⟩=some (.pointer (some ⟨b,0,none⟩)):=j0
 have j1:w1.cell? ⟨w.heap.size+1,0,none⟩=some (.int .i64 p1):=aj pb1 0
 have j1d:w1.drew.cell? ⟨w.heap.size+1,0,none⟩=some (.int .i64 p1):=j1
 have j2:w1.cell? ⟨w.heap.size+1,1,none⟩=some (.int .i64 p2):=aj pb1 1
 have j2d:w1.drew.cell? ⟨w.heap.size+1,1,none⟩=some (.int .i64 p2):=j2
 have j3:w1.cell? ⟨b,3,none⟩=some (.map (some ab)):=aj h1.blk 3
 have j3d:w1.drew.cell? ⟨b,3,none⟩=some (.map (some ab)):=j3
 have habl:ab<w.heap.size:=HH.out.1.amp.lt
 have hsz2:w.heap.size+2<=w1.heap.size:=by have:=HV.out.2.1;omega
 have hs12:w2.heap.size=w1.heap.size:=hs2z
 have h2:=h1.drew.del hM2 hF2
 have hx2:=hF2.heap (w:=w1.drew) xb1 (by omega)
 have hp2:=hF2.heap (w:=w1.drew) pb1 (by omega)
 have hy2:=hF2.own (w:=w1.drew) ((Fr.refl none_ w1).drew.own HY.out.2.2.1 (fun _ _ h=>h)) (fun g hg=>by have:=(eG HY.out.2.2.1 hg).1;have:=HV.out.2.1;omega)
 obtain⟨W3,hW3⟩:∃W3,W3=w2.alloc (.map #[] 0):=⟨_,rfl⟩
 have Gj:Below w2.heap.size w2 W3:=by rw[hW3];exact(Below.refl _ w2).alloc (Nat.le_refl _) _
 have hm3:mp ou W3 w2.heap.size []:=by rw[hW3];exact oW w2
 have hs3:W3.heap.size=w2.heap.size+1:=by rw[hW3];simp
 have WL:Fr (gZ tg) w W3:=by
  have h9:=((Fr.dL (S:=gZ tg) PW).drew).trans hF2 (fun i hi=> .inl (show tg i≠ .no by rw[hi,HH.out.1.Gw];simp))
  exact h9.below Gj
 have h3:=h2.below Gj
 have hx3:=(Gj.block _ (bA hx2)).trans hx2
 have hp3:=(Gj.block _ (bA hp2)).trans hp2
 have hy3:=(Fr.dL (S:=none_) Gj).own hy2 (fun _ _ h=>h)
 have htn:∀k,w.heap.size<=k->tg k= .no:=fun k hk=>by
  by_cases hn:tg k= .no
  ·exact hn
  ·have:=(HH.out.1.lt k hn).2;omega
 have hcov3:xP ws (fun r=>if r=(p1,p2) then[] else rws r) (fun q=>q=(p1,p2)):=fun q j u hu hq=>by
  by_cases e:q=(p1,p2)
  ·exact .inl e
  ·right
   simp only[if_neg e]
   rcases HH.out.2.2.1 q j u hu hq with h9|h9
   ·exact h9.elim
   ·exact h9
 obtain⟨rW,hwm⟩:∃rW,rW=w2.heap.size:=⟨_,rfl⟩
 have hyge:∀g,(Value.slice Ay ys.length cy).ownBlock=some g->w.heap.size+2<=g/\g<rW:=fun g hg=>by
  have h8:=HV.out.2.1
  have h9:=eG HY.out.2.2.1 hg
  omega
 have HYL:Hid (ys.length<=ws.length):=Lib.hid (zH ws.length ys HY.out.1 (fun i hi=>((HH.out.1.RA _).2 i ((HY.out.2.1 i).1 hi))))
 have hyl:ys.length<=1000000:=by
  have h9:ys.length<=ws.length:=zH ws.length ys HY.out.1 (fun i hi=>((HH.out.1.RA _).2 i ((HY.out.2.1 i).1 hi)))
  have:=HH.out.2.1.many
  omega
 have HW:=Lib.hid (And.intro h3 (And.intro hx3 (And.intro hp3 (And.intro hy3 (And.intro htn (And.intro WL hyge))))))
 have HST:Hid (MgI B b vs vc cb ab tg gF ws cs left touched n M (p1,p2) s rW W3 [] 0 W3):=Lib.hid ⟨tg,_,_,n,M,ws,[],h3,Mrg.start _ _ _,HH.out.2.1,hcov3,by rw[hwm];exact hm3,⟨fun _ _=>rfl,fun q v h=>by simp[Mp.get] at h⟩,by simp,by omega,by omega,Fr.refl _ _,Into.refl _ _⟩
 have hsw3:w.heap.size+2<=rW/\W3.heap.size=rW+1:=by omega
 have Pn:=Lib.hid hsw3
 clear hsw3 hs12 hs1z hsz2 hyl
 clear h1 hdl hM2 hF2 hs2z xb1 pb1 h2 hx2 hp2 hy2 hm3 hs3 WL h3 hx3 hp3 hy3 htn hcov3 Gj hyge PW k0 q0 q1 hwd
 go_region
 go_wp2_with fail
 rw[<-hW3,<-hwm]
 clear hW3 hwm j0 j0d j1 j1d j2 j2d j3 j3d e2 hmm
 go_loopg [10,32] ys.length (fun gk v10 v32 wr=>∃(D R:List Nat) (k:Nat),v10= .int .i64 (k:Int)/\v32= .int .i64 (D.length:Int)/\R.length=gk/\Hid (ys=D++R)/\Hid (MgI B b vs vc cb ab tg gF ws cs left touched n M (p1,p2) s rW W3 D k wr))
 case atStart=>exact⟨[],ys,0,rfl,rfl,rfl,Lib.hid rfl,HST⟩
 case round=>
  obtain⟨D,R,k,rfl,rfl,qy,HX,HI⟩:=hrel
  cases R with
  |nil=>
   have hxe:ys=D:=by rw[HX.out];simp
   have hge:¬D.length<ys.length:=by rw[hxe];omega
   obtain⟨Ap,XP,zW,n1,M1,BA,wm,h1,hm,g1,hc1,hM1,hw1,hl1,hn1,hMM,hf1,hi1⟩:=HI.out
   have hwe:BA=ws.map (mI (p1,p2) s):=hm.end fun j u hu hq=>by
    rcases HH.out.2.2.1 (p1,p2) j u hu hq with h9|h9
    ·exact h9.elim
    ·rw[<-hxe];exact(HY.out.2.1 j).2 h9
   subst hwe
   have Le:=Lib.hid hxe
   clear hxe
   have hun:∀k,w.heap.size<=k->k<=rW->¬gZ Ap k:=fun j h8 h9 hk=>by
    rcases hi1 j hk with hj|hj
    ·exact hj (HW.out.2.2.2.2.1 j h8)
    ·have:=Pn.out.2;omega
   have hxr:=hf1.heap HW.out.2.1 (by rintro(e|e);exact e (HW.out.2.2.2.2.1 _ (Nat.le_refl _));have:=Pn.out.1;omega)
   have j0:wr.cell? ⟨w.heap.size,0,none⟩=some (.pointer (some ⟨b,0,none⟩)):=aj hxr 0
   have k4:wr.cell? ⟨b,4,none⟩=some (.int .i64 (left:Int)):=aj h1.blk 4
   have f4:wr.frozen? ⟨b,4,none⟩=false:=aX h1.blk 4
   have hsum:=hm.sum
   have hlen:=HH.out.2.1.len
   have hlt:=HH.out.2.2.2
   have hwl:wrap64 ((left:Int)-(k:Int))=((fG (ws.map (mI (p1,p2) s)):Nat):Int):=by unfold wrap64;omega
   have hwl2:(left:Int)-(k:Int)=((fG (ws.map (mI (p1,p2) s)):Nat):Int):=by omega
   have ha:=h1.num (left':=fG (ws.map (mI (p1,p2) s))) (rT:=touched+D.length) (i:=4) (u:= .int .i64 ((fG (ws.map (mI (p1,p2) s)):Nat):Int)) (by simp)
   have Hf:Fr (fun j=>gZ Ap j) wr (wr.setCell ⟨b,4,none⟩ (.int .i64 ((fG (ws.map (mI (p1,p2) s)):Nat):Int))):=(Fr.refl _ wr).set (p:=⟨b,4,none⟩) (.inl (show Ap b≠ .no by rw[h1.Cc];simp)) _
   obtain⟨wa,wQ⟩:∃wa,wa=wr.setCell ⟨b,4,none⟩ (.int .i64 ((fG (ws.map (mI (p1,p2) s)):Nat):Int)):=⟨_,rfl⟩
   rw[<-wQ] at ha Hf
   have hbx:wa.heap[w.heap.size]?=some (.cells #[.pointer (some ⟨b,0,none⟩)] 145 (0,0)):=Hf.heap hxr (hun _ (Nat.le_refl _) (by have:=Pn.out.1;omega))
   have hMa:=hM1.same (Hf.blk rW hM1.lt (hun _ (by have:=Pn.out.1;omega) (Nat.le_refl _)))
   have uk:Sep (fun j=>j=rW) (gZ Ap):=fun j h8 h9=>hun j (by have:=Pn.out.1;omega) (by omega) h9
   have hdel:=BM (g:=127) (cb:= .pointer (some ⟨w.heap.size,0,none⟩)) (enters_of Tryz.func127 (by kernel_rfl) rfl) (fun q c=>c==bR cs (ws.map (mI (p1,p2) s)) q) wm wa hMa (fun W q c hF hq=>merge1 (ha.fr hF uk) (hF.heap hbx (by have:=Pn.out.1;omega)) q hq c)
   have hwl5:wm.length<=100000:=by omega
   have HZ:=Lib.hid (And.intro ha (And.intro Hf (And.intro hf1 (And.intro hi1 (And.intro hm (And.intro g1 (And.intro hc1 (And.intro hw1 (And.intro hMa (And.intro hn1 (And.intro hMM hwl5)))))))))))
   clear h1 hm g1 hc1 hM1 hw1 hl1 hn1 hMM hf1 hi1 hxr ha Hf hbx hMa uk hun hwl2 hlt hlen hsum
   go_wp2_with (first
    |fail)
   rw[<-wQ]
   clear wQ j0 k4 f4
   go_wp2_with (first
    |(go_at_call 126;refine hdel.mono ?_;rintro e w5 ⟨rfl,Hg,Gl⟩;have hk:=yh (some rW) w5;have hs:=wh cmpM (some rW) _ (Nat.le_trans (List.length_filter_le _ _) (by omega)) Hg.nodup (w5.alloc (.cells #[.map (some rW)] 207)) w5.heap.size (by simp) (aj (bG w5 _) 0) (.inr ⟨_,rfl,Hg.alloc _⟩);have Lu:=Lib.hid Gl;clear Hg Gl)
    |(go_at_call 129;refine hk.mono ?_;rintro e w6 ⟨rfl,rfl⟩)
    |(go_at_call 128;refine hs.mono ?_;rintro e w7 ⟨u,xs,rfl,y1,y2,y3,y4⟩;have HR:=Lib.hid (And.intro y1 (And.intro y2 (And.intro y3 y4)));clear y1 y2 y3 y4))
   go_ret2
   obtain⟨ha,Hf,hf1,hi1,hm,g1,hc1,hw1,hMa,hn1,hMM,hwl5⟩:=HZ.out
   obtain⟨y1,y2,y3,y4⟩:=HR.out
   have htn:=HW.out.2.2.2.2.1
   have hun:∀j,w.heap.size<=j->j<=rW->¬gZ Ap j:=fun j h8 h9 hk=>by
    rcases hi1 j hk with hj|hj
    ·exact hj (htn j h8)
    ·have:=Pn.out.2;omega
   have hi0:Into w (gZ tg) (gZ Ap):=fun j hj=>(hi1 j hj).imp id (fun h9=>by have:=Pn.out;omega)
   have hsw:=Pn.out
   have hF1:Fr (gZ tg) w wr:=HW.out.2.2.2.2.2.1.trans hf1 (fun j hj=>hj.elim .inl (fun e=> .inr (by omega)))
   have hF2:Fr (gZ tg) w wa:=hF1.trans Hf (fun j hj=>(hi1 j hj).imp id (fun h9=>by omega))
   have qR:Fr (gZ tg) w w5:=hF2.trans Lu.out (fun j hj=> .inr (by omega))
   have uw:Fr (gZ tg) w w7:=(qR.alloc _).below y4
   have h5:=(ha.fr Lu.out (fun j h8 h9=>hun j (by omega) (by omega) h9)).below ((Below.refl _ w5).alloc (Nat.le_refl _) (.cells #[.map (some rW)] 207))
   refine⟨k,u,xs,Ap,XP,zW,n1,M1,touched+D.length,rfl,h5.below y4,fun q j v hv hq=>?_,g1,hm.sum,hn1,hMM,?_,hw1.end hMa.nodup y1 y2,zK y3 ?_,uw,hi0⟩
   ·rcases hc1 q j v hv hq with h9|h9
    ·exfalso
     obtain⟨u0,hu0,rfl⟩:=List.mem_map.1 (List.mem_of_getElem? hv)
     rw[h9,wW hs1 hs2] at hq
     omega
    ·exact .inr h9
   ·have:=HYL.out
    rw[Le.out] at this
    omega
   ·have:=qR.size
    simp
    omega
  |cons i R=>
   obtain⟨gk,rfl⟩:∃g,gk=g+1:=⟨R.length,by simpa using qy.symm⟩
   obtain⟨Ap,XP,zW,n1,M1,BA,wm,h1,hm,g1,hc1,hM1,hw1,hl1,hn1,hMM,hf1,hi1⟩:=HI.out
   have hxe:=HX.out
   have hyi:ys[D.length]?=some i:=by rw[hxe];simp
   have hlt:D.length<ys.length:=(List.getElem?_eq_some_iff.1 hyi).1
   have hiD:i∉D:=by
    have h8:=HY.out.1
    rw[hxe,List.nodup_append] at h8
    exact fun h9=>h8.2.2 i h9 i (by simp) rfl
   have hir:i∈rws (p1,p2):=(HY.out.2.1 i).1 (List.mem_of_getElem? hyi)
   have hiw:i<ws.length:=(HH.out.1.RA _).2 i hir
   obtain⟨u,hu⟩:∃u,ws[i]?=some u:=⟨_,List.getElem?_eq_getElem hiw⟩
   obtain⟨hu1,hm2⟩:=hm.step hu hiD
   obtain⟨c,hic⟩:∃c,cs[i]?=some c:=⟨_,List.getElem?_eq_getElem (by rw[HH.out.1.lens.2];exact hiw)⟩
   obtain⟨kb,hik⟩:∃kb,gF[i]?=some kb:=⟨_,List.getElem?_eq_getElem (by rw[HH.out.1.lens.1];exact hiw)⟩
   obtain⟨S,hSq,hSt⟩:=h1.sqs i kb u hik hu1
   have hsw:=Pn.out
   have htn:=HW.out.2.2.2.2.1
   have hun:∀j,w.heap.size<=j->j<=rW->¬gZ Ap j:=fun j h8 h9 hk=>by
    rcases hi1 j hk with hj|hj
    ·exact hj (htn j h8)
    ·omega
   have Qh:∀j,w.heap.size<=j->j<rW->¬(gZ tg j\/j=rW):=fun j h8 h9 hk=>by
    rcases hk with hk|hk
    ·exact hk (htn j h8)
    ·omega
   have hxr:=hf1.heap HW.out.2.1 (Qh _ (Nat.le_refl _) (by omega))
   have hpr:=hf1.heap HW.out.2.2.1 (Qh _ (by omega) (by omega))
   have hyr:=hf1.own HW.out.2.2.2.1 (fun g hg=>Qh g (by have:=HW.out.2.2.2.2.2.2 g hg;omega) (HW.out.2.2.2.2.2.2 g hg).2)
   obtain⟨gy,hAy,hgy,hgyl,hcy,hcyv,hfy⟩:=gz hyr (by omega)
   have y0:wr.cell? ⟨gy,D.length,none⟩=some (.int .i64 (i:Int)):=hcyv _ _ (ints_at hyi)
   obtain⟨As,cs_,hvs⟩:=bU h1.vso
   have hvo:=h1.vso
   rw[hvs] at hvo
   obtain⟨gs,hAs,hgs,hgsl,hcs,hcsv,hfs⟩:=gz hvo (by rw[HH.out.1.lens.1];omega)
   have j0:wr.cell? ⟨w.heap.size,0,none⟩=some (.pointer (some ⟨b,0,none⟩)):=aj hxr 0
   obtain⟨tc,htc⟩:∃tc,tc=touched+D.length:=⟨_,rfl⟩
   have k5:wr.cell? ⟨b,5,none⟩=some (.int .i64 (tc:Int)):=by rw[htc];exact aj h1.blk 5
   have f5:wr.frozen? ⟨b,5,none⟩=false:=aX h1.blk 5
   have hDl:D.length<=10000:=by have:=HYL.out;have:=HH.out.2.1.many;omega
   have MQ:tc<=2000000000:=by omega
   obtain⟨wa,wQ⟩:∃wa,wa=wr.setCell ⟨b,5,none⟩ (.int .i64 ((tc:Int)+1)):=⟨_,rfl⟩
   have ha:nL B wa b vs vc cb ab Ap gF XP BA cs (bR cs BA) zW left (touched+D.length+1) n1 M1:=by
    rw[wQ]
    exact h1.num (i:=5) (by rw[htc];simp)
   have Hf:Fr (gZ Ap) wr wa:=by
    rw[wQ]
    exact(Fr.refl _ wr).set (p:=⟨b,5,none⟩) (.inl (show Ap b≠ .no by rw[h1.Cc];simp)) _
   have Gn:=Hf.heap hxr (hun _ (Nat.le_refl _) (by omega))
   have hpa:=Hf.heap hpr (hun _ (by omega) (by omega))
   have hsqa:Sq B wa.drew kb u S:=by
    rw[wQ]
    exact hSq.same fun k hk=>Below.heap_setCell _ _ _ k (fun e=>by
     have h8:=hSt k hk
     rw[e,h1.Cc] at h8
     cases h8)
   have hvoa:=ha.vso
   rw[hvs] at hvoa
   have hsm:=Wh hsqa (p:=(p1,p2)) hs
   have a1:wa.cell? ⟨w.heap.size,0,none⟩=some (.pointer (some ⟨b,0,none⟩)):=aj Gn 0
   have a2:wa.cell? ⟨w.heap.size+1,0,none⟩=some (.int .i64 p1):=aj hpa 0
   have a3:wa.cell? ⟨w.heap.size+1,1,none⟩=some (.int .i64 p2):=aj hpa 1
   have a4:wa.cell? ⟨b,0,none⟩=some (.slice (some ⟨gs,0,none⟩) gF.length cs_):=by rw[<-hAs,<-hvs];exact aj ha.blk 0
   have a5:wa.cell? ⟨gs,i,none⟩=some (.pointer (some ⟨kb,0,none⟩)):=by
    obtain⟨gs',hAs',_,_,_,hcsv',_⟩:=gz hvoa (by rw[HH.out.1.lens.1];omega)
    have:gs'=gs:=by rw[hAs] at hAs';simpa using hAs'.symm
    rw[this] at hcsv'
    exact hcsv' i _ (by rw[List.getElem?_map,hik];rfl)
   have hsbl:i<gF.length:=by rw[HH.out.1.lens.1];exact hiw
   have hsbc:gF.length<=cs_:=hcs
   have hst:wa.drew.cell? ⟨w.heap.size,0,none⟩=some (.pointer (some ⟨b,0,none⟩))/\wa.drew.cell? ⟨w.heap.size+1,0,none⟩=some (.int .i64 p1)/\wa.drew.cell? ⟨w.heap.size+1,1,none⟩=some (.int .i64 p2)/\wa.drew.cell? ⟨b,0,none⟩=some (.slice (some ⟨gs,0,none⟩) gF.length cs_)/\wa.drew.cell? ⟨gs,i,none⟩=some (.pointer (some ⟨kb,0,none⟩)):=⟨a1,a2,a3,a4,a5⟩
   have tne:∀{k:Nat} {t:Tag},Ap k=t->t≠ .sq i->¬S k:=fun{k t} h8 h9 hk=>h9 (by rw[<-h8,hSt k hk])
   have t1:¬S w.heap.size:=fun hk=>hun _ (Nat.le_refl _) (by omega) (show Ap w.heap.size≠ .no by rw[hSt _ hk];simp)
   have t2:¬S (w.heap.size+1):=fun hk=>hun (w.heap.size+1) (by omega) (by omega) (show Ap (w.heap.size+1)≠ .no by rw[hSt _ hk];simp)
   have t4:¬S b:=tne h1.Cc (by simp)
   have t5:¬S gs:=tne (h1.Gx gs (by rw[hvs,hAs];rfl)) (by simp)
   have hws1:BA.length<=10000:=by rw[hm.len];exact HH.out.2.1.many
   have BF:=Lib.hid (And.intro h1 (And.intro hm2 (And.intro g1 (And.intro hc1 (And.intro hM1 (And.intro hw1 (And.intro hl1 (And.intro hn1 (And.intro hMM (And.intro hf1 hi1))))))))))
   have HP2:=Lib.hid (And.intro hu1 (And.intro hic (And.intro hik (And.intro hSt (And.intro ha (And.intro Hf (And.intro Gn hun)))))))
   have HP3:=Lib.hid (And.intro hsw (And.intro htn (And.intro Qh (And.intro hu hm.sum))))
   have HTC:=Lib.hid htc
   clear htc
   subst hAy
   clear h1 hm hm2 g1 hc1 hM1 hw1 hl1 hn1 hMM hf1 hi1 hu1 hic hik hSt ha Hf Gn hun hsw htn Qh hu hxr hpr hyr hcyv hfy hvo hvoa hcsv hfs hvs hSq hsqa hpa tne hxe hiD hir hAs hsbc
   clear a1 a2 a3 a4 a5
   go_wp2_with fail
   rw[<-wQ]
   clear wQ j0 k5 f5 y0 MQ
   go_region_held3 (fun w'=>w'.cell? ⟨w.heap.size,0,none⟩=some (.pointer (some ⟨b,0,none⟩))/\w'.cell? ⟨w.heap.size+1,0,none⟩=some (.int .i64 p1)/\w'.cell? ⟨w.heap.size+1,1,none⟩=some (.int .i64 p2)/\w'.cell? ⟨b,0,none⟩=some (.slice (some ⟨gs,0,none⟩) gF.length cs_)/\w'.cell? ⟨gs,i,none⟩=some (.pointer (some ⟨kb,0,none⟩))) (first
    |exact hst
    |exact keep6 (T:=S) (by assumption) (by assumption) t1 t2 t2 t4 t5) (first
    |(go_at_call 125;refine hsm.mono ?_;rintro e w4 ⟨v4,xs,rfl,hq4,Ao,Ee,hx4,uw⟩))
   obtain⟨A4,c4,rfl⟩:=bU Ao
   obtain⟨hu1,hic,hik,hSt,ha,Hf,Gn,hun⟩:=HP2.out
   obtain⟨hsw,htn,Qh,hu,hsum0⟩:=HP3.out
   have hsumS:=BF.out.2.1.sum
   have hj6:joins (p1,p2) u<=10000:=by have:=HH.out.2.1.len;omega
   have hk6:k<=10000:=by have:=HH.out.2.1.len;omega
   have hkj:k+joins (p1,p2) u<=fG ws:=by omega
   have h4:=ha.drew.seq hik hu1 hSt hq4 uw
   have bx4:=uw.heap (w:=wa.drew) Gn t1
   have YK:∀j,S j->gZ Ap j:=fun j hj=>show Ap j≠ .no by rw[hSt j hj];simp
   have hwmS:¬S rW:=fun hk=>hun rW (by omega) (Nat.le_refl _) (YK _ hk)
   have hMa:=BF.out.2.2.2.2.1.same (Hf.blk rW BF.out.2.2.2.2.1.lt (hun rW (by omega) (Nat.le_refl _)))
   have Cn:=(hMa.drew).same (uw.blk rW hMa.lt hwmS)
   have xG:∀j,gZ Ap j->(gZ tg j\/j=rW)\/W3.heap.size<=j:=fun j hj=>(BF.out.2.2.2.2.2.2.2.2.2.2 j hj).imp .inl id
   have Jn:Fr (fun j=>gZ tg j\/j=rW) W3 w4:=((BF.out.2.2.2.2.2.2.2.2.2.1.trans Hf xG).drew).trans uw (fun j hj=>xG j (YK j hj))
   have uk:Sep (fun j=>j=rW) (gZ Ap):=fun j h8 h9=>hun j (by omega) (by omega) h9
   have Qi:rW<wa.heap.size:=hMa.lt
   have hxl:xs.length<=50000:=by omega
   have HQ:=Lib.hid (And.intro h4 (And.intro bx4 (And.intro Cn (And.intro Jn (And.intro Ao (And.intro Ee (And.intro hx4 (And.intro uk (And.intro Qi (And.intro hkj xG))))))))))
   have HKS:=Lib.hid (And.intro hxl (And.intro hsumS hsum0))
   clear hu1 hic hik hSt ha Hf Gn hun hsw htn Qh hu h4 bx4 YK hwmS hMa Cn xG Jn Ao Ee hx4 uw hq4 uk Qi hsumS hkj hsum0 hst hsm
   go_wp2_with fail
   go_loopg [61] xs.length (fun gk v61 wr=>∃(A2 R2:List (P2×Int)),v61= .int .i64 (A2.length:Int)/\R2.length=gk/\Hid (xs=A2++R2)/\Hid (WsI (bR cs ws) (bR cs BA) rW wm w4 A2 wr))
   case atStart=>exact⟨[],xs,rfl,rfl,Lib.hid rfl,Lib.hid ⟨wm,HQ.out.2.2.1,BF.out.2.2.2.2.2.1,by simp,fun _ h=>h,by simp,Fr.refl _ _⟩⟩
   case round=>
    obtain⟨A2,R2,rfl,hgk2,HX2,HI2⟩:=hrel
    cases R2 with
    |nil=>
     have hxe2:xs=A2:=by rw[HX2.out];simp
     have JV:¬A2.length<xs.length:=by rw[hxe2];omega
     obtain⟨Di,WM,hwq,hkq,hkk,hlq,MJ⟩:=HI2.out
     obtain⟨h4,bx4,Cn,Jn,Ao,Ee,hx4,uk,Qi,hkj,xG⟩:=HQ.out
     obtain⟨hu1,hic,hik,hSt,ha,Hf,Gn,hun⟩:=HP2.out
     have VA:=MJ.heap bx4 (by have:=Pn.out.1;omega)
     have j0q:wr.cell? ⟨w.heap.size,0,none⟩=some (.pointer (some ⟨b,0,none⟩)):=aj VA 0
     have hIq:=h4.fr MJ uk
     have Qg:∀x∈mI (p1,p2) s u,0<=x/\x<=1000000:=fun x hx=>by
      rcases wX u x hx with h9|h9
      ·exact BF.out.2.2.1.sy u (List.mem_of_getElem? hu1) x h9
      ·rw[h9];exact hs
     have hch:=BF.out.2.2.1.chg hic hu1 (mh u) Qg Ee
     have hoq:=MJ.own Ao (fun g hg e=>by have:=(eG Ao hg).1;have:wa.drew.heap.size=wa.heap.size:=rfl;omega)
     have AX:=Hu hIq hic hoq (fun g hg=>by
      by_cases hn:Ap g= .no
      ·exact hn
      ·have h8:=(ha.lt g hn).2
       have:=(eG Ao hg).1
       have:wa.drew.heap.size=wa.heap.size:=rfl
       omega) hch.1 (by have:=HKS.out.1;omega) (by have:=BF.out.2.2.2.2.2.2.2.1;omega) (by have:=BF.out.2.2.2.2.2.2.2.2.1;omega) (by rw[List.length_set];have:=HH.out.2.1.many;have:=BF.out.2.1.len;rw[List.length_set] at this;omega)
     have HZ:=Lib.hid (And.intro WM (And.intro hwq (And.intro hkq (And.intro hkk (And.intro hlq (And.intro MJ (And.intro hch (And.intro hxe2 (And.intro hIq Qg)))))))))
     clear WM hwq hkq hkk hlq MJ h4 bx4 Cn Jn Ao Ee hx4 uk Qi hkj xG hu1 hic hik hSt ha Hf Gn hun VA hIq hch hoq hxe2 Qg
     go_wp2_with (first
      |(go_at_call 113;refine AX.mono ?_;rintro e w6 ⟨u6,tg2,am2,aan,rfl,h6,Cm,hI6,hN6⟩;have H6:=Lib.hid (And.intro h6 (And.intro Cm (And.intro hI6 hN6)));clear h6 Cm hI6 hN6))
     go_roundg R.length
     case measure=>simp at qy;omega
     case rel=>
      obtain⟨WM,hwq,hkq,hkk,hlq,MJ,hch,hxe2,hIq,Qg⟩:=HZ.out
      obtain⟨h4,bx4,Cn,Jn,Ao,Ee,hx4,uk,Qi,hkj,xG⟩:=HQ.out
      obtain⟨hu1,hic,hik,hSt,ha,Hf,Gn,hun⟩:=HP2.out
      obtain⟨h1,hm2,g1,hc1,hM1,hw1,hl1,hn1,hMM,hf1,hi1⟩:=BF.out
      obtain⟨h6,Cm,hI6,hN6⟩:=H6.out
      have e9:(fun q=>bR cs BA q+(fun q=>jy q (mI (p1,p2) s u)-jy q u) q*c)=bR cs (BA.set i (mI (p1,p2) s u)):=hch.2
      rw[e9] at h6
      have hsz4:W3.heap.size<=w4.heap.size:=Jn.size
      have hlq2:Di.length<=wm.length+xs.length:=by rw[hxe2];exact hlq
      have hF0q:Fr (fun j=>gZ tg j\/j=rW) W3 wr:=Jn.trans MJ (fun j hj=> .inl (.inr hj))
      refine⟨D++[i],R,k+joins (p1,p2) u,by rw[Int.natCast_add],by rw[List.length_append,List.length_singleton];simp,rfl,Lib.hid (by rw[HX.out];simp),Lib.hid ⟨tg2,am2,aan,_,_,_,Di,by rw[List.length_append,List.length_singleton,<-Nat.add_assoc];exact h6,hm2,g1.set hic hu1 (mh u) Qg,hc1.step hu1 hN6,WM.same (Cm.blk rW WM.lt (hun rW (by have:=Pn.out.1;omega) (Nat.le_refl _))),?_,by omega,by omega,by omega,hF0q.trans Cm xG,hi1.trans hI6 (Nat.le_trans hF0q.size (Nat.le_refl _))⟩⟩
      refine hwq.turn fun q hq=>?_
      have h0:jy q (mI (p1,p2) s u)-jy q u=0:=Classical.byContradiction fun hne=>by
       have h8:=(Ee.is q _).2 ⟨rfl,hne⟩
       rw[hxe2] at h8
       exact hkq _ h8 hq
      have h9:=congrFun e9 q
      simp only at h9
      rw[<-h9,h0]
      simp
    |cons x R2=>
     obtain⟨⟨x1,x2⟩,xc⟩:=x
     obtain⟨gk,rfl⟩:∃g,gk=g+1:=⟨R2.length,by simpa using hgk2.symm⟩
     obtain⟨Di,WM,hwq,hkq,hkk,hlq,MJ⟩:=HI2.out
     obtain⟨h4,bx4,Cn,Jn,Ao,Ee,hx4,uk,Qi,hkj,xG⟩:=HQ.out
     have hxe2:=HX2.out
     have hxi:xs[A2.length]?=some ((x1,x2),xc):=by rw[hxe2];simp
     have hlt2:A2.length<xs.length:=(List.getElem?_eq_some_iff.1 hxi).1
     have hdne:=((Ee.is (x1,x2) xc).1 (List.mem_of_getElem? hxi)).2
     have hkey:lD x1/\lD x2:=by
      obtain⟨hu1,hic,hik,hSt,ha,Hf,Gn,hun⟩:=HP2.out
      have Qg:∀x∈mI (p1,p2) s u,0<=x/\x<=1000000:=fun x hx=>by
       rcases wX u x hx with h9|h9
       ·exact BF.out.2.2.1.sy u (List.mem_of_getElem? hu1) x h9
       ·rw[h9];exact hs
      exact(BF.out.2.2.1.chg hic hu1 (mh u) Qg Ee).1.key ((x1,x2),xc) (List.mem_of_getElem? hxi)
     have hoq:=MJ.own Ao (fun g hg e=>by have:=(eG Ao hg).1;have:wa.drew.heap.size=wa.heap.size:=rfl;omega)
     obtain⟨g0,hA,hg0,hg1,hg2,hg3,hg4⟩:=gz hoq (by omega)
     have e0:=hg3 _ _ (sD hxi).1
     have e1:=hg3 _ _ (sD hxi).2.1
     have e2:=hg3 _ _ (sD hxi).2.2
     subst hA
     have VA:=MJ.heap bx4 (by have:=Pn.out.1;omega)
     have hIq:=h4.fr MJ uk
     obtain⟨V2,hV2⟩:∃V2,V2=wr.alloc (.cells #[.int .i64 x1,.int .i64 x2,.int .i64 xc] TG):=⟨_,rfl⟩
     have Jm:Below wr.heap.size wr V2:=by rw[hV2];exact(Below.refl _ wr).alloc (Nat.le_refl _) _
     have SI:V2.heap[wr.heap.size]?=some (.cells #[.int .i64 x1,.int .i64 x2,.int .i64 xc] TG (0,0)):=by rw[hV2];exact bG _ _
     have hMV:=WM.same (Jm.block rW WM.lt)
     have hIV:=hIq.below Jm
     have hbV:=(Jm.block _ (bA VA)).trans VA
     have hok:ou.ok (x1,x2):=hkey
     have hlk:=hMV.Qo hok
     have hcnt:=vL (hIV.drew) (p:=(x1,x2)) hkey
     have m0:V2.cell? ⟨w.heap.size,0,none⟩=some (.pointer (some ⟨b,0,none⟩)):=aj hbV 0
     have m0d:V2.drew.cell? ⟨w.heap.size,0,none⟩=some (.pointer (some ⟨b,0,none⟩)):=m0
     have n0:V2.cell? ⟨wr.heap.size,0,none⟩=some (.int .i64 x1):=aj SI 0
     have n0d:V2.drew.cell? ⟨wr.heap.size,0,none⟩=some (.int .i64 x1):=n0
     have n1:V2.cell? ⟨wr.heap.size,1,none⟩=some (.int .i64 x2):=aj SI 1
     have n1d:V2.drew.cell? ⟨wr.heap.size,1,none⟩=some (.int .i64 x2):=n1
     have HV2:=Lib.hid (And.intro Jm (And.intro SI (And.intro hMV (And.intro WM (And.intro hwq (And.intro hkq (And.intro hkk (And.intro hlq (And.intro MJ hV2)))))))))
     have hwm2l:Di.length<=200000:=by have:=BF.out.2.2.2.2.2.2.1;have:=HKS.out.1;omega
     clear WM hwq hkq hkk hlq MJ h4 bx4 Cn Jn Ao Ee hx4 uk Qi hkj xG hxe2 hxi hdne hoq hg3 hg4 VA hIq Jm SI hMV hIV hbV
     cases hi:(Mp.get Di (x1,x2)).isSome with
     |true=>
      rw[hi] at hlk
      generalize (Mp.get Di (x1,x2)).getD ou.z=nn at hlk
      have MM:(Instr.lookup 207 (.map (some rW)) (.agg #[.int .i64 x1,.int .i64 x2]) true).run Tryz.prog V2= .ok (.tuple #[.int .i64 nn,.bool true]) V2:=hlk
      rw[hV2] at MM n0 n1 m0
      clear hlk hcnt m0d n0d n1d hV2
      go_wp2
      obtain⟨Jm,SI,hMV,WM,hwq,hkq,hkk,hlq,MJ,hV2⟩:=HV2.out
      rw[<-hV2]
      go_roundg R2.length
      case measure=>simp at hgk2;omega
      case rel=>exact⟨A2++[((x1,x2),xc)],R2,by simp,rfl,Lib.hid (by rw[HX2.out];simp),Lib.hid ⟨Di,hMV,hwq,fun y hy=>(by rcases List.mem_append.1 hy with hy|hy;exact hkq y hy;rw[List.mem_singleton.1 hy];intro e;rw[e] at hi;simp at hi),hkk,by rw[List.length_append,List.length_singleton];omega,MJ.below Jm⟩⟩
     |false=>
      rw[hi] at hlk
      generalize (Mp.get Di (x1,x2)).getD ou.z=nn at hlk
      have MM:(Instr.lookup 207 (.map (some rW)) (.agg #[.int .i64 x1,.int .i64 x2]) true).run Tryz.prog V2= .ok (.tuple #[.int .i64 nn,.bool false]) V2:=hlk
      have n0':=n0
      have n1':=n1
      rw[hV2] at MM n0' n1'
      clear hlk
      go_wp2_with fail
      rw[<-hV2]
      clear hV2 n0' n1' MM e0 e1 e2
      have hnone:Mp.get Di (x1,x2)=none:=by
       cases hg:Mp.get Di (x1,x2) with
       |none=>rfl
       |some v=>rw[hg] at hi;cases hi
      have HNN:=Lib.hid hnone
      clear hnone hi
      obtain⟨gv,hgv⟩:∃gv,bR cs BA (x1,x2)=gv:=⟨_,rfl⟩
      rw[hgv] at hcnt
      have HGV:=Lib.hid hgv
      clear hgv
      go_region_with (go_at_call 86;refine hcnt.mono ?_;rintro e w5 ⟨rfl,wL⟩;have ht5:=(wL.block _ (bA HV2.out.2.1)).trans HV2.out.2.1;have r0:w5.cell? ⟨wr.heap.size,0,none⟩=some (.int .i64 x1):=aj ht5 0;have r1:w5.cell? ⟨wr.heap.size,1,none⟩=some (.int .i64 x2):=aj ht5 1;have Hg:=HV2.out.2.2.1.drew.same (wL.block _ HV2.out.2.2.1.lt);obtain⟨w6,hst6,Vw,hT6⟩:=Hg.store (by unfold maxLen;omega) hok gv;have e9:(Instr.mapUpdate 207 (.map (some rW)) (.agg #[.int .i64 x1,.int .i64 x2]) (.int .i64 gv)).run Tryz.prog w5= .ok () w6:=hst6;have HR6:=Lib.hid (And.intro wL (And.intro Vw (jI hT6)));clear wL Hg hst6 Vw hT6 ht5)
      all_goals
       clear r0 r1 e9 m0 m0d n0 n0d n1 n1d
       go_wp2
       obtain⟨Jm,SI,hMV,WM,hwq,hkq,hkk,hlq,MJ,hV2⟩:=HV2.out
       obtain⟨wL,Vw,Cm⟩:=HR6.out
       go_roundg R2.length
       case measure=>simp at hgk2;omega
       case rel=>
        refine⟨A2++[((x1,x2),xc)],R2,by simp,rfl,Lib.hid (by rw[HX2.out];simp),Lib.hid ⟨Mp.put Di (x1,x2) gv,Vw,by rw[<-HGV.out];exact hwq.put HNN.out,fun y hy=>?_,fun q hq=>?_,?_,(((MJ.below Jm).drew).below wL).trans Cm (fun j hj=> .inl hj)⟩⟩
        ·rw[get_put]
         rcases List.mem_append.1 hy with hy|hy
         ·split
          ·simp
          ·exact hkq y hy
         ·rw[List.mem_singleton.1 hy,if_pos rfl];simp
        ·rw[get_put]
         split
         ·simp
         ·exact hkk q hq
        ·have:=jO (m:=Di) (a:=(x1,x2)) (u:=gv)
         rw[List.length_append,List.length_singleton]
         omega
end
end Go.Proofs.YtilpincgjlclpaaGreat.Ob
end
section
namespace Go.Proofs.YtilpincgjlclpaaGreat.Ob
open Go Go.RowKit Bs Mp jL
structure NS (B:Nat) (W U:World) (b x8:Nat) (v0 v1:Value) (n8:Int) (vs vc:Value) (ns nc:Nat) (xs xc:List Value):Prop where
 os:U.ownsRow B uq 1 vs ns xs
 oc:U.ownsRow B TN 1 vc nc xc
 ne:∀k,vs.ownBlock=some k->vc.ownBlock≠some k
 nb:vs.ownBlock≠some b/\vc.ownBlock≠some b/\vs.ownBlock≠some x8/\vc.ownBlock≠some x8
 bx:B<=b/\b<U.heap.size/\x8<U.heap.size
 c0:U.cell? ⟨b,0,none⟩=some v0
 c1:U.cell? ⟨b,1,none⟩=some v1
 c8:U.cell? ⟨x8,1,none⟩=some (.int .i64 n8)
 f0:U.frozen? ⟨b,0,none⟩=false
 f1:U.frozen? ⟨b,1,none⟩=false
 fr:Fr (fun k=>v0.ownBlock=some k\/v1.ownBlock=some k) W U
 is0:∀k,vs.ownBlock=some k->v0.ownBlock=some k\/W.heap.size<=k
 ic0:∀k,vc.ownBlock=some k->v1.ownBlock=some k\/W.heap.size<=k
section
variable {B b x8 ns nc:Nat} {W U U2:World} {v0 v1 vs vc:Value} {n8:Int} {xs xc:List Value}
theorem NS.below (h:NS B W U b x8 v0 v1 n8 vs vc ns nc xs xc) (g:Below U.heap.size U U2):NS B W U2 b x8 v0 v1 n8 vs vc ns nc xs xc:=by
 have f:Fr none_ U U2:=Fr.dL g
 exact⟨f.own h.os fun _ _ h=>h,f.own h.oc fun _ _ h=>h,h.ne,h.nb,⟨h.bx.1,Nat.lt_of_lt_of_le h.bx.2.1 f.size,Nat.lt_of_lt_of_le h.bx.2.2 f.size⟩,f.cell h.c0 fun h=>h,f.cell h.c1 fun h=>h,f.cell h.c8 fun h=>h,
  (World.frozen?_of_block (g.block b h.bx.2.1)).trans h.f0,(World.frozen?_of_block (g.block b h.bx.2.1)).trans h.f1,h.fr.below g,h.is0,h.ic0⟩
theorem NS.alloc (h:NS B W U b x8 v0 v1 n8 vs vc ns nc xs xc) (o:Obj):NS B W (U.alloc o) b x8 v0 v1 n8 vs vc ns nc xs xc:=h.below ((Below.refl _ U).alloc (Nat.le_refl _) o)
theorem NS.drew (h:NS B W U b x8 v0 v1 n8 vs vc ns nc xs xc):NS B W U.drew b x8 v0 v1 n8 vs vc ns nc xs xc:=h.below (Below.refl _ U).drew
theorem NS.He (h:NS B W U b x8 v0 v1 n8 vs vc ns nc xs xc) {g cap:Nat} {ys:List Value} (hv:vs=v0) (ho:U2.ownsRow B uq 1 (.slice (some ⟨g,0,none⟩) (ns+1) cap) (ns+1) ys) (hg:U.grownBy U2 vs.ownBlock) (hat:vs.ownBlock=some g\/g=U.heap.size):NS B W U2 b x8 v0 v1 n8 (.slice (some ⟨g,0,none⟩) (ns+1) cap) vc (ns+1) nc ys xc:=by
 have f:Fr (fun k=>vs.ownBlock=some k) U U2:=(Fr.refl _ U).grown hg (fun k hk=> .inl hk)
 have hgn:∀k,some k=some g->vs.ownBlock=some k\/U.heap.size<=k:=fun k hk=>by
  cases hk
  exact hat.imp id (fun e=>by omega)
 have hcl:∀k,vc.ownBlock=some k->k<U.heap.size:=fun k hk=>(eG h.oc hk).2
 have hW:=h.fr.size
 refine⟨ho,f.own h.oc fun k hk hs=>h.ne k hs hk,fun k hk=>?_,⟨?_,h.nb.2.1,?_,h.nb.2.2.2⟩,⟨h.bx.1,Nat.lt_of_lt_of_le h.bx.2.1 f.size,Nat.lt_of_lt_of_le h.bx.2.2 f.size⟩,f.cell h.c0 h.nb.1,f.cell h.c1 h.nb.1,f.cell h.c8 h.nb.2.2.1,
  (World.frozen?_of_block (f.blk b h.bx.2.1 h.nb.1)).trans h.f0,(World.frozen?_of_block (f.blk b h.bx.2.1 h.nb.1)).trans h.f1,h.fr.trans f (fun k hk=> .inl (.inl (by rw[<-hv];exact hk))),fun k hk=>?_,h.ic0⟩
 ·intro hc
  rcases hgn k (hk.symm.trans rfl) with e|e
  ·exact h.ne k e hc
  ·have:=hcl k hc;omega
 ·intro e
  rcases hgn b (e.symm.trans rfl) with e2|e2
  ·exact h.nb.1 e2
  ·have:=h.bx.2.1;omega
 ·intro e
  rcases hgn x8 (e.symm.trans rfl) with e2|e2
  ·exact h.nb.2.2.1 e2
  ·have:=h.bx.2.2;omega
 ·rcases hgn k (hk.symm.trans rfl) with e|e
  ·exact .inl (by rw[<-hv];exact e)
  ·exact .inr (by omega)
theorem NS.Hd (h:NS B W U b x8 v0 v1 n8 vs vc ns nc xs xc) {g cap:Nat} {ys:List Value} (hv:vc=v1) (ho:U2.ownsRow B TN 1 (.slice (some ⟨g,0,none⟩) (nc+1) cap) (nc+1) ys) (hg:U.grownBy U2 vc.ownBlock) (hat:vc.ownBlock=some g\/g=U.heap.size):NS B W U2 b x8 v0 v1 n8 vs (.slice (some ⟨g,0,none⟩) (nc+1) cap) ns (nc+1) xs ys:=by
 have f:Fr (fun k=>vc.ownBlock=some k) U U2:=(Fr.refl _ U).grown hg (fun k hk=> .inl hk)
 have hgn:∀k,some k=some g->vc.ownBlock=some k\/U.heap.size<=k:=fun k hk=>by
  cases hk
  exact hat.imp id (fun e=>by omega)
 have hcl:∀k,vs.ownBlock=some k->k<U.heap.size:=fun k hk=>(eG h.os hk).2
 have hW:=h.fr.size
 refine⟨f.own h.os fun k hk hs=>h.ne k hk hs,ho,fun k hs hk=>?_,⟨h.nb.1,?_,h.nb.2.2.1,?_⟩,⟨h.bx.1,Nat.lt_of_lt_of_le h.bx.2.1 f.size,Nat.lt_of_lt_of_le h.bx.2.2 f.size⟩,f.cell h.c0 h.nb.2.1,f.cell h.c1 h.nb.2.1,f.cell h.c8 h.nb.2.2.2,
  (World.frozen?_of_block (f.blk b h.bx.2.1 h.nb.2.1)).trans h.f0,(World.frozen?_of_block (f.blk b h.bx.2.1 h.nb.2.1)).trans h.f1,h.fr.trans f (fun k hk=> .inl (.inr (by rw[<-hv];exact hk))),h.is0,fun k hk=>?_⟩
 ·rcases hgn k (hk.symm.trans rfl) with e|e
  ·exact h.ne k hs e
  ·have:=hcl k hs;omega
 ·intro e
  rcases hgn b (e.symm.trans rfl) with e2|e2
  ·exact h.nb.2.1 e2
  ·have:=h.bx.2.1;omega
 ·intro e
  rcases hgn x8 (e.symm.trans rfl) with e2|e2
  ·exact h.nb.2.2.2 e2
  ·have:=h.bx.2.2;omega
 ·rcases hgn k (hk.symm.trans rfl) with e|e
  ·exact .inl (by rw[<-hv];exact e)
  ·exact .inr (by omega)
end
end Go.Proofs.YtilpincgjlclpaaGreat.Ob
end
section
namespace Go.Proofs.YtilpincgjlclpaaGreat.Ob
open Go Go.RowKit Bs Mp jL
theorem Sq.base {B C b:Nat} {w:World} {u:List Int} {S:Nat->Prop} (h:Sq C w b u S) (hB:B<=C):Sq B w b u S:=by
 obtain⟨v,row,L,h,rfl,rfl⟩:=h
 exact⟨v,row,L,{h with lo:=Nat.le_trans hB h.lo,own:=jD h.own hB},rfl,rfl⟩
section
variable {B b cb ab left touched n M:Nat} {w w' W U:World} {vs vc vs' KV:Value} {tg:Nat->Tag} {gF:List Nat} {am:List (P2×Value)} {ws:List (List Int)} {cs:List Int} {f:P2->Int} {rws:P2->List Nat} {T:Nat->Prop}
open Classical in
theorem nL.grow (h:nL B W b vs vc cb ab tg gF am ws cs f rws left touched n M) {x8 kb C:Nat} {n8 c:Int} {u:List Int} {S:Nat->Prop} (hq:Sq C W kb u S) (hC:B<=C) (hSn:∀k,S k->tg k= .no)
  (hN:NS B W U b x8 vs vc n8 vs' KV (gF.length+1) (cs.length+1) ((gF.map fun k=>Value.pointer (some ⟨k,0,none⟩))++[.pointer (some ⟨kb,0,none⟩)]) ((cs.map (Value.int .i64))++[.int .i64 c])):
  ∃xy,nL B ((U.setCell ⟨b,0,none⟩ vs').setCell ⟨b,1,none⟩ KV) b vs' KV cb ab xy (gF++[kb]) am (ws++[u]) (cs++[c]) f rws left touched n M:=by
 have hin:=hq.oq
 have hW:=hN.fr.size
 have hs0:∀k,vs'.ownBlock=some k->tg k= .vs\/W.heap.size<=k:=fun k hk=>(hN.is0 k hk).imp (h.Gx k) id
 have hc0:∀k,KV.ownBlock=some k->tg k= .vc\/W.heap.size<=k:=fun k hk=>(hN.ic0 k hk).imp (h.IG k) id
 have keep:∀{k:Nat},k<W.heap.size->k≠b->tg k≠ .vs->tg k≠ .vc->((U.setCell ⟨b,0,none⟩ vs').setCell ⟨b,1,none⟩ KV).heap[k]?=W.heap[k]?:=fun{k} h1 h2 h3 h4=>by
  rw[Below.heap_setCell _ _ _ k h2,Below.heap_setCell _ _ _ k h2]
  exact hN.fr.blk k h1 (fun e=>e.elim (fun e=>h3 (h.Gx k e)) (fun e=>h4 (h.IG k e)))
 have old:∀{k:Nat} {t:Tag},tg k=t->t≠ .no->t≠ .ix->t≠ .vs->t≠ .vc->((U.setCell ⟨b,0,none⟩ vs').setCell ⟨b,1,none⟩ KV).heap[k]?=W.heap[k]?:=fun{k t} h1 h2 h3 h4 h5=>
  keep (h.lt k (by rw[h1];exact h2)).2 (fun e=>h3 (by rw[<-h1,e,h.Cc])) (by rw[h1];exact h4) (by rw[h1];exact h5)
 have hsq:∀{k:Nat},S k->((U.setCell ⟨b,0,none⟩ vs').setCell ⟨b,1,none⟩ KV).heap[k]?=W.heap[k]?:=fun{k} hk=>
  keep (hin k hk).2 (fun e=>by have:=hSn k hk;rw[e,h.Cc] at this;cases this) (by rw[hSn k hk];simp) (by rw[hSn k hk];simp)
 have tgo:∀{k:Nat} {t:Tag},tg k=t->t≠ .no->(if tg k≠ .no then tg k else if vs'.ownBlock=some k then .vs else if KV.ownBlock=some k then .vc else if S k then Tag.sq gF.length else .no)=t:=fun{k t} h1 h2=>by
  rw[if_pos (by rw[h1];exact h2)]
  exact h1
 have hbU:U.heap[b]?=some (.cells #[vs,vc,.pointer (some ⟨cb,0,none⟩),.map (some ab),.int .i64 (left:Int),.int .i64 (touched:Int)] TX (0,0)):=by
  refine(hN.fr.blk b (bA h.blk) ?_).trans h.blk
  rintro(e|e)
  ·have:=h.Gx b e;rw[h.Cc] at this;cases this
  ·have:=h.IG b e;rw[h.Cc] at this;cases this
 have hsz:((U.setCell ⟨b,0,none⟩ vs').setCell ⟨b,1,none⟩ KV).heap.size=U.heap.size:=by simp[World.setCell]
 have hos:=iq (iq hN.os (p:=⟨b,0,none⟩) hN.nb.1 vs') (p:=⟨b,1,none⟩) hN.nb.1 KV
 have hoc:=iq (iq hN.oc (p:=⟨b,0,none⟩) hN.nb.2.1 vs') (p:=⟨b,1,none⟩) hN.nb.2.1 KV
 refine⟨fun k=>if tg k≠ .no then tg k else if vs'.ownBlock=some k then .vs else if KV.ownBlock=some k then .vc else if S k then Tag.sq gF.length else .no,h.lo,h.alo,?_,tgo h.Cc (by simp),?_,fun k hk=>?_,?_,fun k hk=>?_,?_,?_,?_,h.amp.same (old h.Gw (by simp) (by simp) (by simp) (by simp)),tgo h.Gw (by simp),h.aml,h.rwn,?_,fun q=>⟨(h.RA q).1,fun i hi=>by have:=(h.RA q).2 i hi;rw[List.length_append];omega⟩,?_⟩
 ·rw[heap_set (heap_set hbU 0 vs') 1 KV]
  simp
 ·rw[List.length_append,List.length_singleton,List.map_append]
  exact hos
 ·by_cases e:tg k≠ .no
  ·rw[if_pos e]
   rcases hs0 k hk with h1|h1
   ·exact h1
   ·have:=(h.lt k e).2;omega
  ·rw[if_neg e,if_pos hk]
 ·rw[List.length_append,List.length_singleton,List.map_append]
  exact hoc
 ·by_cases e:tg k≠ .no
  ·rw[if_pos e]
   rcases hc0 k hk with h1|h1
   ·exact h1
   ·have:=(h.lt k e).2;omega
  ·rw[if_neg e,if_neg (fun e2=>hN.ne k e2 hk),if_pos hk]
 ·obtain⟨S1,h1,h2⟩:=h.all
  exact⟨S1,h1.same fun k hk=>old (h2 k hk) (by simp) (by simp) (by simp) (by simp),fun k hk=>tgo (h2 k hk) (by simp)⟩
 ·intro i k u2 hi hu
  by_cases e:i<gF.length
  ·rw[List.getElem?_append_left e] at hi
   rw[List.getElem?_append_left (by rw[<-h.lens.1];exact e)] at hu
   obtain⟨S2,h1,h2⟩:=h.sqs i k u2 hi hu
   exact⟨S2,h1.same fun k hk=>old (h2 k hk) (by simp) (by simp) (by simp) (by simp),fun k hk=>tgo (h2 k hk) (by simp)⟩
  ·have hi2:i=gF.length:=by
    have:=(List.getElem?_eq_some_iff.1 hi).1
    rw[List.length_append,List.length_singleton] at this
    omega
   subst hi2
   rw[List.getElem?_append_right (Nat.le_refl _),Nat.sub_self] at hi
   rw[List.getElem?_append_right (by rw[h.lens.1];exact Nat.le_refl _),h.lens.1,Nat.sub_self] at hu
   simp at hi hu
   subst hi hu
   refine⟨S,(hq.base hC).same fun k hk=>hsq hk,fun k hk=>?_⟩
   rw[if_neg (by rw[hSn k hk];simp),if_neg,if_neg,if_pos hk]
   ·intro e
    rcases hc0 k e with h1|h1
    ·rw[hSn k hk] at h1;cases h1
    ·have:=(hin k hk).2;omega
   ·intro e
    rcases hs0 k e with h1|h1
    ·rw[hSn k hk] at h1;cases h1
    ·have:=(hin k hk).2;omega
 ·rw[List.length_append,List.length_append,List.length_append,h.lens.1,h.lens.2]
  exact⟨rfl,rfl⟩
 ·intro q v hv
  obtain⟨h1,h2⟩:=h.rwo q v hv
  exact⟨iH h1 fun g hg=>old (h2 g hg) (by simp) (by simp) (by simp) (by simp),fun k hk=>tgo (h2 k hk) (by simp)⟩
 ·intro k hk
  rw[hsz]
  by_cases e:tg k≠ .no
  ·exact⟨(h.lt k e).1,Nat.lt_of_lt_of_le (h.lt k e).2 hW⟩
  ·rw[if_neg e] at hk
   by_cases e1:vs'.ownBlock=some k
   ·exact eG hN.os e1
   ·rw[if_neg e1] at hk
    by_cases e2:KV.ownBlock=some k
    ·exact eG hN.oc e2
    ·rw[if_neg e2] at hk
     by_cases e3:S k
     ·exact⟨Nat.le_trans hC (hin k e3).1,Nat.lt_of_lt_of_le (hin k e3).2 hW⟩
     ·rw[if_neg e3] at hk
      exact(hk rfl).elim
end
theorem IC (q:P2) (c:Int) (u:List Int):∀{cs:List Int} {ws:List (List Int)},cs.length=ws.length->bR (cs++[c]) (ws++[u]) q=bR cs ws q+c*jy q u
 |[],[],_=>by simp[bR]
 |[],_::_,h=>by simp at h
 |_::_,[],h=>by simp at h
 |d::cs,w::ws,h=>by
  rw[List.cons_append,List.cons_append,bR,bR,IC q c u (by simpa using h)]
  omega
theorem FP {cs2:List Int} (h2:∀c∈cs2,0<=c) (OJ:List (List Int)):∀{cs:List Int} {ws:List (List Int)},cs.length=ws.length->FO cs ws<=FO (cs++cs2) (ws++OJ)
 |[],[],_=>by simpa[FO] using RU h2 OJ
 |[],_::_,h=>by simp at h
 |_::_,[],h=>by simp at h
 |d::cs,w::ws,h=>by
  have:=FP h2 OJ (cs:=cs) (ws:=ws) (by simpa using h)
  rw[List.cons_append,List.cons_append,FO,FO]
  omega
theorem Ca:∀ws OJ:List (List Int),fG (ws++OJ)=fG ws+fG OJ
 |[],OJ=>by simp[fG]
 |w::ws,OJ=>by rw[List.cons_append,fG,fG,Ca ws OJ];omega
theorem Gd.take {cs cs2:List Int} {ws OJ:List (List Int)} (g:Gd (cs++cs2) (ws++OJ)) (h:cs.length=ws.length):Gd cs ws:=
 ⟨fun c hc=>g.cnt c (by simp[hc]),Int.le_trans (FP (fun c hc=>(g.cnt c (by simp[hc])).1) OJ h) g.wg,fun u hu=>g.sy u (by simp[hu]),by have:=g.len;rw[Ca] at this;omega,by have:=g.many;rw[List.length_append] at this;omega⟩
theorem Gd.new {cs:List Int} {ws:List (List Int)} {c:Int} {u:List Int} (g:Gd (cs++[c]) (ws++[u])) (h:cs.length=ws.length) {xs:List (P2×Int)} (hx:UQ (fun q=>jy q u) xs):
  BC (bR cs ws) (fun q=>jy q u) xs c/\(fun q=>bR cs ws q+jy q u*c)=bR (cs++[c]) (ws++[u]):=by
 have g1:=g.take h
 have e:∀q,bR cs ws q+jy q u*c=bR (cs++[c]) (ws++[u]) q:=fun q=>by rw[IC q c u h,Int.mul_comm]
 have hul:=g.len
 rw[pG] at hul
 have range:∀q,jy q u≠0->lD q.1/\lD q.2:=fun q hq=>by
  have n1:=iU (q:=q) u
  obtain⟨a,b⟩:=zM (show 1<=jy q u by omega)
  have ha:=g.sy u (by simp) _ a
  have hb:=g.sy u (by simp) _ b
  exact⟨lD.mk (by omega) (by omega),lD.mk (by omega) (by omega)⟩
 refine⟨⟨hx,fun x hx2=>range x.1 (((hx.is x.1 x.2).1 hx2).1▸((hx.is x.1 x.2).1 hx2).2),fun q=>?_,g.cnt c (by simp),fun q=>?_,g1.bound,fun q=>?_⟩,funext e⟩
 ·have n1:=iU (q:=q) u
  have n3:=De (q:=q) u
  show-1000000<=jy q u/\jy q u<=1000000
  omega
 ·have h1:=g1.bound q
  have h2:=g.bound q
  have h3:=e q
  show-9223372036854775807<=jy q u*c/\jy q u*c<=9223372036854775807
  omega
 ·show 0<=bR cs ws q+jy q u*c/\bR cs ws q+jy q u*c<=9223372036854775807
  rw[e q]
  exact g.bound q
theorem xP.snoc {ws:List (List Int)} {rws lS:P2->List Nat} {X:P2->Prop} {u:List Int} (h:xP ws rws X) (hn:pK ws.length rws lS (fun q=>0<jy q u)):xP (ws++[u]) lS X:=fun q j v hv hp=>by
 by_cases e:j<ws.length
 ·rw[List.getElem?_append_left e] at hv
  rcases h q j v hv hp with hx|hx
  ·exact .inl hx
  ·exact .inr ((hn q).1 _ hx)
 ·have hj:j=ws.length:=by
   have:=(List.getElem?_eq_some_iff.1 hv).1
   rw[List.length_append,List.length_singleton] at this
   omega
  subst hj
  rw[List.getElem?_append_right (Nat.le_refl _),Nat.sub_self] at hv
  simp at hv
  subst hv
  exact .inr ((hn q).2.2 (by omega))
theorem um {w:World} {ad:Addr} {v:Value} (h:w.cell? ad=some v):∀j u,[v][j]?=some u->w.cell? (ad.add j)=some u:=by
 intro j u hj
 match j,hj with
 |0,hj=>simp at hj;subst hj;simpa[Addr.add] using h
end Go.Proofs.YtilpincgjlclpaaGreat.Ob
end
