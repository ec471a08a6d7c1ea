import Derived.Deep.CutRange
import Derived.Deep.RegionLaw
import Derived.Test.YtilpincgjlclpaaGreatB18
import Derived.Test.YtilpincgjlclpaaGreatB7
import Derived.Test.YtilpincgjlclpaaGreatB8
set_option linter.unusedVariables false
set_option linter.unusedSimpArgs false
namespace Go.Proofs.YtilpincgjlclpaaGreat.Ob
open Go Go.RowKit Go.Proofs.ae.au Pr Bs Mp jL
theorem infoSP:(Tryz.prog.info? 198).map (fun i=>(i.zero,i.size,i.bytes))=some (some (.pointer none),1,8):=by kernel_rfl
def gI (l:List dN):List (List Int):=l.map fun x=>ids x.f0.data.toList
def gG (l:List dN):List Int:=l.map fun x=>x.f1
theorem Ko (W:World) (v:Value) (T:TypeId) {n:Nat} (h:n=W.heap.size):(W.alloc (.cells #[v] T)).cell? ⟨n,0,none⟩=some v:=by
 subst h
 exact aj (bG W _) 0
theorem oldc {W:World} {a:Addr} {v:Value} (h:W.cell? a=some v) (o:Obj):(W.alloc o).cell? a=some v:=(World.cell?_alloc_lt _ _ _ (World.block_lt_of_cell? W a h)).trans h
def NwI (B b cb ab:Nat) (N:Nat) (W5:World) (D:List dN) (wr:World):Prop:=
 ∃vs vc tg gF am rws n M,nL B wr b vs vc cb ab tg gF am (gI D) (gG D) (bR (gG D) (gI D)) rws N 0 n M/\xP (gI D) rws (fun _=>False)/\n<=fG (gI D)/\M<=fG (gI D)/\Fr (fun k=>B<=k) W5 wr
set_option maxHeartbeats 8000000 in
set_option maxRecDepth 100000 in
theorem ix_new {w:World} {A:Option Addr} {c0:Nat} {l:List dN} (hC:Kd.C lQ w A l.length l) (hc0:l.length<=c0) {k1 k2:Nat} {p:Int} (xZ:dG.f k1 l=some (p,0)) (hpos:dM.f k2 l=some ((fG (gI l):Nat):Int)) (hg:Gd (gG l) (gI l)) (hsz:∀x∈l,x.f0.size<=1000):
  Calls Tryz.prog 80 #[.slice A l.length c0] w fun e w'=>∃b vs vc cb ab tg gF am rws n M,e= .returned (.tuple #[.pointer (some ⟨b,0,none⟩),.int .i64 0])/\nL w.heap.size w' b vs vc cb ab tg gF am (gI l) (gG l) (bR (gG l) (gI l)) rws (fG (gI l)) 0 n M/\xP (gI l) rws (fun _=>False)/\n<=fG (gI l)/\M<=fG (gI l)/\Below w.heap.size w w':=by
 have hmm:=@run_makeMap Tryz.prog
 have hl6:l.length<=10000:=by have:=hg.many;simpa[gI] using this
 have HC:=Lib.hid (And.intro hC (And.intro hg hsz))
 have hck:=dG.calls k1 A c0 l p 0 w hC hc0 xZ
 have hps:=fun W (hB:Below w.heap.size w W)=>dM.calls k2 A c0 l _ W (Kd.bY hC hB) hc0 hpos
 generalize hNN:fG (gI l)=N at *
 have HNN:=Lib.hid hNN
 clear hC hg hsz hNN
 go_enter Tryz.func80,Tryz.ntmps80
 go_wp2_with (first
  |(go_at_call 24;refine hck.mono ?_;rintro e w1 ⟨rfl,hB1⟩;have hps1:=hps ((w1.alloc (.cells #[.map none] TD)).alloc (.map #[] 0)) ((hB1.alloc hB1.size _).alloc (by have:=hB1.size;simp;omega) _);have H1:=Lib.hid hB1;clear hB1)
  |(go_at_call 110;refine(cnt_new w1).mono ?_;rintro e w2 ⟨rfl,rfl⟩)
  |(go_at_call 111;refine hps1.mono ?_;rintro e w4 ⟨rfl,hB4⟩;have H4:=Lib.hid hB4;clear hB4)
  |fail)
 clear hps1 hps hck hmm
 obtain⟨W5,YL⟩:∃W5,W5=w4.alloc (.cells #[.slice none 0 0,.slice none 0 0,.pointer (some ⟨w1.heap.size,0,none⟩),.map (some (w1.heap.size+1)),.int .i64 (N:Int),.int .i64 0] TX):=⟨_,rfl⟩
 have hbw:=bG w4 (.cells #[.slice none 0 0,.slice none 0 0,.pointer (some ⟨w1.heap.size,0,none⟩),.map (some (w1.heap.size+1)),.int .i64 (N:Int),.int .i64 0] TX)
 have hBw4:Below w4.heap.size w4 W5:=by rw[YL];exact(Below.refl _ w4).alloc (Nat.le_refl _) _
 rw[<-YL] at hbw
 have hw14:=H4.out.size
 have hw1:=H1.out.size
 simp only[World.size_alloc] at hw14
 have Cn:mp VK w4 (w1.heap.size+1) []:=by
  have h8:=oW (T:=VK) (w1.alloc (.cells #[.map none] TD))
  rw[World.size_alloc] at h8
  exact h8.same (H4.out.block _ h8.lt)
 have YI:xq w.heap.size w4 w1.heap.size (fun _=>0) 0 (fun k=>k=w1.heap.size):=((xq.new w1 hw1).below ((Below.refl _ _).alloc (Nat.le_refl _) _)).below H4.out
 obtain⟨b,hb⟩:∃b,b=w4.heap.size:=⟨_,rfl⟩
 obtain⟨cb,hcb⟩:∃cb,cb=w1.heap.size:=⟨_,rfl⟩
 obtain⟨ab,hab⟩:∃ab,ab=w1.heap.size+1:=⟨_,rfl⟩
 have hs5:W5.heap.size=b+1:=by rw[YL,hb];simp
 have hst:NwI w.heap.size b cb ab N W5 [] W5:=by
  refine⟨.slice none 0 0,.slice none 0 0,fun k=>if k=b then .ix else if k=cb then .al else if k=ab then .am else .no,[],[],fun _=>[],0,0,⟨by omega,by omega,?_,if_pos rfl,World.ownsRow_nil _ _ _ _,fun k hk=>by simp[Value.ownBlock] at hk,World.ownsRow_nil _ _ _ _,fun k hk=>by simp[Value.ownBlock] at hk,⟨fun k=>k=cb,?_,fun k hk=>?_⟩,fun i k u hi=>by simp at hi,⟨rfl,rfl⟩,?_,?_,Nat.le_refl _,fun _ _=>rfl,fun q v hq=>by simp[Mp.get] at hq,fun q=>⟨Nat.le_refl _,fun i hi=>by simp at hi⟩,fun k hk=>?_⟩,fun q j u hu=>by simp[gI] at hu,Nat.le_refl _,Nat.le_refl _,Fr.refl _ _⟩
  ·rw[hb,hcb,hab];exact hbw
  ·have h9:=YI.below hBw4
   rw[<-hcb] at h9
   exact h9
  ·have e1:k=cb:=hk
   rw[if_neg (by omega),if_pos e1]
  ·rw[hab];exact Cn.same (hBw4.block _ Cn.lt)
  ·rw[if_neg (by omega),if_neg (by omega),if_pos rfl]
  ·by_cases e1:k=b
   ·omega
   ·by_cases e2:k=cb
    ·omega
    ·by_cases e3:k=ab
     ·omega
     ·rw[if_neg e1,if_neg e2,if_neg e3] at hk;exact(hk rfl).elim
 have HST:=Lib.hid hst
 have GG:Hid (Below w.heap.size w W5):=Lib.hid ((((H1.out.alloc hw1 _).alloc (by simp;omega) _).trans (H4.out.mono (by simp;omega))).trans (hBw4.mono (by omega)))
 have HWB:Hid (w.heap.size<=b):=Lib.hid (by omega)
 clear hbw hBw4 Cn YI hst hw14 hw1 hs5
 rw[<-YL,<-hb]
 clear YL hb hcb hab H4 H1
 go_loopg [28] l.length (fun gk v28 wr=>∃(D R:List dN),v28= .int .i64 (D.length:Int)/\R.length=gk/\Hid (l=D++R)/\Hid (NwI w.heap.size b cb ab N W5 D wr))
 case atStart=>exact⟨[],l,rfl,rfl,Lib.hid rfl,HST⟩
 case round=>
  obtain⟨D,R,rfl,qy,HX,HI⟩:=hrel
  cases R with
  |nil=>
   have hxe:l=D:=by rw[HX.out];simp
   have hge:¬D.length<l.length:=by rw[hxe];omega
   have Le:=Lib.hid hxe
   clear hxe
   go_wp2
   go_ret2
   obtain⟨vs,vc,tg,gF,am,rws,n,M,h1,h2,h3,h4,h5⟩:=HI.out
   rw[<-Le.out] at h1 h2 h3 h4
   rw[HNN.out] at h3 h4
   exact⟨b,vs,vc,cb,ab,tg,gF,am,rws,n,M,rfl,h1,h2,h3,h4,GG.out.trans (h5.toBelow (fun _ h=>h) GG.out.size)⟩
  |cons x R=>
   obtain⟨gk,rfl⟩:∃g,gk=g+1:=⟨R.length,by simpa using qy.symm⟩
   obtain⟨t,c⟩:=x
   have hxe:=HX.out
   have hxi:l[D.length]?=some ⟨t,c⟩:=by rw[hxe];simp
   have hlt:D.length<l.length:=(List.getElem?_eq_some_iff.1 hxi).1
   have ht:t.size<=1000:=HC.out.2.2 ⟨t,c⟩ (List.mem_of_getElem? hxi)
   obtain⟨ad,hA,x0,x1⟩:=eP HC.out.1 (D.length:Int) (by omega) (by omega)
   have hrd:aU l (D.length:Int)=⟨t,c⟩:=by
    unfold aU
    rw[Int.toNat_natCast,List.getD_eq_getElem?_getD,hxi]
    rfl
   rw[hrd,Int.toNat_natCast] at x0 x1
   subst hA
   obtain⟨vs,vc,tg,gF,am,rws,n,M,h1,hcv,hn,hM,Co⟩:=HI.out
   have hBr:Below w.heap.size w wr:=GG.out.trans (Co.toBelow (fun _ h=>h) GG.out.size)
   have y0:=(hBr.cell (World.block_lt_of_cell? _ _ x0)).trans x0
   have y1:=(hBr.cell (World.block_lt_of_cell? _ _ x1)).trans x1
   obtain⟨V,hV⟩:∃V,V=wr.alloc (.cells #[.string t,.int .i64 c] 45):=⟨_,rfl⟩
   have ji:Below wr.heap.size wr V:=by rw[hV];exact(Below.refl _ wr).alloc (Nat.le_refl _) _
   have hxb:V.heap[wr.heap.size]?=some (.cells #[.string t,.int .i64 c] 45 (0,0)):=by rw[hV];exact bG _ _
   have hsn:=seq_new t ht V
   have hbx:=aj hxb 0
   have hsl:V.heap.size=wr.heap.size+1:=by rw[hV];simp
   have hbr:=Bs.bA h1.blk
   obtain⟨i0,hi0,hz0,hz1,hz2⟩:=info_parts Zk
   obtain⟨i1,hi1,hs1,hs2,hs3⟩:=info_parts infoSP
   have HP:=Lib.hid (And.intro h1 (And.intro hcv (And.intro hn (And.intro hM (And.intro Co (And.intro hBr (And.intro ji (And.intro hxb (And.intro hsl (And.intro hbr hxe))))))))))
   have HSN:=Lib.hid hsn
   have b0:(wr.alloc (.cells #[.string t,.int .i64 c] 45)).cell? ⟨wr.heap.size,0,none⟩=some (.string t):=by rw[<-hV];exact hbx
   clear h1 hcv hn hM Co hBr ji hxb hsl hxe hsn hbx x0 x1 hrd hbr
   go_wp2_with (go_at_call 112;rw[<-hV];refine HSN.out.mono ?_;rintro e w2 ⟨rfl,⟨S,hSq⟩,hB2⟩;have H2:=Lib.hid (And.intro hSq hB2);clear hSq hB2)
   clear b0 y0 y1 hV
   obtain⟨kb,hkb⟩:∃kb,kb=wr.heap.size+1:=⟨_,rfl⟩
   rw[<-hkb]
   have HK:=Lib.hid hkb
   clear hkb
   go_cut [28] from 28 to 68 (fun v28 wx=>v28= .int .i64 (D.length:Int)/\Hid (∃vs' KV U,NS w.heap.size w2 U b wr.heap.size vs vc c vs' KV (gF.length+1) ((gG D).length+1) ((gF.map fun k=>Value.pointer (some ⟨k,0,none⟩))++[.pointer (some ⟨kb,0,none⟩)]) ((gG D).map (Value.int .i64)++[.int .i64 c])/\wx=(U.setCell ⟨b,0,none⟩ vs').setCell ⟨b,1,none⟩ KV))
   case first=>
    have hN0:NS w.heap.size w2 w2 b wr.heap.size vs vc c vs vc gF.length (gG D).length (gF.map fun k=>Value.pointer (some ⟨k,0,none⟩)) ((gG D).map (Value.int .i64)):=by
     obtain⟨h1,hcv,hn,hM,Co,hBr,ji,hxb,hsl,hbr,hxe⟩:=HP.out
     have h2:=(h1.below ji).below H2.out.2
     have hx2:=(H2.out.2.block _ (Bs.bA hxb)).trans hxb
     have nx:∀k,tg k≠ .no->k<wr.heap.size:=fun k hk=>(h1.lt k hk).2
     refine⟨h2.vso,h2.vco,fun k hk hk2=>?_,⟨fun e=>?_,fun e=>?_,fun e=>?_,fun e=>?_⟩,⟨h2.lo,Bs.bA h2.blk,Bs.bA hx2⟩,aj h2.blk 0,aj h2.blk 1,aj hx2 1,aX h2.blk 0,aX h2.blk 1,Fr.refl _ _,fun k hk=> .inl hk,fun k hk=> .inl hk⟩
     ·have e1:=h1.Gx k hk
      rw[h1.IG k hk2] at e1
      cases e1
     ·have e1:=h1.Gx b e
      rw[h1.Cc] at e1
      cases e1
     ·have e1:=h1.IG b e
      rw[h1.Cc] at e1
      cases e1
     ·have:=nx _ (by rw[h1.Gx _ e];simp);omega
     ·have:=nx _ (by rw[h1.IG _ e];simp);omega
    have u0:=hN0.c0
    have u1:=hN0.c1
    have u8:=hN0.c8
    have u0d:w2.drew.cell? ⟨b,0,none⟩=some vs:=u0
    have u1d:w2.drew.cell? ⟨b,1,none⟩=some vc:=u1
    have u8d:w2.drew.cell? ⟨wr.heap.size,1,none⟩=some (.int .i64 c):=u8
    have hfs0:some w2.heap.size≠vs.ownBlock:=fun e=>by have:=(eG hN0.os e.symm).2;omega
    have hfs1:some (w2.heap.size+1)≠vs.ownBlock:=fun e=>by have:=(eG hN0.os e.symm).2;omega
    have hfc0:some w2.heap.size≠vc.ownBlock:=fun e=>by have:=(eG hN0.oc e.symm).2;omega
    have hfc1:some (w2.heap.size+1)≠vc.ownBlock:=fun e=>by have:=(eG hN0.oc e.symm).2;omega
    have hsl2:gF.length<=10000:=by rw[HP.out.1.lens.1];simp[gI];omega
    have hcl2:(gG D).length<=10000:=by simp[gG];omega
    have hbw2:b<w2.heap.size:=hN0.bx.2.1
    have hxw2:wr.heap.size<w2.heap.size:=hN0.bx.2.2
    have hbx8:b≠wr.heap.size:=by have:=HP.out.2.2.2.2.2.2.2.2.2.1;omega
    rename_i hJ9 hK9
    refine wp_region_any (by kernel_rfl) ?_
    show wpAny _ _ _ _ _ _ _ w2.drew
    refine wpAny_take (i:=0) (v:=(.pointer (some ⟨b,0,none⟩))) rfl (by kernel_rfl) (by kernel_rfl) (by kernel_rfl) (fun _ _ _ h=>h) (Or.inl ⟨by rfl,fun w=>by go_simp⟩) ?_
    simp only[Act.put,List.setIfInBounds_toArray,List.set_cons_zero,List.set_cons_succ]
    refine wpAny_take (i:=1) (v:=(.pointer (some ⟨b,0,none⟩))) rfl (by kernel_rfl) (by kernel_rfl) (by kernel_rfl) (fun _ _ _ h=>h) (Or.inl ⟨by rfl,fun w=>by go_simp⟩) ?_
    simp only[Act.put,List.setIfInBounds_toArray,List.set_cons_zero,List.set_cons_succ]
    refine wpAny_take (i:=2) (v:=(.pointer (some ⟨b,0,none⟩))) rfl (by kernel_rfl) (by kernel_rfl) (by kernel_rfl) (fun _ _ _ h=>h) (Or.inl ⟨by rfl,fun w=>by go_simp⟩) ?_
    simp only[Act.put,List.setIfInBounds_toArray,List.set_cons_zero,List.set_cons_succ]
    refine wpAny_take (i:=3) (v:=(.pointer (some ⟨b,0,none⟩))) rfl (by kernel_rfl) (by kernel_rfl) (by kernel_rfl) (fun _ _ _ h=>h) (Or.inl ⟨by rfl,fun w=>by go_simp⟩) ?_
    simp only[Act.put,List.setIfInBounds_toArray,List.set_cons_zero,List.set_cons_succ]
    refine wpAny_take (i:=4) (v:=(.pointer (some ⟨b,0,none⟩))) rfl (by kernel_rfl) (by kernel_rfl) (by kernel_rfl) (fun _ _ _ h=>h) (Or.inl ⟨by rfl,fun w=>by go_simp⟩) ?_
    simp only[Act.put,List.setIfInBounds_toArray,List.set_cons_zero,List.set_cons_succ]
    refine wpAny_take (i:=6) (v:=(.pointer (some ⟨kb,0,none⟩))) rfl (by kernel_rfl) (by kernel_rfl) (by kernel_rfl) (fun _ _ _ h=>h) (Or.inl ⟨by rfl,fun w=>by go_simp⟩) ?_
    simp only[Act.put,List.setIfInBounds_toArray,List.set_cons_zero,List.set_cons_succ]
    refine wpAny_take (i:=9) (v:=(.pointer (some ⟨b,0,none⟩))) rfl (by kernel_rfl) (by kernel_rfl) (by kernel_rfl) (fun _ _ _ h=>h) (Or.inl ⟨by rfl,fun w=>by go_simp⟩) ?_
    simp only[Act.put,List.setIfInBounds_toArray,List.set_cons_zero,List.set_cons_succ]
    refine wpAny_take (i:=10) (v:=(.pointer (some ⟨b,0,none⟩))) rfl (by kernel_rfl) (by kernel_rfl) (by kernel_rfl) (fun _ _ _ h=>h) (Or.inl ⟨by rfl,fun w=>by go_simp⟩) ?_
    simp only[Act.put,List.setIfInBounds_toArray,List.set_cons_zero,List.set_cons_succ]
    refine wpAny_take (i:=11) (v:=(.pointer (some ⟨b,1,none⟩))) rfl (by kernel_rfl) (by kernel_rfl) (by kernel_rfl) (fun _ _ _ h=>h) (Or.inl ⟨by rfl,fun w=>by go_simp⟩) ?_
    simp only[Act.put,List.setIfInBounds_toArray,List.set_cons_zero,List.set_cons_succ]
    refine wpAny_take (i:=13) (v:=(.pointer (some ⟨wr.heap.size,1,none⟩))) rfl (by kernel_rfl) (by kernel_rfl) (by kernel_rfl) (fun _ _ _ h=>h) (Or.inl ⟨by rfl,fun w=>by go_simp⟩) ?_
    simp only[Act.put,List.setIfInBounds_toArray,List.set_cons_zero,List.set_cons_succ]
    refine Ow.FV (S:=fun w'=>w'.cell? ⟨b,0,none⟩=some vs/\w'.cell? ⟨b,1,none⟩=some vc) (late:=fun j=>decide (19<=j)) _ _ _ _ ?_
    refine Ow.Cf (i:=5) (v:=vs) rfl (by kernel_rfl) (by kernel_rfl) (by kernel_rfl) (by kernel_rfl) (fun _ _ _ h=>h) (Or.inl ⟨by rfl,fun w hS=>by have h0:=hS.1;have h1:=hS.2;clear hS;go_simp⟩) ⟨u0d,u1d⟩ ?_
    simp only[Act.put,List.setIfInBounds_toArray,List.set_cons_zero,List.set_cons_succ]
    refine Ow.Cf (i:=12) (v:=vc) rfl (by kernel_rfl) (by kernel_rfl) (by kernel_rfl) (by kernel_rfl) (fun _ _ _ h=>h) (Or.inl ⟨by rfl,fun w hS=>by have h0:=hS.1;have h1:=hS.2;clear hS;go_simp⟩) ⟨u0d,u1d⟩ ?_
    simp only[Act.put,List.setIfInBounds_toArray,List.set_cons_zero,List.set_cons_succ]
    have hN:=hN0.drew
    refine Ow.bJ (rs:=[7,14]) (by kernel_rfl) (by simp) ?_
    refine Ow.dV.cons (i:=7) rfl (fun K hK=>?_) ?_
    ·go_simp
     have hN:NS w.heap.size w2 (w2.alloc (.cells #[.pointer (some ⟨kb,0,none⟩)] uq)).drew b wr.heap.size vs vc c vs vc gF.length (gG D).length _ _:=hN.alloc (.cells #[.pointer (some ⟨kb,0,none⟩)] uq)
     have c7:(w2.alloc (.cells #[.pointer (some ⟨kb,0,none⟩)] uq)).drew.cell? ⟨w2.heap.size,0,none⟩=some (.pointer (some ⟨kb,0,none⟩)):=Ko w2 (.pointer (some ⟨kb,0,none⟩)) uq (by simp)
     refine hK.out _ _ (fun _=>⟨hN.c0,hN.c1⟩) ?_
     clear hK K
     try simp only[Act.put,List.setIfInBounds_toArray,List.set_cons_zero,List.set_cons_succ]
     refine Ow.bJ (rs:=[8,14]) (by kernel_rfl) (by simp) ?_
     refine Ow.dV.cons (i:=8) rfl (fun K hK=>?_) ?_
     ·refine step_append_lies (w:=(w2.alloc (.cells #[.pointer (some ⟨kb,0,none⟩)] uq)).drew) rfl (.tmp 41) (.tmp 43) 195 rfl w.heap.size uq i1 _ 1 8 Tryz.underlying195 hi1 hs1 hs2 hs3 rfl (by omega) vs gF.length (gF.map fun k=>Value.pointer (some ⟨k,0,none⟩)) rfl hN.os ⟨w2.heap.size,0,none⟩ 1 1 [.pointer (some ⟨kb,0,none⟩)] rfl rfl (um c7) (by simp[Value.oneCell']) (by omega) (by unfold maxLen;omega) (by omega) (by have:=hN.bx;omega) _ rfl ?_
      intro gg cap w3 hown hgrow hat hlt
      have hN:=NS.He hN rfl hown hgrow hat
      clear hown hgrow hat hlt
      refine hK.out _ _ (fun _=>⟨hN.c0,hN.c1⟩) ?_
      clear hK K
      try simp only[Act.put,List.setIfInBounds_toArray,List.set_cons_zero,List.set_cons_succ]
      refine Ow.bJ (rs:=[14]) (by kernel_rfl) (by simp) ?_
      refine Ow.dV.cons (i:=14) rfl (fun K hK=>?_) ?_
      ·have u8:=hN.c8
       go_simp
       refine hK.out _ _ (fun _=>⟨hN.c0,hN.c1⟩) ?_
       clear hK K
       try simp only[Act.put,List.setIfInBounds_toArray,List.set_cons_zero,List.set_cons_succ]
       refine Ow.bJ (rs:=[15]) (by kernel_rfl) (by simp) ?_
       refine Ow.dV.cons (i:=15) rfl (fun K hK=>?_) ?_
       ·go_simp
        have hN:NS w.heap.size w2 (w3.alloc (.cells #[.int .i64 c] TN)) b wr.heap.size vs vc c _ vc (gF.length+1) (gG D).length _ _:=hN.alloc (.cells #[.int .i64 c] TN)
        have c15:(w3.alloc (.cells #[.int .i64 c] TN)).cell? ⟨w3.heap.size,0,none⟩=some (.int .i64 c):=Ko w3 (.int .i64 c) TN (by simp)
        refine hK.out _ _ (fun _=>⟨hN.c0,hN.c1⟩) ?_
        clear hK K
        try simp only[Act.put,List.setIfInBounds_toArray,List.set_cons_zero,List.set_cons_succ]
        refine Ow.bJ (rs:=[16]) (by kernel_rfl) (by simp) ?_
        refine Ow.dV.cons (i:=16) rfl (fun K hK=>?_) ?_
        ·refine step_append_lies (w:=(w3.alloc (.cells #[.int .i64 c] TN))) rfl (.tmp 48) (.tmp 51) 43 rfl w.heap.size TN i0 _ 1 8 Tryz.underlying43 hi0 hz0 hz1 hz2 rfl (by omega) vc (gG D).length ((gG D).map (Value.int .i64)) rfl hN.oc ⟨w3.heap.size,0,none⟩ 1 1 [.int .i64 c] rfl rfl (um c15) (by simp[Value.oneCell']) (by omega) (by unfold maxLen;omega) (by omega) (by have:=hN.bx;omega) _ rfl ?_
         intro gg2 cap2 w4 hown hgrow hat hlt
         have hN:=NS.Hd hN rfl hown hgrow hat
         clear hown hgrow hat hlt
         refine hK.out _ _ (fun _=>⟨hN.c0,hN.c1⟩) ?_
         clear hK K
         try simp only[Act.put,List.setIfInBounds_toArray,List.set_cons_zero,List.set_cons_succ]
         have u0:=hN.c0
         have u1:=hN.c1
         have f0:=hN.f0
         have f1:=hN.f1
         have ub:=hN.bx.2.1
         refine Ow.bJ (rs:=[17]) (by kernel_rfl) (by simp) ?_
         refine Ow.dV.cons (i:=17) rfl (fun K hK=>?_) Ow.dV.nil
         go_simp
         refine hK.out _ _ (fun h9=>⟨hN.c0,hN.c1⟩) ?_
         clear hK K
         try simp only[Act.put,List.setIfInBounds_toArray,List.set_cons_zero,List.set_cons_succ]
         refine Ow.bJ (rs:=[18]) (by kernel_rfl) (by simp) ?_
         refine Ow.dV.cons (i:=18) rfl (fun K hK=>?_) Ow.dV.nil
         go_simp
         refine hK.out _ _ (fun h9=>⟨hN.c0,hN.c1⟩) ?_
         clear hK K
         try simp only[Act.put,List.setIfInBounds_toArray,List.set_cons_zero,List.set_cons_succ]
         refine Ow.bJ (rs:=[19]) (by kernel_rfl) (by simp) ?_
         refine Ow.dV.cons (i:=19) rfl (fun K hK=>?_) Ow.dV.nil
         go_simp
         refine hK.out _ _ (fun h9=>by cases h9) ?_
         clear hK K
         try simp only[Act.put,List.setIfInBounds_toArray,List.set_cons_zero,List.set_cons_succ]
         refine Ow.bJ (rs:=[20]) (by kernel_rfl) (by simp) ?_
         refine Ow.dV.cons (i:=20) rfl (fun K hK=>?_) Ow.dV.nil
         go_simp
         refine hK.out _ _ (fun h9=>by cases h9) ?_
         clear hK K
         try simp only[Act.put,List.setIfInBounds_toArray,List.set_cons_zero,List.set_cons_succ]
         refine Ow.bJ (rs:=[21]) (by kernel_rfl) (by simp) ?_
         refine Ow.dV.cons (i:=21) rfl (fun K hK=>?_) Ow.dV.nil
         go_simp
         refine hK.out _ _ (fun h9=>by cases h9) ?_
         clear hK K
         try simp only[Act.put,List.setIfInBounds_toArray,List.set_cons_zero,List.set_cons_succ]
         refine Ow.bJ (rs:=[22]) (by kernel_rfl) (by simp) ?_
         refine Ow.dV.cons (i:=22) rfl (fun K hK=>?_) Ow.dV.nil
         go_simp
         refine hK.out _ _ (fun h9=>by cases h9) ?_
         clear hK K
         try simp only[Act.put,List.setIfInBounds_toArray,List.set_cons_zero,List.set_cons_succ]
         refine Ow.mD (by kernel_rfl) ?_ _
         refine hK9 _ _ (Met.intro (hJ9 _ _ ?_))
         (repeat apply Exists.intro)
         refine⟨?rel,rfl⟩
         case rel=>exact⟨rfl,Lib.hid ⟨_,_,_,hN,rfl⟩⟩
        exact Ow.dV.nil
       exact Ow.dV.nil
      exact Ow.dV.nil
     refine Ow.dV.cons (i:=14) rfl (fun K hK=>?_) ?_
     ·have u8:=hN.c8
      go_simp
      refine hK.out _ _ (fun _=>⟨hN.c0,hN.c1⟩) ?_
      clear hK K
      try simp only[Act.put,List.setIfInBounds_toArray,List.set_cons_zero,List.set_cons_succ]
      refine Ow.bJ (rs:=[8,15]) (by kernel_rfl) (by simp) ?_
      refine Ow.dV.cons (i:=8) rfl (fun K hK=>?_) ?_
      ·refine step_append_lies (w:=(w2.alloc (.cells #[.pointer (some ⟨kb,0,none⟩)] uq)).drew) rfl (.tmp 41) (.tmp 43) 195 rfl w.heap.size uq i1 _ 1 8 Tryz.underlying195 hi1 hs1 hs2 hs3 rfl (by omega) vs gF.length (gF.map fun k=>Value.pointer (some ⟨k,0,none⟩)) rfl hN.os ⟨w2.heap.size,0,none⟩ 1 1 [.pointer (some ⟨kb,0,none⟩)] rfl rfl (um c7) (by simp[Value.oneCell']) (by omega) (by unfold maxLen;omega) (by omega) (by have:=hN.bx;omega) _ rfl ?_
       intro gg cap w3 hown hgrow hat hlt
       have hN:=NS.He hN rfl hown hgrow hat
       clear hown hgrow hat hlt
       refine hK.out _ _ (fun _=>⟨hN.c0,hN.c1⟩) ?_
       clear hK K
       try simp only[Act.put,List.setIfInBounds_toArray,List.set_cons_zero,List.set_cons_succ]
       refine Ow.bJ (rs:=[15]) (by kernel_rfl) (by simp) ?_
       refine Ow.dV.cons (i:=15) rfl (fun K hK=>?_) ?_
       ·go_simp
        have hN:NS w.heap.size w2 (w3.alloc (.cells #[.int .i64 c] TN)) b wr.heap.size vs vc c _ vc (gF.length+1) (gG D).length _ _:=hN.alloc (.cells #[.int .i64 c] TN)
        have c15:(w3.alloc (.cells #[.int .i64 c] TN)).cell? ⟨w3.heap.size,0,none⟩=some (.int .i64 c):=Ko w3 (.int .i64 c) TN (by simp)
        refine hK.out _ _ (fun _=>⟨hN.c0,hN.c1⟩) ?_
        clear hK K
        try simp only[Act.put,List.setIfInBounds_toArray,List.set_cons_zero,List.set_cons_succ]
        refine Ow.bJ (rs:=[16]) (by kernel_rfl) (by simp) ?_
        refine Ow.dV.cons (i:=16) rfl (fun K hK=>?_) ?_
        ·refine step_append_lies (w:=(w3.alloc (.cells #[.int .i64 c] TN))) rfl (.tmp 48) (.tmp 51) 43 rfl w.heap.size TN i0 _ 1 8 Tryz.underlying43 hi0 hz0 hz1 hz2 rfl (by omega) vc (gG D).length ((gG D).map (Value.int .i64)) rfl hN.oc ⟨w3.heap.size,0,none⟩ 1 1 [.int .i64 c] rfl rfl (um c15) (by simp[Value.oneCell']) (by omega) (by unfold maxLen;omega) (by omega) (by have:=hN.bx;omega) _ rfl ?_
         intro gg2 cap2 w4 hown hgrow hat hlt
         have hN:=NS.Hd hN rfl hown hgrow hat
         clear hown hgrow hat hlt
         refine hK.out _ _ (fun _=>⟨hN.c0,hN.c1⟩) ?_
         clear hK K
         try simp only[Act.put,List.setIfInBounds_toArray,List.set_cons_zero,List.set_cons_succ]
         have u0:=hN.c0
         have u1:=hN.c1
         have f0:=hN.f0
         have f1:=hN.f1
         have ub:=hN.bx.2.1
         refine Ow.bJ (rs:=[17]) (by kernel_rfl) (by simp) ?_
         refine Ow.dV.cons (i:=17) rfl (fun K hK=>?_) Ow.dV.nil
         go_simp
         refine hK.out _ _ (fun h9=>⟨hN.c0,hN.c1⟩) ?_
         clear hK K
         try simp only[Act.put,List.setIfInBounds_toArray,List.set_cons_zero,List.set_cons_succ]
         refine Ow.bJ (rs:=[18]) (by kernel_rfl) (by simp) ?_
         refine Ow.dV.cons (i:=18) rfl (fun K hK=>?_) Ow.dV.nil
         go_simp
         refine hK.out _ _ (fun h9=>⟨hN.c0,hN.c1⟩) ?_
         clear hK K
         try simp only[Act.put,List.setIfInBounds_toArray,List.set_cons_zero,List.set_cons_succ]
         refine Ow.bJ (rs:=[19]) (by kernel_rfl) (by simp) ?_
         refine Ow.dV.cons (i:=19) rfl (fun K hK=>?_) Ow.dV.nil
         go_simp
         refine hK.out _ _ (fun h9=>by cases h9) ?_
         clear hK K
         try simp only[Act.put,List.setIfInBounds_toArray,List.set_cons_zero,List.set_cons_succ]
         refine Ow.bJ (rs:=[20]) (by kernel_rfl) (by simp) ?_
         refine Ow.dV.cons (i:=20) rfl (fun K hK=>?_) Ow.dV.nil
         go_simp
         refine hK.out _ _ (fun h9=>by cases h9) ?_
         clear hK K
         try simp only[Act.put,List.setIfInBounds_toArray,List.set_cons_zero,List.set_cons_succ]
         refine Ow.bJ (rs:=[21]) (by kernel_rfl) (by simp) ?_
         refine Ow.dV.cons (i:=21) rfl (fun K hK=>?_) Ow.dV.nil
         go_simp
         refine hK.out _ _ (fun h9=>by cases h9) ?_
         clear hK K
         try simp only[Act.put,List.setIfInBounds_toArray,List.set_cons_zero,List.set_cons_succ]
         refine Ow.bJ (rs:=[22]) (by kernel_rfl) (by simp) ?_
         refine Ow.dV.cons (i:=22) rfl (fun K hK=>?_) Ow.dV.nil
         go_simp
         refine hK.out _ _ (fun h9=>by cases h9) ?_
         clear hK K
         try simp only[Act.put,List.setIfInBounds_toArray,List.set_cons_zero,List.set_cons_succ]
         refine Ow.mD (by kernel_rfl) ?_ _
         refine hK9 _ _ (Met.intro (hJ9 _ _ ?_))
         (repeat apply Exists.intro)
         refine⟨?rel,rfl⟩
         case rel=>exact⟨rfl,Lib.hid ⟨_,_,_,hN,rfl⟩⟩
        exact Ow.dV.nil
       exact Ow.dV.nil
      refine Ow.dV.cons (i:=15) rfl (fun K hK=>?_) ?_
      ·go_simp
       have hN:NS w.heap.size w2 ((w2.alloc (.cells #[.pointer (some ⟨kb,0,none⟩)] uq)).alloc (.cells #[.int .i64 c] TN)).drew b wr.heap.size vs vc c vs vc gF.length (gG D).length _ _:=hN.alloc (.cells #[.int .i64 c] TN)
       have c7:((w2.alloc (.cells #[.pointer (some ⟨kb,0,none⟩)] uq)).alloc (.cells #[.int .i64 c] TN)).drew.cell? ⟨w2.heap.size,0,none⟩=some (.pointer (some ⟨kb,0,none⟩)):=oldc c7 (.cells #[.int .i64 c] TN)
       have c15:((w2.alloc (.cells #[.pointer (some ⟨kb,0,none⟩)] uq)).alloc (.cells #[.int .i64 c] TN)).drew.cell? ⟨w2.heap.size+1,0,none⟩=some (.int .i64 c):=Ko (w2.alloc (.cells #[.pointer (some ⟨kb,0,none⟩)] uq)) (.int .i64 c) TN (by simp)
       refine hK.out _ _ (fun _=>⟨hN.c0,hN.c1⟩) ?_
       clear hK K
       try simp only[Act.put,List.setIfInBounds_toArray,List.set_cons_zero,List.set_cons_succ]
       refine Ow.bJ (rs:=[8]) (by kernel_rfl) (by simp) ?_
       refine Ow.dV.cons (i:=8) rfl (fun K hK=>?_) ?_
       ·refine step_append_lies (w:=((w2.alloc (.cells #[.pointer (some ⟨kb,0,none⟩)] uq)).alloc (.cells #[.int .i64 c] TN)).drew) rfl (.tmp 41) (.tmp 43) 195 rfl w.heap.size uq i1 _ 1 8 Tryz.underlying195 hi1 hs1 hs2 hs3 rfl (by omega) vs gF.length (gF.map fun k=>Value.pointer (some ⟨k,0,none⟩)) rfl hN.os ⟨w2.heap.size,0,none⟩ 1 1 [.pointer (some ⟨kb,0,none⟩)] rfl rfl (um c7) (by simp[Value.oneCell']) (by omega) (by unfold maxLen;omega) (by omega) (by have:=hN.bx;omega) _ rfl ?_
        intro gg cap w3 hown hgrow hat hlt
        have c15:w3.cell? ⟨w2.heap.size+1,0,none⟩=some (.int .i64 c):=(hgrow.cell_far ⟨w2.heap.size+1,0,none⟩ (World.block_lt_of_cell? _ _ c15) hfs1).trans c15
        have hN:=NS.He hN rfl hown hgrow hat
        clear hown hgrow hat hlt
        refine hK.out _ _ (fun _=>⟨hN.c0,hN.c1⟩) ?_
        clear hK K
        try simp only[Act.put,List.setIfInBounds_toArray,List.set_cons_zero,List.set_cons_succ]
        refine Ow.bJ (rs:=[16]) (by kernel_rfl) (by simp) ?_
        refine Ow.dV.cons (i:=16) rfl (fun K hK=>?_) ?_
        ·refine step_append_lies (w:=w3) rfl (.tmp 48) (.tmp 51) 43 rfl w.heap.size TN i0 _ 1 8 Tryz.underlying43 hi0 hz0 hz1 hz2 rfl (by omega) vc (gG D).length ((gG D).map (Value.int .i64)) rfl hN.oc ⟨w2.heap.size+1,0,none⟩ 1 1 [.int .i64 c] rfl rfl (um c15) (by simp[Value.oneCell']) (by omega) (by unfold maxLen;omega) (by omega) (by have:=hN.bx;omega) _ rfl ?_
         intro gg2 cap2 w4 hown hgrow hat hlt
         have hN:=NS.Hd hN rfl hown hgrow hat
         clear hown hgrow hat hlt
         refine hK.out _ _ (fun _=>⟨hN.c0,hN.c1⟩) ?_
         clear hK K
         try simp only[Act.put,List.setIfInBounds_toArray,List.set_cons_zero,List.set_cons_succ]
         have u0:=hN.c0
         have u1:=hN.c1
         have f0:=hN.f0
         have f1:=hN.f1
         have ub:=hN.bx.2.1
         refine Ow.bJ (rs:=[17]) (by kernel_rfl) (by simp) ?_
         refine Ow.dV.cons (i:=17) rfl (fun K hK=>?_) Ow.dV.nil
         go_simp
         refine hK.out _ _ (fun h9=>⟨hN.c0,hN.c1⟩) ?_
         clear hK K
         try simp only[Act.put,List.setIfInBounds_toArray,List.set_cons_zero,List.set_cons_succ]
         refine Ow.bJ (rs:=[18]) (by kernel_rfl) (by simp) ?_
         refine Ow.dV.cons (i:=18) rfl (fun K hK=>?_) Ow.dV.nil
         go_simp
         refine hK.out _ _ (fun h9=>⟨hN.c0,hN.c1⟩) ?_
         clear hK K
         try simp only[Act.put,List.setIfInBounds_toArray,List.set_cons_zero,List.set_cons_succ]
         refine Ow.bJ (rs:=[19]) (by kernel_rfl) (by simp) ?_
         refine Ow.dV.cons (i:=19) rfl (fun K hK=>?_) Ow.dV.nil
         go_simp
         refine hK.out _ _ (fun h9=>by cases h9) ?_
         clear hK K
         try simp only[Act.put,List.setIfInBounds_toArray,List.set_cons_zero,List.set_cons_succ]
         refine Ow.bJ (rs:=[20]) (by kernel_rfl) (by simp) ?_
         refine Ow.dV.cons (i:=20) rfl (fun K hK=>?_) Ow.dV.nil
         go_simp
         refine hK.out _ _ (fun h9=>by cases h9) ?_
         clear hK K
         try simp only[Act.put,List.setIfInBounds_toArray,List.set_cons_zero,List.set_cons_succ]
         refine Ow.bJ (rs:=[21]) (by kernel_rfl) (by simp) ?_
         refine Ow.dV.cons (i:=21) rfl (fun K hK=>?_) Ow.dV.nil
         go_simp
         refine hK.out _ _ (fun h9=>by cases h9) ?_
         clear hK K
         try simp only[Act.put,List.setIfInBounds_toArray,List.set_cons_zero,List.set_cons_succ]
         refine Ow.bJ (rs:=[22]) (by kernel_rfl) (by simp) ?_
         refine Ow.dV.cons (i:=22) rfl (fun K hK=>?_) Ow.dV.nil
         go_simp
         refine hK.out _ _ (fun h9=>by cases h9) ?_
         clear hK K
         try simp only[Act.put,List.setIfInBounds_toArray,List.set_cons_zero,List.set_cons_succ]
         refine Ow.mD (by kernel_rfl) ?_ _
         refine hK9 _ _ (Met.intro (hJ9 _ _ ?_))
         (repeat apply Exists.intro)
         refine⟨?rel,rfl⟩
         case rel=>exact⟨rfl,Lib.hid ⟨_,_,_,hN,rfl⟩⟩
        exact Ow.dV.nil
       exact Ow.dV.nil
      exact Ow.dV.nil
     exact Ow.dV.nil
    refine Ow.dV.cons (i:=14) rfl (fun K hK=>?_) ?_
    ·have u8:=hN.c8
     go_simp
     refine hK.out _ _ (fun _=>⟨hN.c0,hN.c1⟩) ?_
     clear hK K
     try simp only[Act.put,List.setIfInBounds_toArray,List.set_cons_zero,List.set_cons_succ]
     refine Ow.bJ (rs:=[7,15]) (by kernel_rfl) (by simp) ?_
     refine Ow.dV.cons (i:=7) rfl (fun K hK=>?_) ?_
     ·go_simp
      have hN:NS w.heap.size w2 (w2.alloc (.cells #[.pointer (some ⟨kb,0,none⟩)] uq)).drew b wr.heap.size vs vc c vs vc gF.length (gG D).length _ _:=hN.alloc (.cells #[.pointer (some ⟨kb,0,none⟩)] uq)
      have c7:(w2.alloc (.cells #[.pointer (some ⟨kb,0,none⟩)] uq)).drew.cell? ⟨w2.heap.size,0,none⟩=some (.pointer (some ⟨kb,0,none⟩)):=Ko w2 (.pointer (some ⟨kb,0,none⟩)) uq (by simp)
      refine hK.out _ _ (fun _=>⟨hN.c0,hN.c1⟩) ?_
      clear hK K
      try simp only[Act.put,List.setIfInBounds_toArray,List.set_cons_zero,List.set_cons_succ]
      refine Ow.bJ (rs:=[8,15]) (by kernel_rfl) (by simp) ?_
      refine Ow.dV.cons (i:=8) rfl (fun K hK=>?_) ?_
      ·refine step_append_lies (w:=(w2.alloc (.cells #[.pointer (some ⟨kb,0,none⟩)] uq)).drew) rfl (.tmp 41) (.tmp 43) 195 rfl w.heap.size uq i1 _ 1 8 Tryz.underlying195 hi1 hs1 hs2 hs3 rfl (by omega) vs gF.length (gF.map fun k=>Value.pointer (some ⟨k,0,none⟩)) rfl hN.os ⟨w2.heap.size,0,none⟩ 1 1 [.pointer (some ⟨kb,0,none⟩)] rfl rfl (um c7) (by simp[Value.oneCell']) (by omega) (by unfold maxLen;omega) (by omega) (by have:=hN.bx;omega) _ rfl ?_
       intro gg cap w3 hown hgrow hat hlt
       have hN:=NS.He hN rfl hown hgrow hat
       clear hown hgrow hat hlt
       refine hK.out _ _ (fun _=>⟨hN.c0,hN.c1⟩) ?_
       clear hK K
       try simp only[Act.put,List.setIfInBounds_toArray,List.set_cons_zero,List.set_cons_succ]
       refine Ow.bJ (rs:=[15]) (by kernel_rfl) (by simp) ?_
       refine Ow.dV.cons (i:=15) rfl (fun K hK=>?_) ?_
       ·go_simp
        have hN:NS w.heap.size w2 (w3.alloc (.cells #[.int .i64 c] TN)) b wr.heap.size vs vc c _ vc (gF.length+1) (gG D).length _ _:=hN.alloc (.cells #[.int .i64 c] TN)
        have c15:(w3.alloc (.cells #[.int .i64 c] TN)).cell? ⟨w3.heap.size,0,none⟩=some (.int .i64 c):=Ko w3 (.int .i64 c) TN (by simp)
        refine hK.out _ _ (fun _=>⟨hN.c0,hN.c1⟩) ?_
        clear hK K
        try simp only[Act.put,List.setIfInBounds_toArray,List.set_cons_zero,List.set_cons_succ]
        refine Ow.bJ (rs:=[16]) (by kernel_rfl) (by simp) ?_
        refine Ow.dV.cons (i:=16) rfl (fun K hK=>?_) ?_
        ·refine step_append_lies (w:=(w3.alloc (.cells #[.int .i64 c] TN))) rfl (.tmp 48) (.tmp 51) 43 rfl w.heap.size TN i0 _ 1 8 Tryz.underlying43 hi0 hz0 hz1 hz2 rfl (by omega) vc (gG D).length ((gG D).map (Value.int .i64)) rfl hN.oc ⟨w3.heap.size,0,none⟩ 1 1 [.int .i64 c] rfl rfl (um c15) (by simp[Value.oneCell']) (by omega) (by unfold maxLen;omega) (by omega) (by have:=hN.bx;omega) _ rfl ?_
         intro gg2 cap2 w4 hown hgrow hat hlt
         have hN:=NS.Hd hN rfl hown hgrow hat
         clear hown hgrow hat hlt
         refine hK.out _ _ (fun _=>⟨hN.c0,hN.c1⟩) ?_
         clear hK K
         try simp only[Act.put,List.setIfInBounds_toArray,List.set_cons_zero,List.set_cons_succ]
         have u0:=hN.c0
         have u1:=hN.c1
         have f0:=hN.f0
         have f1:=hN.f1
         have ub:=hN.bx.2.1
         refine Ow.bJ (rs:=[17]) (by kernel_rfl) (by simp) ?_
         refine Ow.dV.cons (i:=17) rfl (fun K hK=>?_) Ow.dV.nil
         go_simp
         refine hK.out _ _ (fun h9=>⟨hN.c0,hN.c1⟩) ?_
         clear hK K
         try simp only[Act.put,List.setIfInBounds_toArray,List.set_cons_zero,List.set_cons_succ]
         refine Ow.bJ (rs:=[18]) (by kernel_rfl) (by simp) ?_
         refine Ow.dV.cons (i:=18) rfl (fun K hK=>?_) Ow.dV.nil
         go_simp
         refine hK.out _ _ (fun h9=>⟨hN.c0,hN.c1⟩) ?_
         clear hK K
         try simp only[Act.put,List.setIfInBounds_toArray,List.set_cons_zero,List.set_cons_succ]
         refine Ow.bJ (rs:=[19]) (by kernel_rfl) (by simp) ?_
         refine Ow.dV.cons (i:=19) rfl (fun K hK=>?_) Ow.dV.nil
         go_simp
         refine hK.out _ _ (fun h9=>by cases h9) ?_
         clear hK K
         try simp only[Act.put,List.setIfInBounds_toArray,List.set_cons_zero,List.set_cons_succ]
         refine Ow.bJ (rs:=[20]) (by kernel_rfl) (by simp) ?_
         refine Ow.dV.cons (i:=20) rfl (fun K hK=>?_) Ow.dV.nil
         go_simp
         refine hK.out _ _ (fun h9=>by cases h9) ?_
         clear hK K
         try simp only[Act.put,List.setIfInBounds_toArray,List.set_cons_zero,List.set_cons_succ]
         refine Ow.bJ (rs:=[21]) (by kernel_rfl) (by simp) ?_
         refine Ow.dV.cons (i:=21) rfl (fun K hK=>?_) Ow.dV.nil
         go_simp
         refine hK.out _ _ (fun h9=>by cases h9) ?_
         clear hK K
         try simp only[Act.put,List.setIfInBounds_toArray,List.set_cons_zero,List.set_cons_succ]
         refine Ow.bJ (rs:=[22]) (by kernel_rfl) (by simp) ?_
         refine Ow.dV.cons (i:=22) rfl (fun K hK=>?_) Ow.dV.nil
         go_simp
         refine hK.out _ _ (fun h9=>by cases h9) ?_
         clear hK K
         try simp only[Act.put,List.setIfInBounds_toArray,List.set_cons_zero,List.set_cons_succ]
         refine Ow.mD (by kernel_rfl) ?_ _
         refine hK9 _ _ (Met.intro (hJ9 _ _ ?_))
         (repeat apply Exists.intro)
         refine⟨?rel,rfl⟩
         case rel=>exact⟨rfl,Lib.hid ⟨_,_,_,hN,rfl⟩⟩
        exact Ow.dV.nil
       exact Ow.dV.nil
      refine Ow.dV.cons (i:=15) rfl (fun K hK=>?_) ?_
      ·go_simp
       have hN:NS w.heap.size w2 ((w2.alloc (.cells #[.pointer (some ⟨kb,0,none⟩)] uq)).alloc (.cells #[.int .i64 c] TN)).drew b wr.heap.size vs vc c vs vc gF.length (gG D).length _ _:=hN.alloc (.cells #[.int .i64 c] TN)
       have c7:((w2.alloc (.cells #[.pointer (some ⟨kb,0,none⟩)] uq)).alloc (.cells #[.int .i64 c] TN)).drew.cell? ⟨w2.heap.size,0,none⟩=some (.pointer (some ⟨kb,0,none⟩)):=oldc c7 (.cells #[.int .i64 c] TN)
       have c15:((w2.alloc (.cells #[.pointer (some ⟨kb,0,none⟩)] uq)).alloc (.cells #[.int .i64 c] TN)).drew.cell? ⟨w2.heap.size+1,0,none⟩=some (.int .i64 c):=Ko (w2.alloc (.cells #[.pointer (some ⟨kb,0,none⟩)] uq)) (.int .i64 c) TN (by simp)
       refine hK.out _ _ (fun _=>⟨hN.c0,hN.c1⟩) ?_
       clear hK K
       try simp only[Act.put,List.setIfInBounds_toArray,List.set_cons_zero,List.set_cons_succ]
       refine Ow.bJ (rs:=[8]) (by kernel_rfl) (by simp) ?_
       refine Ow.dV.cons (i:=8) rfl (fun K hK=>?_) ?_
       ·refine step_append_lies (w:=((w2.alloc (.cells #[.pointer (some ⟨kb,0,none⟩)] uq)).alloc (.cells #[.int .i64 c] TN)).drew) rfl (.tmp 41) (.tmp 43) 195 rfl w.heap.size uq i1 _ 1 8 Tryz.underlying195 hi1 hs1 hs2 hs3 rfl (by omega) vs gF.length (gF.map fun k=>Value.pointer (some ⟨k,0,none⟩)) rfl hN.os ⟨w2.heap.size,0,none⟩ 1 1 [.pointer (some ⟨kb,0,none⟩)] rfl rfl (um c7) (by simp[Value.oneCell']) (by omega) (by unfold maxLen;omega) (by omega) (by have:=hN.bx;omega) _ rfl ?_
        intro gg cap w3 hown hgrow hat hlt
        have c15:w3.cell? ⟨w2.heap.size+1,0,none⟩=some (.int .i64 c):=(hgrow.cell_far ⟨w2.heap.size+1,0,none⟩ (World.block_lt_of_cell? _ _ c15) hfs1).trans c15
        have hN:=NS.He hN rfl hown hgrow hat
        clear hown hgrow hat hlt
        refine hK.out _ _ (fun _=>⟨hN.c0,hN.c1⟩) ?_
        clear hK K
        try simp only[Act.put,List.setIfInBounds_toArray,List.set_cons_zero,List.set_cons_succ]
        refine Ow.bJ (rs:=[16]) (by kernel_rfl) (by simp) ?_
        refine Ow.dV.cons (i:=16) rfl (fun K hK=>?_) ?_
        ·refine step_append_lies (w:=w3) rfl (.tmp 48) (.tmp 51) 43 rfl w.heap.size TN i0 _ 1 8 Tryz.underlying43 hi0 hz0 hz1 hz2 rfl (by omega) vc (gG D).length ((gG D).map (Value.int .i64)) rfl hN.oc ⟨w2.heap.size+1,0,none⟩ 1 1 [.int .i64 c] rfl rfl (um c15) (by simp[Value.oneCell']) (by omega) (by unfold maxLen;omega) (by omega) (by have:=hN.bx;omega) _ rfl ?_
         intro gg2 cap2 w4 hown hgrow hat hlt
         have hN:=NS.Hd hN rfl hown hgrow hat
         clear hown hgrow hat hlt
         refine hK.out _ _ (fun _=>⟨hN.c0,hN.c1⟩) ?_
         clear hK K
         try simp only[Act.put,List.setIfInBounds_toArray,List.set_cons_zero,List.set_cons_succ]
         have u0:=hN.c0
         have u1:=hN.c1
         have f0:=hN.f0
         have f1:=hN.f1
         have ub:=hN.bx.2.1
         refine Ow.bJ (rs:=[17]) (by kernel_rfl) (by simp) ?_
         refine Ow.dV.cons (i:=17) rfl (fun K hK=>?_) Ow.dV.nil
         go_simp
         refine hK.out _ _ (fun h9=>⟨hN.c0,hN.c1⟩) ?_
         clear hK K
         try simp only[Act.put,List.setIfInBounds_toArray,List.set_cons_zero,List.set_cons_succ]
         refine Ow.bJ (rs:=[18]) (by kernel_rfl) (by simp) ?_
         refine Ow.dV.cons (i:=18) rfl (fun K hK=>?_) Ow.dV.nil
         go_simp
         refine hK.out _ _ (fun h9=>⟨hN.c0,hN.c1⟩) ?_
         clear hK K
         try simp only[Act.put,List.setIfInBounds_toArray,List.set_cons_zero,List.set_cons_succ]
         refine Ow.bJ (rs:=[19]) (by kernel_rfl) (by simp) ?_
         refine Ow.dV.cons (i:=19) rfl (fun K hK=>?_) Ow.dV.nil
         go_simp
         refine hK.out _ _ (fun h9=>by cases h9) ?_
         clear hK K
         try simp only[Act.put,List.setIfInBounds_toArray,List.set_cons_zero,List.set_cons_succ]
         refine Ow.bJ (rs:=[20]) (by kernel_rfl) (by simp) ?_
         refine Ow.dV.cons (i:=20) rfl (fun K hK=>?_) Ow.dV.nil
         go_simp
         refine hK.out _ _ (fun h9=>by cases h9) ?_
         clear hK K
         try simp only[Act.put,List.setIfInBounds_toArray,List.set_cons_zero,List.set_cons_succ]
         refine Ow.bJ (rs:=[21]) (by kernel_rfl) (by simp) ?_
         refine Ow.dV.cons (i:=21) rfl (fun K hK=>?_) Ow.dV.nil
         go_simp
         refine hK.out _ _ (fun h9=>by cases h9) ?_
         clear hK K
         try simp only[Act.put,List.setIfInBounds_toArray,List.set_cons_zero,List.set_cons_succ]
         refine Ow.bJ (rs:=[22]) (by kernel_rfl) (by simp) ?_
         refine Ow.dV.cons (i:=22) rfl (fun K hK=>?_) Ow.dV.nil
         go_simp
         refine hK.out _ _ (fun h9=>by cases h9) ?_
         clear hK K
         try simp only[Act.put,List.setIfInBounds_toArray,List.set_cons_zero,List.set_cons_succ]
         refine Ow.mD (by kernel_rfl) ?_ _
         refine hK9 _ _ (Met.intro (hJ9 _ _ ?_))
         (repeat apply Exists.intro)
         refine⟨?rel,rfl⟩
         case rel=>exact⟨rfl,Lib.hid ⟨_,_,_,hN,rfl⟩⟩
        exact Ow.dV.nil
       exact Ow.dV.nil
      exact Ow.dV.nil
     refine Ow.dV.cons (i:=15) rfl (fun K hK=>?_) ?_
     ·go_simp
      have hN:NS w.heap.size w2 (w2.alloc (.cells #[.int .i64 c] TN)).drew b wr.heap.size vs vc c vs vc gF.length (gG D).length _ _:=hN.alloc (.cells #[.int .i64 c] TN)
      have c15:(w2.alloc (.cells #[.int .i64 c] TN)).drew.cell? ⟨w2.heap.size,0,none⟩=some (.int .i64 c):=Ko w2 (.int .i64 c) TN (by simp)
      refine hK.out _ _ (fun _=>⟨hN.c0,hN.c1⟩) ?_
      clear hK K
      try simp only[Act.put,List.setIfInBounds_toArray,List.set_cons_zero,List.set_cons_succ]
      refine Ow.bJ (rs:=[7]) (by kernel_rfl) (by simp) ?_
      refine Ow.dV.cons (i:=7) rfl (fun K hK=>?_) ?_
      ·go_simp
       have hN:NS w.heap.size w2 ((w2.alloc (.cells #[.int .i64 c] TN)).alloc (.cells #[.pointer (some ⟨kb,0,none⟩)] uq)).drew b wr.heap.size vs vc c vs vc gF.length (gG D).length _ _:=hN.alloc (.cells #[.pointer (some ⟨kb,0,none⟩)] uq)
       have c15:((w2.alloc (.cells #[.int .i64 c] TN)).alloc (.cells #[.pointer (some ⟨kb,0,none⟩)] uq)).drew.cell? ⟨w2.heap.size,0,none⟩=some (.int .i64 c):=oldc c15 (.cells #[.pointer (some ⟨kb,0,none⟩)] uq)
       have c7:((w2.alloc (.cells #[.int .i64 c] TN)).alloc (.cells #[.pointer (some ⟨kb,0,none⟩)] uq)).drew.cell? ⟨w2.heap.size+1,0,none⟩=some (.pointer (some ⟨kb,0,none⟩)):=Ko (w2.alloc (.cells #[.int .i64 c] TN)) (.pointer (some ⟨kb,0,none⟩)) uq (by simp)
       refine hK.out _ _ (fun _=>⟨hN.c0,hN.c1⟩) ?_
       clear hK K
       try simp only[Act.put,List.setIfInBounds_toArray,List.set_cons_zero,List.set_cons_succ]
       refine Ow.bJ (rs:=[8]) (by kernel_rfl) (by simp) ?_
       refine Ow.dV.cons (i:=8) rfl (fun K hK=>?_) ?_
       ·refine step_append_lies (w:=((w2.alloc (.cells #[.int .i64 c] TN)).alloc (.cells #[.pointer (some ⟨kb,0,none⟩)] uq)).drew) rfl (.tmp 41) (.tmp 43) 195 rfl w.heap.size uq i1 _ 1 8 Tryz.underlying195 hi1 hs1 hs2 hs3 rfl (by omega) vs gF.length (gF.map fun k=>Value.pointer (some ⟨k,0,none⟩)) rfl hN.os ⟨w2.heap.size+1,0,none⟩ 1 1 [.pointer (some ⟨kb,0,none⟩)] rfl rfl (um c7) (by simp[Value.oneCell']) (by omega) (by unfold maxLen;omega) (by omega) (by have:=hN.bx;omega) _ rfl ?_
        intro gg cap w3 hown hgrow hat hlt
        have c15:w3.cell? ⟨w2.heap.size,0,none⟩=some (.int .i64 c):=(hgrow.cell_far ⟨w2.heap.size,0,none⟩ (World.block_lt_of_cell? _ _ c15) hfs0).trans c15
        have hN:=NS.He hN rfl hown hgrow hat
        clear hown hgrow hat hlt
        refine hK.out _ _ (fun _=>⟨hN.c0,hN.c1⟩) ?_
        clear hK K
        try simp only[Act.put,List.setIfInBounds_toArray,List.set_cons_zero,List.set_cons_succ]
        refine Ow.bJ (rs:=[16]) (by kernel_rfl) (by simp) ?_
        refine Ow.dV.cons (i:=16) rfl (fun K hK=>?_) ?_
        ·refine step_append_lies (w:=w3) rfl (.tmp 48) (.tmp 51) 43 rfl w.heap.size TN i0 _ 1 8 Tryz.underlying43 hi0 hz0 hz1 hz2 rfl (by omega) vc (gG D).length ((gG D).map (Value.int .i64)) rfl hN.oc ⟨w2.heap.size,0,none⟩ 1 1 [.int .i64 c] rfl rfl (um c15) (by simp[Value.oneCell']) (by omega) (by unfold maxLen;omega) (by omega) (by have:=hN.bx;omega) _ rfl ?_
         intro gg2 cap2 w4 hown hgrow hat hlt
         have hN:=NS.Hd hN rfl hown hgrow hat
         clear hown hgrow hat hlt
         refine hK.out _ _ (fun _=>⟨hN.c0,hN.c1⟩) ?_
         clear hK K
         try simp only[Act.put,List.setIfInBounds_toArray,List.set_cons_zero,List.set_cons_succ]
         have u0:=hN.c0
         have u1:=hN.c1
         have f0:=hN.f0
         have f1:=hN.f1
         have ub:=hN.bx.2.1
         refine Ow.bJ (rs:=[17]) (by kernel_rfl) (by simp) ?_
         refine Ow.dV.cons (i:=17) rfl (fun K hK=>?_) Ow.dV.nil
         go_simp
         refine hK.out _ _ (fun h9=>⟨hN.c0,hN.c1⟩) ?_
         clear hK K
         try simp only[Act.put,List.setIfInBounds_toArray,List.set_cons_zero,List.set_cons_succ]
         refine Ow.bJ (rs:=[18]) (by kernel_rfl) (by simp) ?_
         refine Ow.dV.cons (i:=18) rfl (fun K hK=>?_) Ow.dV.nil
         go_simp
         refine hK.out _ _ (fun h9=>⟨hN.c0,hN.c1⟩) ?_
         clear hK K
         try simp only[Act.put,List.setIfInBounds_toArray,List.set_cons_zero,List.set_cons_succ]
         refine Ow.bJ (rs:=[19]) (by kernel_rfl) (by simp) ?_
         refine Ow.dV.cons (i:=19) rfl (fun K hK=>?_) Ow.dV.nil
         go_simp
         refine hK.out _ _ (fun h9=>by cases h9) ?_
         clear hK K
         try simp only[Act.put,List.setIfInBounds_toArray,List.set_cons_zero,List.set_cons_succ]
         refine Ow.bJ (rs:=[20]) (by kernel_rfl) (by simp) ?_
         refine Ow.dV.cons (i:=20) rfl (fun K hK=>?_) Ow.dV.nil
         go_simp
         refine hK.out _ _ (fun h9=>by cases h9) ?_
         clear hK K
         try simp only[Act.put,List.setIfInBounds_toArray,List.set_cons_zero,List.set_cons_succ]
         refine Ow.bJ (rs:=[21]) (by kernel_rfl) (by simp) ?_
         refine Ow.dV.cons (i:=21) rfl (fun K hK=>?_) Ow.dV.nil
         go_simp
         refine hK.out _ _ (fun h9=>by cases h9) ?_
         clear hK K
         try simp only[Act.put,List.setIfInBounds_toArray,List.set_cons_zero,List.set_cons_succ]
         refine Ow.bJ (rs:=[22]) (by kernel_rfl) (by simp) ?_
         refine Ow.dV.cons (i:=22) rfl (fun K hK=>?_) Ow.dV.nil
         go_simp
         refine hK.out _ _ (fun h9=>by cases h9) ?_
         clear hK K
         try simp only[Act.put,List.setIfInBounds_toArray,List.set_cons_zero,List.set_cons_succ]
         refine Ow.mD (by kernel_rfl) ?_ _
         refine hK9 _ _ (Met.intro (hJ9 _ _ ?_))
         (repeat apply Exists.intro)
         refine⟨?rel,rfl⟩
         case rel=>exact⟨rfl,Lib.hid ⟨_,_,_,hN,rfl⟩⟩
        exact Ow.dV.nil
       exact Ow.dV.nil
      exact Ow.dV.nil
     exact Ow.dV.nil
    exact Ow.dV.nil
   case rest=>
    obtain⟨rfl,HW⟩:=hcut
    obtain⟨vs',KV,U,hN,hwx⟩:=HW.out
    obtain⟨h1,hcv,hn,hM,Co,hBr,ji,hxb,hsl,hbr,hxe⟩:=HP.out
    have hs2:=H2.out.2.size
    have hkV:kb=V.heap.size:=by rw[hsl];exact HK.out
    have h2:=(h1.below ji).below H2.out.2
    have hSq2:Sq V.heap.size w2 kb (ids t.data.toList) S:=by rw[hkV];exact H2.out.1
    have hSn:∀k,S k->tg k= .no:=fun k hk=>by
     by_cases hn2:tg k= .no
     ·exact hn2
     ·have e1:=(h1.lt k hn2).2
      have e2:=(hSq2.oq k hk).1
      omega
    have hBsz:=hBr.size
    obtain⟨xy,h3⟩:=h2.grow hSq2 (by omega) hSn hN
    rw[<-hwx] at h3
    have hfU:Fr (fun k=>w.heap.size<=k) W5 U:=((Co.below ji).below H2.out.2).trans hN.fr (fun k hk=> .inl (by
     rcases hk with hk|hk
     ·exact(h1.lt k (by rw[h1.Gx k hk];simp)).1
     ·exact(h1.lt k (by rw[h1.IG k hk];simp)).1))
    have hfx:Fr (fun k=>w.heap.size<=k) W5 wc:=by
     rw[hwx]
     exact(hfU.set (p:=⟨b,0,none⟩) (.inl h1.lo) _).set (p:=⟨b,1,none⟩) (.inl h1.lo) _
    have hsbl:gF.length=(gI D).length:=h1.lens.1
    have hDl:(gG D).length=D.length:=by simp[gG]
    have hDw:(gI D).length=D.length:=by simp[gI]
    obtain⟨S2,hS2,hS2t⟩:=h3.sqs gF.length kb (ids t.data.toList) (by simp) (by rw[hsbl];simp)
    have hpr:=Wi hS2
    have hgl:Gd ((gG D++[c])++gG R) ((gI D++[ids t.data.toList])++gI R):=by
     have h9:=HC.out.2.1
     rw[hxe] at h9
     simpa[gG,gI] using h9
    have hg1:=hgl.take (by simp[gG,gI])
    have hul:(ids t.data.toList).length<=10000:=by
     have h9:=hg1.len
     rw[pG] at h9
     omega
    have hwl:(gI D++[ids t.data.toList]).length<=10000:=hg1.many
    have hn5:n<=10000:=by have h9:=hg1.len;rw[pG] at h9;omega
    have Hg:M<=10000:=by have h9:=hg1.len;rw[pG] at h9;omega
    have HR:=Lib.hid (And.intro h3 (And.intro hfx (And.intro hg1 (And.intro hcv (And.intro hn (And.intro hM (And.intro hDl (And.intro hDw hxe))))))))
    clear h1 hcv hn hM Co hBr ji hxb hsl hbr hxe hs2 hkV h2 hSq2 hSn hBsz h3 hfU hfx hS2 hS2t hgl hg1 hN hwx hDl hDw hsbl
    go_wp2_with (first
     |(go_at_call 114;refine hpr.mono ?_;rintro e w7 ⟨v7,xs,rfl,Lg,hx7,hl7,uu⟩;have H7:=Lib.hid (And.intro Lg (And.intro hx7 (And.intro hl7 uu)));have AX:=Hu (HR.out.1.below uu) (i:=D.length) (c:=c) (by rw[<-HR.out.2.2.2.2.2.2.1];simp) Lg (fun g hg=>(by
       by_cases hn2:xy g= .no
       ·exact hn2
       ·have e1:=(HR.out.1.lt g hn2).2
        have e2:=(eG Lg hg).1
        omega)) (HR.out.2.2.1.new (by rw[HR.out.2.2.2.2.2.2.1,HR.out.2.2.2.2.2.2.2.1]) hx7).1 (by omega) (by omega) (by omega) (by omega);clear Lg hx7 hl7 uu)
     |(go_at_call 113;refine AX.mono ?_;rintro e w8 ⟨u8,tg8,am8,rws8,rfl,h8,WK,hI8,hN8⟩;have H8:=Lib.hid (And.intro h8 (And.intro WK (And.intro hI8 hN8)));clear h8 WK hI8 hN8))
    go_roundg R.length
    case measure=>simp at qy;omega
    case rel=>
     obtain⟨h3,hfx,hg1,hcv,hn,hM,hDl,hDw,hxe⟩:=HR.out
     obtain⟨Lg,hx7,hl7,uu⟩:=H7.out
     obtain⟨h8,WK,hI8,hN8⟩:=H8.out
     have e9:(fun q=>bR (gG D) (gI D) q+(fun q=>jy q (ids t.data.toList)) q*c)=bR (gG D++[c]) (gI D++[ids t.data.toList]):=(hg1.new (by rw[hDl,hDw]) hx7).2
     rw[e9] at h8
     have ew:gI (D++[⟨t,c⟩])=gI D++[ids t.data.toList]:=by simp[gI]
     have ec:gG (D++[⟨t,c⟩])=gG D++[c]:=by simp[gG]
     refine⟨D++[⟨t,c⟩],R,by rw[List.length_append,List.length_singleton];simp,rfl,Lib.hid (by rw[hxe];simp),Lib.hid ?_⟩
     unfold NwI
     rw[ew,ec,pG]
     refine⟨vs',KV,tg8,_,am8,rws8,_,_,h8,hcv.snoc (by rw[hDw];exact hN8),by omega,by omega,?_⟩
     refine(hfx.below uu).trans WK (fun k hk=> .inl (h3.lt k hk).1)
end Go.Proofs.YtilpincgjlclpaaGreat.Ob
