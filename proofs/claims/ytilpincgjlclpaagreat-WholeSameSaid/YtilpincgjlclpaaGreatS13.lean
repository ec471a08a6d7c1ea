import Derived.Test.YtilpincgjlclpaaGreatS12
set_option linter.unusedVariables false
set_option linter.unusedSimpArgs false
section
namespace Go.Proofs.YtilpincgjlclpaaGreat.Ob
open Go Go.RowKit Bs Mp jL
open Go.Proofs.ae.au (iV eY xR)
set_option maxHeartbeats 8000000 in
set_option maxRecDepth 100000 in
theorem whole_c (a:ByteArray) (bu mn li:Int) (ha:a.size<=50000) (E:Int) (Y:List ByteArray) (hq:Aj.RD li a.data.toList 0=(E,Y)) (hy:NE Y) (hz:(Y.map ByteArray.size).sum<=300) (w:World):
  Calls Tryz.prog 32 #[.string a,Gs bu mn li] w fun e w'=>Below w.heap.size w w'/\∃Av lv cv n,e= .returned (uz (aal E Y bu mn li) (.slice Av lv cv) (runS E Y bu mn li) n (Gu E Y bu mn li)):=by
 obtain⟨W3,hW3⟩:∃W3,W3=((w.alloc (.cells #[.int .i64 bu,.int .i64 mn,.int .i64 li] TPa)).alloc KL).alloc (.cells #[.string a] 118):=⟨_,rfl⟩
 have hB3:Below w.heap.size w W3:=by rw[hW3];exact(((Below.refl _ w).alloc (Nat.le_refl _) _).alloc (by simp) _).alloc (by simp;omega) _
 have hs3:W3.heap.size=w.heap.size+3:=by rw[hW3];simp
 have b0:W3.heap[w.heap.size]?=some (.cells #[.int .i64 bu,.int .i64 mn,.int .i64 li] TPa (0,0)):=by rw[hW3];exact dw (dw (bG _ _) _) _
 have b1:W3.heap[w.heap.size+1]?=some (.cells (lW ByteArray.empty (.slice none 0 0) z6 0 0) Gb (0,0)):=by
  rw[hW3]
  have:=bG (w.alloc (.cells #[.int .i64 bu,.int .i64 mn,.int .i64 li] TPa)) KL
  rw[World.size_alloc] at this
  exact dw this _
 have b2:W3.heap[w.heap.size+2]?=some (.cells #[.string a] 118 (0,0)):=by
  rw[hW3]
  have:=bG ((w.alloc (.cells #[.int .i64 bu,.int .i64 mn,.int .i64 li] TPa)).alloc KL) (.cells #[.string a] 118)
  rwa[World.size_alloc,World.size_alloc] at this
 have hl:a.data.toList.length=a.size:=by simp
 have hrun:=run_any (Aj.plainS (w.heap.size+2)) (Src.plain a).toList 0 (fun k=>k=w.heap.size+2) W3 ⟨rfl,⟨a,b2,rfl⟩,fun k=>Iff.rfl⟩ bu mn li (by rw[Aj.plain_whole,hl];omega) E Y (by rw[Aj.plain_whole];exact hq) hy hz
 obtain⟨F,hF⟩:∃F,F=aal E Y bu mn li:=⟨_,rfl⟩
 obtain⟨s,hs⟩:∃s,s=runS E Y bu mn li:=⟨_,rfl⟩
 obtain⟨r,hr⟩:∃r,r=Gu E Y bu mn li:=⟨_,rfl⟩
 rw[<-hF,<-hs,<-hr] at hrun ⊢
 obtain⟨s0,s1,s2,s3,s4,s5⟩:=s
 have HX:=Lib.hid (And.intro hB3 (And.intro hs3 (And.intro b0 b1)))
 have y0:W3.cell? ⟨w.heap.size,0,none⟩=some (.int .i64 bu):=aj b0 0
 have y1:W3.cell? ⟨w.heap.size,1,none⟩=some (.int .i64 mn):=aj b0 1
 have y2:W3.cell? ⟨w.heap.size,2,none⟩=some (.int .i64 li):=aj b0 2
 have HR:=Lib.hid hrun
 clear hrun hF hs hr hB3 hs3 b0 b1 b2 hq hy hz hl
 have hW:W3=((w.alloc (.cells #[.int .i64 bu,.int .i64 mn,.int .i64 li] TPa)).alloc (.cells #[.string ⟨#[]⟩,.slice none 0 0,.int .i64 0,.int .i64 0,.int .i64 0,.int .i64 0,.int .i64 0,.int .i64 0,.int .i64 0,.int .i64 0] Gb)).alloc (.cells #[.string a] 118):=hW3
 rw[hW] at y0 y1 y2
 have HW:=Lib.hid hW
 clear hW3 hW
 unfold Gs
 go_enter Tryz.func32,Tryz.ntmps32
 go_wp2_with fail
 rw[<-HW.out]
 refine HR.out.mono ?_
 clear HR
 rintro e w2 ⟨hf2,Av,lv,cv,n,rfl⟩
 have k1:=hf2.heap HX.out.2.2.2 (fun e=>by omega)
 have HF:=Lib.hid (And.intro hf2 k1)
 obtain⟨z0,z1,z2,z3,z4,z5,z6',z7,z8,z9⟩:=nP (g:=w.heap.size+1) k1
 obtain⟨g0,g1,g2,g3,g4,g5,g6,g7,g8,g9⟩:=zT (g:=w.heap.size+1) k1
 clear hf2 k1 y0 y1 y2
 unfold uz lW
 simp only
 go_wp2_with fail
 refine bodyPost_ret (eY rfl (.cell (w.heap.size+1) Gb (lW F (.slice Av lv cv) ⟨s0,s1,s2,s3,s4,s5⟩ n r) (0,0) _ rfl (mX (s':=⟨s0,s1,s2,s3,s4,s5⟩) (g:=w.heap.size+1) HF.out.2) Tryz.underlying32 rfl (by kernel_rfl) .nil)) rfl ?_
 have hf:=pY (S:=fun k=>k=w.heap.size+1) (Fr.refl _ w2) (g:=w.heap.size+1) (.inl rfl) (.string F) (.slice Av lv cv) (.int .i64 s0) (.int .i64 s1) (.int .i64 s2) (.int .i64 s3) (.int .i64 s4) (.int .i64 s5) (.int .i64 n) (.int .i64 r)
 have hB2:Below w.heap.size w w2:=HX.out.1.trans (HF.out.1.toBelow (fun i hi=>by rw[show i=w.heap.size+2 from hi];omega) HX.out.1.size)
 exact⟨hB2.trans (hf.toBelow (fun i hi=>by rw[show i=w.heap.size+1 from hi];omega) hB2.size),Av,lv,cv,n,rfl⟩
end Go.Proofs.YtilpincgjlclpaaGreat.Ob
end
section
namespace Go.Proofs.YtilpincgjlclpaaGreat.Ob
open Go Go.RowKit Bs Pr Go.Proofs.ae.au
theorem scr_ne {B b:Nat} {ob:Option Nat} {l:List ByteArray} {i:Nat} {fail:Int} {W:World} (h:Src.Dy B b ob l i fail W) {x:Nat} {cs:Array Value} {fr:Nat×Nat} (hx:W.heap[x]?=some (.cells cs Gb fr)):¬(x=b\/ob=some x):=by
 obtain⟨v,_,hb,ho,rfl⟩:=h
 rintro(rfl|e)
 ·rw[hb] at hx
  injection hx with hx
  injection hx with _ ht
  exact absurd ht (by decide)
 ·exact own_ne ho hx (by decide) e
theorem same_run {a:ByteArray} {M Y:List ByteArray} (hY:Y=(Pure.jX [] a.data.toList).map ym) (hM:M.Perm Y) (hg:∀x∈M,aaK.Good (aaK.bl x)) (ha:a.size<=300) (bu mn li:Int):
  ∃E Z1 Z2,Aj.RD li a.data.toList 0=(E,Z1)/\Aj.RD li (aaK.oth M).data.toList 0=(E,Z2)/\NE Z1/\NE Z2/\(Z1.map ByteArray.size).sum<=300/\(Z2.map ByteArray.size).sum<=300/\
   Gu E Z2 bu mn li=Gu E Z1 bu mn li/\aal E Z2 bu mn li=aal E Z1 bu mn li/\runS E Z2 bu mn li=runS E Z1 bu mn li/\(Gu E Z1 bu mn li=0->ic (lY M) bu mn li=0/\aal E Z1 bu mn li=zJ (lY M) bu mn):=by
 have hoth:(aaK.oth M).data.toList=aaK.glue 0 (M.map aaK.bl):=by unfold aaK.oth ym;rfl
 have hw:Pure.jX [] (aaK.oth M).data.toList=M.map aaK.bl:=by
  rw[hoth]
  exact aaK.glue_words _ 0 (fun w hw=>by
   obtain⟨x,hx,rfl⟩:=List.mem_map.1 hw
   exact hg x hx)
 have hYb:Y.map aaK.bl=Pure.jX [] a.data.toList:=by
  rw[hY,List.map_map]
  conv=>rhs;rw[<-List.map_id (Pure.jX [] a.data.toList)]
  rfl
 have hp:(Pure.jX [] a.data.toList).Perm (Pure.jX [] (aaK.oth M).data.toList):=by
  rw[hw,<-hYb]
  exact(hM.map _).symm
 obtain⟨h1,h2⟩:=aaK.RD_perm hp li
 obtain⟨E,Z1,hq1⟩:∃E Z1,Aj.RD li a.data.toList 0=(E,Z1):=⟨_,_,rfl⟩
 obtain⟨E2,Z2,hq2⟩:∃E2 Z2,Aj.RD li (aaK.oth M).data.toList 0=(E2,Z2):=⟨_,_,rfl⟩
 rw[hq1,hq2] at h1 h2
 simp only at h1 h2
 subst h1
 obtain⟨hn1,hs1⟩:=RD_ne hq1
 have hs1':(Z1.map ByteArray.size).sum<=300:=by
  have:a.data.toList.length=a.size:=by simp
  omega
 have hs2:(Z2.map ByteArray.size).sum<=300:=by
  rw[<-(h2.map ByteArray.size).sum_nat]
  exact hs1'
 have hl:Z1.length<=1000000:=by have:=ne_size hn1;omega
 have ht:lY Z2=lY Z1:=by unfold lY;rw[tabO_perm h2 hl hn1]
 have hE:Gu E Z2 bu mn li=Gu E Z1 bu mn li:=by unfold Gu;rw[ht]
 refine⟨E,Z1,Z2,hq1,hq2,hn1,fun y hy=>hn1 y (h2.mem_iff.2 hy),hs1',hs2,hE,by unfold aal;rw[hE,ht],by unfold runS;rw[hE,ht],fun h0=>?_⟩
 have hE0:E=0:=by
  unfold Gu at h0
  split at h0
  ·rename_i h3;exact absurd h0 h3
  ·split at h0
   ·rename_i h3;exact absurd h0 h3
   ·rename_i h3;exact Classical.byContradiction h3
 have hZ2:Z2=M:=by
  have h3:=Aj.RD_words (lim:=li) (S:=(aaK.oth M).data.toList) (err:=0) (by rw[hq2];exact hE0) rfl
  rw[hq2,hw,List.map_map] at h3
  simp only at h3
  rw[h3]
  conv=>rhs;rw[<-List.map_id M]
  exact List.map_congr_left fun x _=>aaK.mkB_bl x
 rw[hZ2] at ht
 rw[ht]
 refine⟨?_,by unfold aal;rw[if_pos h0]⟩
 unfold Gu at h0
 split at h0
 ·rename_i h3;exact absurd h0 h3
 ·split at h0
  ·rename_i h3;exact absurd hE0 h3
  ·exact h0
theorem cut_at {U V:World} (hB:Below U.heap.size U V) {a:ByteArray} {A:Option Addr} {c K:Nat} {l:List Int} {P:List ByteArray} (hC:Kd.C (Kd.int .u16) U A l.length l) (hc:l.length<=c) (hf:eF.f K a l=some P):
  Calls Tryz.prog 20 #[.string a,.slice A l.length c] V fun e w'=>∃A' c',e= .returned (.slice A' P.length c')/\Kd.C Kd.string w' A' P.length P/\Below V.heap.size V w':=by
 refine(eF.calls K a A c l P V (Kd.bY hC hB) hc hf).mono ?_
 rintro e w' ⟨v,rfl,hR,hB'⟩
 obtain⟨A',c',rfl,_,hC'⟩:=Kd.lZ hR
 exact⟨A',c',rfl,hC',hB'⟩
theorem new_at {U V:World} (hB:Below U.heap.size U V) {A:Option Addr} {c:Nat} {P:List ByteArray} (hC:Kd.C Kd.string V A P.length P) (hl:P.length<=1000000):
  Calls Tryz.prog 19 #[.slice A P.length c,.int .i64 (-1)] V fun e w'=>∃b ob,e= .returned (.pointer (some ⟨b,0,none⟩))/\Src.Dy U.heap.size b ob P 0 (-1) w'/\Below V.heap.size V w':=by
 refine(Src.TV A c P (-1) V hC hl).mono ?_
 rintro e w' ⟨b,ob,rfl,⟨v,h1,h2,h3,h4⟩,hf⟩
 have hs:=hB.size
 exact⟨b,ob,rfl,⟨v,Nat.le_trans hs h1,h2,Bi h3 hs,h4⟩,hf.toBelow (fun _ h=>h.elim) (Nat.le_refl _)⟩
theorem run_at {U V:World} (hB:Below U.heap.size U V) {b:Nat} {ob:Option Nat} {P:List ByteArray} {bu mn li E:Int} {Y:List ByteArray} (hS:Src.Dy U.heap.size b ob P 0 (-1) V) (hl:P.length<=1000000) (hz:(Pure.fZ P).length<=50000) (hq:Aj.RD li (Pure.fZ P) 0=(E,Y)) (hy:NE Y) (hs:(Y.map ByteArray.size).sum<=300):
  Calls Tryz.prog 33 #[.iface Src.PC (.pointer (some ⟨b,0,none⟩)),Gs bu mn li] V fun e w'=>Below U.heap.size U w'/\(∀(x:Nat) (cs:Array Value) (fr:Nat×Nat),V.heap[x]?=some (.cells cs Gb fr)->w'.heap[x]?=some (.cells cs Gb fr))/\∃Av lv cv n,e= .returned (uz (aal E Y bu mn li) (.slice Av lv cv) (runS E Y bu mn li) n (Gu E Y bu mn li)):=by
 obtain⟨ht1,ht2⟩:=Aj.Ou P 0
 refine(run_any (Aj.scrS U.heap.size b ob P (-1) hl) (Src.told (-1) 0 P).1 0 (fun k=>k=b\/ob=some k) V ⟨0,Nat.zero_le _,Prod.ext rfl ht1,hS,fun k=>Iff.rfl⟩ bu mn li (by rw[ht2];omega) E Y (by rw[ht2];exact hq) hy hs).mono ?_
 rintro e w' ⟨hf,Av,lv,cv,n,rfl⟩
 refine⟨hB.trans (hf.toBelow (fun k hk=>hk.elim (fun e=>by rw[e];exact hS.le) (fun e=>(hS.row e).1)) hB.size),fun x cs fr hx=>hf.heap hx (scr_ne hS hx),Av,lv,cv,n,rfl⟩
end Go.Proofs.YtilpincgjlclpaaGreat.Ob
end
