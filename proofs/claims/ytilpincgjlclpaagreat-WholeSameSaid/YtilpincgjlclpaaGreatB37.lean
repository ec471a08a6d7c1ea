import Derived.BigQuiet
import Derived.IntWalk
import Derived.Test.YtilpincgjlclpaaGreatB36
set_option linter.unusedVariables false
set_option linter.unusedSimpArgs false
section
namespace Go.Proofs.YtilpincgjlclpaaGreat.Ob
open Go Go.RowKit Go.Proofs.ae.au Pr Mp jL Hp
open gJ (iW nK jR madeOf vN rR iG)
open Tm (mg)
open uA (iJ jN jW rQ wi jB)
open gJ (Ws AL sw rem) in
theorem NR {l:List dN} {bu mn li:Int} (hf:iJ l) (hs:((gB l).map List.length).sum<=6000) (h:ic l bu mn li=0):∃k0,∀k,k0<=k->av.f k l bu mn=some (mg (kU l bu mn)):=by
 have hn:=lnt hf hs h
 have hok:iW (gJ.gB l) (sw l):=hn.ok
 have hl:=hn.mn1
 obtain⟨p',e',hk2,he'⟩:=rQ l hf
 have h0':e'=0:=by rw[he'];exact(AR hf hs h).2.2.2.1
 subst h0'
 obtain⟨q,hq⟩:∃q,q=400:=⟨_,rfl⟩
 obtain⟨r,hr,hk3⟩:=vN hok bu (least:=mn) (by omega) (q:=q) (by omega) (rem (Ws (gJ.gB l) [])) [] (Nat.le_refl _) (by have:=hok.rem (o:=[]);simp;omega)
 have hone:r=mg (kU l bu mn):=nK.one hr hn.lrn
 have hrm:=hok.rem (o:=[])
 have hrq:=Nat.mul_le_mul_right q hrm
 have hq9:90900*q=36360000:=by rw[hq]
 refine⟨80000000+l.length,fun k hk=>?_⟩
 obtain⟨k',rfl⟩:∃k',k=(k'+l.length+1)+1:=⟨k-l.length-2,by omega⟩
 have g2:=hk3 k' (by omega)
 have r0:=rR hf bu mn k' (by omega) l.length 0 (k'+l.length+1) (by omega) rfl
 rw[List.take_zero,List.map_nil,List.map_nil,g2] at r0
 rw[av.f,hk2 _ (by omega),Option.bind_some,if_pos rfl,av.j0,if_neg (by simpa using hl),<-hone]
 exact r0
end Go.Proofs.YtilpincgjlclpaaGreat.Ob
end
section
namespace Go.Proofs.YtilpincgjlclpaaGreat.Ob
open Go Go.RowKit Bs Mp jL Pr
open Tm (mg)
open uA (iJ oz)
def exY:List ByteArray:=[⟨#[108,111,119]⟩,⟨#[108,111,119,101,114]⟩,⟨#[108,111,119]⟩]
def exT:List SM:=[(⟨#[108,111,119]⟩,2),(⟨#[108,111,119,101,114]⟩,1)]
def exW:List dN:=[⟨⟨#[108,111,119]⟩,2⟩,⟨⟨#[108,111,119,101,114]⟩,1⟩]
def exM:List eu:=[⟨⟨#[108]⟩,⟨#[111]⟩⟩,⟨⟨#[108,111]⟩,⟨#[119]⟩⟩]
def exP:List ByteArray:=[⟨#[108,111,119,32,108,111]⟩,⟨#[119,101,114,32,108]⟩,⟨#[111,119]⟩]
def exF:ByteArray:=⟨#[103,108,117,101,112,111,116,32,49,10,54,99,32,54,102,10,54,99,54,102,32,55,55,10]⟩
@[reducible] def xd1:DecidableEq ByteArray:=fun a b=>decidable_of_iff (a.data=b.data) ⟨fun h=>ByteArray.ext h,fun h=>h▸rfl⟩
@[reducible] def xd2 (x:ByteArray) (l:List ByteArray):Decidable (x∈l):=@List.instDecidableMemOfLawfulBEq _ (@instBEqOfDecidableEq _ xd1) (by infer_instance) x l
attribute [local instance] xd1 xd2
theorem Yw:lY exY=exW:=by
 unfold lY
 rw[Uq (Y:=exY) (by decide) (by decide) (L:=exT) (by decide) (by decide) (by decide)]
 rfl
theorem ex_fine:iJ exW:=by
 refine⟨by decide,fun x hx=>?_⟩
 simp[exW] at hx
 rcases hx with rfl|rfl
 ·exact⟨by decide,by unfold oz;decide⟩
 ·exact⟨by decide,by unfold oz;decide⟩
theorem Yt:ic exW 2 1 9=0:=by decide+kernel
instance:DecidableEq eu:=fun a b=>decidable_of_iff (a.f0=b.f0/\a.f1=b.f1) ⟨fun⟨h1,h2⟩=>by cases a;cases b;simp only at h1 h2;rw[h1,h2],fun h=>h▸⟨rfl,rfl⟩⟩
theorem Yu:av.f 100 exW 2 1=some exM:=by decide+kernel
theorem NU {l:List dN} {bu mn:Int} {k:Nat} {r:List eu} (h:av.f k l bu mn=some r):∀d,av.f (k+d) l bu mn=some r
 |0=>h
 |d+1=>av.mono _ _ _ _ _ (NU h d)
theorem ex_out:rM exW 2 1=exM.map fun x=>(x.f0,x.f1):=by
 obtain⟨K,hK⟩:=NR (l:=exW) (bu:=2) (mn:=1) (li:=9) ex_fine (by decide) Yt
 have h1:=hK (100+K) (by omega)
 rw[NU Yu K] at h1
 unfold rM
 rw[tJ]
 injection h1 with h1
 rw[<-h1]
theorem ex_file:zJ exW 2 1=exF:=by
 unfold zJ
 rw[ex_out]
 decide+kernel
theorem ex_rd:Aj.RD 9 (Pure.fZ (Src.told (-1) 0 exP).1) (Src.told (-1) 0 exP).2=(0,exY):=by decide+kernel
theorem Yv:Gu 0 exY 2 1 9=0/\aal 0 exY 2 1 9=exF:=by
 have h:Gu 0 exY 2 1 9=0:=by
  unfold Gu
  rw[if_neg (by decide),if_neg (by decide),Yw]
  exact Yt
 refine⟨h,?_⟩
 unfold aal
 rw[if_pos h,Yw]
 exact ex_file
end Go.Proofs.YtilpincgjlclpaaGreat.Ob
end
section
namespace Go.Proofs.YtilpincgjlclpaaGreat.Pr
open Go.RowKit Bs Ob Go.Proofs.ae.au Go.Proofs.ae.aZ Go.Proofs.ae.bE
theorem three_c (w:World):Kd.C Kd.string (w.alloc (.cells #[.string ⟨#[108,111,119,32,108,111]⟩,.string ⟨#[119,101,114,32,108]⟩,.string ⟨#[111,119]⟩] 9)) (some ⟨w.heap.size,0,none⟩) 3 exP:=by
 have h:(w.alloc (.cells #[.string ⟨#[108,111,119,32,108,111]⟩,.string ⟨#[119,101,114,32,108]⟩,.string ⟨#[111,119]⟩] 9)).ownsRow 0 Aj.TX 1 (.slice (some ⟨w.heap.size,0,none⟩) 3 3) exP.length (exP.map Value.string):=by
  refine⟨rfl,.inr ⟨w.heap.size,3,#[.string ⟨#[108,111,119,32,108,111]⟩,.string ⟨#[119,101,114,32,108]⟩,.string ⟨#[111,119]⟩],rfl,?_⟩⟩
  exact⟨Nat.zero_le _,bG w _,by decide,by unfold maxLen;decide,rfl,rfl⟩
 obtain⟨A,c,e,_,hC⟩:=Il h
 cases e
 exact hC
def jK.f:Option Bool:=some true
set_option maxHeartbeats 4000000 in
set_option maxRecDepth 100000 in
theorem jK.calls (r:Bool) (w:World) (h:jK.f=some r):
  Calls Tryz.prog 8 #[] w fun e w'=>e= .returned (.bool r)/\Below w.heap.size w w':=by
 cases h
 go_enter Tryz.func8,Tryz.ntmps8
 go_wp2_with fail
 refine(Src.TV _ 3 exP (-1) _ (three_c w) (by decide)).mono ?_
 rintro e w1 ⟨b,ob,rfl,hs,hf⟩
 have hrun:=run_any (Aj.scrS _ b ob exP (-1) (by decide)) (Src.told (-1) 0 exP).1 (Src.told (-1) 0 exP).2 (fun k=>k=b\/ob=some k) w1 ⟨0,Nat.zero_le _,rfl,hs,fun k=>Iff.rfl⟩ 2 1 9 (by decide+kernel) 0 exY ex_rd (by decide) (by decide)
 rw[Yv.1,Yv.2] at hrun
 have hB1:Below w.heap.size w w1:=by
  have h0:Fr (fun _=>False) w w1:=((Fr.refl _ w).alloc _).trans hf (fun _ h=>h.elim)
  exact h0.toBelow (fun _ h=>h.elim) (Nat.le_refl _)
 have hMb:∀k,(k=b\/ob=some k)->w.heap.size<=k:=fun k hk=>by
  have h9:(w.alloc (.cells #[.string ⟨#[108,111,119,32,108,111]⟩,.string ⟨#[119,101,114,32,108]⟩,.string ⟨#[111,119]⟩] 9)).heap.size=w.heap.size+1:=by simp
  rcases hk with rfl|hk
  ·have:=hs.le;omega
  ·have:=(hs.row hk).1;omega
 have HX:=Lib.hid (And.intro hB1 hMb)
 obtain⟨S0,hS0⟩:∃S0,S0=runS 0 exY 2 1 9:=⟨_,rfl⟩
 rw[<-hS0] at hrun
 have HR:=Lib.hid hrun
 clear hrun hs hf hB1 hMb hS0
 go_wp2_with fail
 refine HR.out.mono ?_
 rintro e w2 ⟨hf2,Av,lv,cv,n,rfl⟩
 obtain⟨s0,s1,s2,s3,s4,s5⟩:=S0
 have HB2:=Lib.hid (HX.out.1.trans (hf2.toBelow HX.out.2 HX.out.1.size))
 clear HR HX hf2
 unfold uz lW
 simp only
 go_wp2_with fail
 have he:(exF.toList==[103,108,117,101,112,111,116,32,49,10,54,99,32,54,102,10,54,99,54,102,32,55,55,10])=true:=by decide+kernel
 rw[he]
 go_ret
 exact⟨rfl,HB2.out.alloc (by have:=HB2.out.size;omega) _⟩
end Go.Proofs.YtilpincgjlclpaaGreat.Pr
end
