import Derived.Test.YtilpincgjlclpaaGreatB31
set_option linter.unusedVariables false
set_option linter.unusedSimpArgs false
section
namespace Go.Proofs.YtilpincgjlclpaaGreat.Ob
open Go Go.RowKit Bs Mp jL Hp
open Pr (iK sI.f sI.calls jG)
def xI (x:ByteArray×ByteArray):List UInt8:=iK x.1.data.toList++[32]++iK x.2.data.toList++[10]
def headL:List UInt8:=[103,108,117,101,112,111,116,32,49,10]
def kH (ms:List (ByteArray×ByteArray)):List UInt8:=headL++ms.flatMap xI
theorem DY (ms:List (ByteArray×ByteArray)) (x:ByteArray×ByteArray):kH (ms++[x])=kH ms++xI x:=by simp[kH]
theorem GZ:∀(ms:List (ByteArray×ByteArray)),(∀x∈ms,x.1.size+x.2.size<=65536)->(kH ms).length<=10+ms.length*131074:=by
 intro ms h
 have key:∀ms:List (ByteArray×ByteArray),(∀x∈ms,x.1.size+x.2.size<=65536)->(ms.flatMap xI).length<=ms.length*131074:=by
  intro ms
  induction ms with
  |nil=>simp
  |cons x ms ih=>
   intro h
   have h1:=ih (fun y hy=>h y (List.mem_cons_of_mem _ hy))
   have h2:=h x (by simp)
   have e1:x.1.data.toList.length=x.1.size:=by simp
   have e2:x.2.data.toList.length=x.2.size:=by simp
   rw[List.flatMap_cons,List.length_append,List.length_cons,Nat.succ_mul]
   have:(xI x).length<=131074:=by
    simp only[xI,List.length_append,jG,List.length_singleton,e1,e2]
    omega
   omega
 have:=key ms h
 simp only[kH,List.length_append,headL,List.length_cons,List.length_nil]
 omega
def FW (w1:World) (b bx:Nat) (l:List UInt8) (L R:ByteArray) (W:World):Prop:=
 (∃ob,Dl.At w1.heap.size b ob (Dl.cells l) W/\ob≠some bx)/\b≠bx/\Below w1.heap.size w1 W/\W.cell? ⟨bx,0,none⟩=some (.string L)/\W.cell? ⟨bx,1,none⟩=some (.string R)
theorem FW.below {w1:World} {b bx:Nat} {l:List UInt8} {L R:ByteArray} {W W':World} (h:FW w1 b bx l L R W) (hB:Below W.heap.size W W'):FW w1 b bx l L R W':=by
 obtain⟨⟨ob,hA,hn⟩,hb,hB1,h0,h1⟩:=h
 refine⟨⟨ob,hA.fr (Fr.dL (S:=fun _=>False) hB) (fun h=>h) (fun _ _ h=>h),hn⟩,hb,hB1.trans (hB.mono hB1.size),?_,?_⟩
 ·exact(hB.cell (World.block_lt_of_cell? _ _ h0)).trans h0
 ·exact(hB.cell (World.block_lt_of_cell? _ _ h1)).trans h1
theorem YG {w1:World} {b bx:Nat} {l:List UInt8} {L R s:ByteArray} {W:World} (h:FW w1 b bx l L R W) (hl:l.length+s.size<=140737488355328):
  Calls Tryz.prog 69 #[.pointer (some ⟨b,0,none⟩),.string s] W fun e W'=>e= .returned (.tuple #[.int .i64 s.size,.nilIface])/\(W'.cell? ⟨bx,0,none⟩=some (.string L)/\W'.cell? ⟨bx,1,none⟩=some (.string R))/\Hid ((∃ob,Dl.At w1.heap.size b ob (Dl.cells (l++s.data.toList)) W')/\Below w1.heap.size w1 W'):=by
 obtain⟨⟨ob,hA,hn⟩,hb,hB1,h0,h1⟩:=h
 refine(Dl.OI _ b ob l s W hA hl hB1.size).mono ?_
 rintro e W' ⟨rfl,xK,hA',hf⟩
 have hnf:¬Dl.xQ b ob bx:=fun h=>h.elim (fun e=>hb e.symm) (fun e=>hn e)
 refine⟨rfl,⟨hf.cell h0 hnf,hf.cell h1 hnf⟩,Lib.hid ⟨⟨xK,hA'⟩,hB1.trans (hf.toBelow (fun i hi=>?_) hB1.size)⟩⟩
 rcases hi with rfl|hi
 ·exact hA.le
 ·exact(hA.row hi).1
theorem hex_c {s:ByteArray} (hs:s.size<=65536) (W:World):Calls Tryz.prog 70 #[.string s] W fun e W'=>e= .returned (.string ⟨(iK s.data.toList).toArray⟩)/\Below W.heap.size W W':=
 sI.calls s _ W (by unfold sI.f;rw[if_pos (by omega)])
theorem line_is (L R:ByteArray):(((⟨(iK L.data.toList).toArray⟩:ByteArray)++⟨#[32]⟩++⟨(iK R.data.toList).toArray⟩)++⟨#[10]⟩).data.toList=xI (L,R):=by
 simp[xI,ByteArray.data_append]
set_option maxHeartbeats 4000000 in
set_option maxRecDepth 100000 in
theorem PS {w:World} {v:Value} {o:List J} (h:MR w v (pR o)) (hO:∀k x,o[k]?=some x->UX o k x) (hz:∀x∈pR o,x.1.size+x.2.size<=65536) (hl:o.length<=100000):
  Calls Tryz.prog 40 #[v] w fun e w'=>e= .returned (.tuple #[.string ⟨(kH (pR o)).toArray⟩,.int .i64 0])/\Below w.heap.size w w':=by
 have hck:=PR h hO hz hl
 obtain⟨ms,hms⟩:∃ms,ms=pR o:=⟨_,rfl⟩
 have hlm:ms.length<=100000:=by rw[hms];unfold pR;rw[List.length_map];exact hl
 rw[<-hms] at h hz ⊢
 obtain⟨A,c,rfl,hc⟩:=h
 have HC:=Lib.hid (And.intro hc hz)
 clear hc hz hO hms hl
 go_enter Tryz.func40,Tryz.ntmps40
 go_wp2_with (first
  |(go_at_call 68;refine hck.mono ?_;clear hck;rintro e w1 ⟨rfl,hB1⟩;have H1:=Lib.hid hB1;clear hB1;have HA1:=Lib.hid (Dl.OI w1.heap.size w1.heap.size none [] ⟨#[103,108,117,101,112,111,116,32,49,10]⟩ _ (Dl.At.fresh w1 _ (Nat.le_refl _)) (by show 0+10<=_;omega) (by simp)))
  |(go_at_call 69;refine HA1.out.mono ?_;clear HA1;rintro e w2 ⟨rfl,ob2,hA2,hf2⟩;have HA2:=Lib.hid (And.intro hA2 hf2);clear hA2 hf2)
  |fail)
 obtain⟨b,hb⟩:∃b,b=w1.heap.size:=⟨_,rfl⟩
 have hst:(∃ob,Dl.At w1.heap.size b ob (Dl.cells (kH [])) w2)/\Below w1.heap.size w1 w2:=by
  obtain⟨hA2,hf2⟩:=HA2.out
  refine⟨⟨ob2,by rw[hb];exact hA2⟩,((Below.refl _ w1).alloc (Nat.le_refl _) _).trans (hf2.toBelow (fun i hi=>?_) (by simp))⟩
  rcases hi with rfl|hi
  ·exact Nat.le_refl _
  ·cases hi
 have HST:=Lib.hid hst
 clear hst HA2
 rw[<-hb]
 have HBB:=Lib.hid hb
 clear hb
 go_loopg [20] ms.length (fun gk v20 wr=>∃(D R:List (ByteArray×ByteArray)),v20= .int .i64 (D.length:Int)/\R.length=gk/\Hid (ms=D++R)/\Hid ((∃ob,Dl.At w1.heap.size b ob (Dl.cells (kH D)) wr)/\Below w1.heap.size w1 wr))
 case atStart=>exact⟨[],ms,rfl,rfl,Lib.hid rfl,HST⟩
 case round=>
  obtain⟨D,R,rfl,qy,HX,HI⟩:=hrel
  obtain⟨hAr,hBr⟩:=HI.out
  cases R with
  |nil=>
   have hxe:ms=D:=by rw[HX.out];simp
   have hge:¬D.length<ms.length:=by rw[hxe];omega
   obtain⟨ob,hA⟩:=hAr
   have hsc:=Dl.Og w1.heap.size b ob (kH D) wr hA hBr.size
   have Le:=Lib.hid (And.intro hxe hBr)
   clear hxe hA hBr
   go_wp2_with (go_at_call 71;refine hsc.mono ?_;rintro e w3 ⟨rfl,hB3⟩;have H3:=Lib.hid hB3;clear hB3)
   go_ret2
   rw[Le.out.1]
   exact⟨rfl,H1.out.trans ((Le.out.2.trans H3.out).mono H1.out.size)⟩
  |cons x R=>
   obtain⟨gk,rfl⟩:∃g,gk=g+1:=⟨R.length,by simpa using qy.symm⟩
   obtain⟨L,R'⟩:=x
   have hxi:ms[D.length]?=some (L,R'):=by rw[HX.out];simp
   have hlt:D.length<ms.length:=(List.getElem?_eq_some_iff.1 hxi).1
   have hsz:=HC.out.2 _ (List.mem_of_getElem? hxi)
   simp only at hsz
   obtain⟨g,rfl,hg,x0,x1⟩:=HC.out.1 _ _ hxi
   have hB1r:Below w.heap.size w wr:=H1.out.trans (hBr.mono H1.out.size)
   have y0:=(hB1r.cell (p:=⟨g,D.length*2,none⟩) hg).trans x0
   have y1:=(hB1r.cell (p:=⟨g,D.length*2+1,none⟩) hg).trans x1
   simp only at y0 y1
   obtain⟨V,hV⟩:∃V,V=wr.alloc (.cells #[.string L,.string R'] 47):=⟨_,rfl⟩
   have hb0:V.heap[wr.heap.size]?=some (.cells #[.string L,.string R'] 47 (0,0)):=by rw[hV];exact bG _ _
   have hfw:FW w1 b wr.heap.size (kH D) L R' V:=by
    obtain⟨ob,hA⟩:=hAr
    refine⟨⟨ob,?_,fun e=>?_⟩,?_,?_,aj hb0 0,aj hb0 1⟩
    ·rw[hV];exact hA.fr ((Fr.refl (fun _=>False) wr).alloc _) (fun h=>h) (fun _ _ h=>h)
    ·have:=(hA.row e).2.1;omega
    ·have:=hA.lt;omega
    ·rw[hV];exact hBr.alloc hBr.size _
   have hfd:=hfw.below (W':=V.drew) ((Below.refl _ V).drew)
   have hfl:=GZ D (fun y hy=>HC.out.2 y (by rw[HX.out];simp[hy]))
   have hLs:L.size<=65536:=by omega
   have hRs:R'.size<=65536:=by omega
   have z0:V.cell? ⟨wr.heap.size,0,none⟩=some (.string L):=aj hb0 0
   have z1:V.cell? ⟨wr.heap.size,1,none⟩=some (.string R'):=aj hb0 1
   have hli:=line_is L R'
   obtain⟨hL,hhL⟩:∃hL:ByteArray,hL=⟨(iK L.data.toList).toArray⟩:=⟨_,rfl⟩
   obtain⟨hR,hhR⟩:∃hR:ByteArray,hR=⟨(iK R'.data.toList).toArray⟩:=⟨_,rfl⟩
   have hcL:=fun W=>hex_c hLs W
   have hcR:=fun W=>hex_c hRs W
   rw[<-hhL,<-hhR] at hli
   rw[<-hhL] at hcL
   rw[<-hhR] at hcR
   have hsw:(kH D).length+(((hL++⟨#[32]⟩++hR)++⟨#[10]⟩:ByteArray)).size<=140737488355328:=by
    have e1:L.data.toList.length=L.size:=by simp
    have e2:R'.data.toList.length=R'.size:=by simp
    have h9:((hL++⟨#[32]⟩++hR)++⟨#[10]⟩:ByteArray).size=(xI (L,R')).length:=by
     rw[<-hli,Array.length_toList]
     rfl
    rw[h9]
    simp only[xI,List.length_append,jG,List.length_singleton,e1,e2]
    have h8:D.length*131074<=100000*131074:=Nat.mul_le_mul_right _ (by omega)
    omega
   have hzL:hL.size<=131072/\hR.size<=131072:=by
    have e1:L.data.toList.length=L.size:=by simp
    have e2:R'.data.toList.length=R'.size:=by simp
    have g1:hL.size=(iK L.data.toList).length:=by rw[hhL];rfl
    have g2:hR.size=(iK R'.data.toList).length:=by rw[hhR];rfl
    rw[jG] at g1 g2
    omega
   have k1:¬9223372036854775807<hL.size+1:=by omega
   have k2:¬9223372036854775807<hL.size+1+hR.size:=by omega
   have k3:¬9223372036854775807<hL.size+1+hR.size+1:=by omega
   clear hzL
   obtain⟨s,hs⟩:∃s:ByteArray,s=(hL++⟨#[32]⟩++hR)++⟨#[10]⟩:=⟨_,rfl⟩
   have HLI:=Lib.hid (And.intro hli hs)
   rw[<-hs] at hsw
   have HFD:=Lib.hid hfd
   have Pn:=Lib.hid hsw
   clear hfw hfd hsz x0 x1 hxi hhL hhR hb0 hfl hAr hBr hB1r hli hsw hs
   rw[hV] at z0 z1 HFD
   go_wp2_with fail
   go_region_held3 (fun W=>W.cell? ⟨wr.heap.size,0,none⟩=some (.string L)/\W.cell? ⟨wr.heap.size,1,none⟩=some (.string R')) (first|exact⟨z0,z1⟩|assumption) (first
    |(go_at_call 70;refine(hcL _).mono ?_;rintro e w5 ⟨rfl,wL⟩;have Lu:=Lib.hid (HFD.out.below wL);have h5:=(show w5.cell? ⟨wr.heap.size,0,none⟩=some (.string L)/\w5.cell? ⟨wr.heap.size,1,none⟩=some (.string R') from⟨Lu.out.2.2.2.1,Lu.out.2.2.2.2⟩);clear wL hcL)
    |(go_at_call 70;refine(hcR _).mono ?_;rintro e w6 ⟨rfl,xx⟩;have HF6:=Lib.hid (Lu.out.below xx);have h6:=(show w6.cell? ⟨wr.heap.size,0,none⟩=some (.string L)/\w6.cell? ⟨wr.heap.size,1,none⟩=some (.string R') from⟨HF6.out.2.2.2.1,HF6.out.2.2.2.2⟩);clear xx hcR)
    |(go_at_call 69;refine(YG HF6.out (by rw[<-HLI.out.2];exact Pn.out)).mono ?_;rintro e w7 ⟨rfl,h7,H7⟩))
   go_wp2_with fail
   go_roundg R.length
   case measure=>simp at qy;omega
   case rel=>
    obtain⟨⟨ob7,hA7⟩,uu⟩:=H7.out
    obtain⟨e1,e2⟩:=HLI.out
    rw[e1] at hA7
    exact⟨D++[(L,R')],R,by rw[List.length_append,List.length_singleton];simp,rfl,Lib.hid (by rw[HX.out];simp),Lib.hid ⟨⟨ob7,by rw[DY];exact hA7⟩,uu⟩⟩
end Go.Proofs.YtilpincgjlclpaaGreat.Ob
end
section
namespace Go.Proofs.YtilpincgjlclpaaGreat.Ob
open Go Go.RowKit Bs Mp jL Hp
open Go.Proofs.ae.au (iV eY xR)
abbrev Gb:Nat:=32
theorem vB {f:FuncId} {fn:Func} {c:Code} (hf:Tryz.prog.funcs[f]?=some fn) (hname:(fn.name== "runtime.NumGoroutine")=false) (hb:fn.body=some c) (args:Array Value) (w:World):(callFunc f args).run Tryz.prog w= .ok (.enter f args) w:=by
 have h1:fn.name≠ "runtime.NumGoroutine" :=by simpa using hname
 simp[callFunc,hf,h1,hb]
set_option maxHeartbeats 1000000 in
set_option maxRecDepth 100000 in
theorem Sw {fs:List (Nat×Array Value)} {J:Nat->World->Prop} {Jx:Int->World->Prop} {w:World} {g c:Nat}
  (hrow:∀i W,J i W->∀j x,fs[j]?=some x->W.cell? ⟨g,j,none⟩=some (.func (.func x.1) #[] x.2))
  (hen:∀x∈fs,∀args W,(callFunc x.1 args).run Tryz.prog W= .ok (.enter x.1 args) W)
  (hcall:∀i x W,J i W->fs[i]?=some x->Calls Tryz.prog x.1 x.2 W fun e W'=>∃r,e= .returned (.int .i64 r)/\(r=0->J (i+1) W')/\(r≠0->Jx r W'))
  (hl:fs.length<=1000000) (h0:J 0 w):
  Calls Tryz.prog 37 #[.slice (some ⟨g,0,none⟩) fs.length c] w fun e w'=>∃r,e= .returned (.int .i64 r)/\(r=0->J fs.length w')/\(r≠0->Jx r w'):=by
 have HC:=Lib.hid (And.intro hrow (And.intro hcall hen))
 have H0:=Lib.hid h0
 clear hrow hcall h0 hen
 go_enter Tryz.func37,Tryz.ntmps37
 go_wp2_with fail
 go_loopg [8] fs.length (fun gk v8 wr=>∃i:Nat,v8= .int .i64 (i:Int)/\i+gk=fs.length/\Hid (J i wr))
 case atStart=>exact⟨0,rfl,by omega,H0⟩
 case round=>
  obtain⟨i,rfl,hik,HJ⟩:=hrel
  cases gk with
  |zero=>
   have hge:¬i<fs.length:=by omega
   have hie:i=fs.length:=by omega
   have HIE:=Lib.hid hie
   clear hie
   go_wp2
   go_ret
   exact⟨0,rfl,fun _=>by rw[<-HIE.out];exact HJ.out,fun h=>(h rfl).elim⟩
  |succ gk=>
   have hlt:i<fs.length:=by omega
   obtain⟨⟨nf,DN⟩,hx⟩:∃x,fs[i]?=some x:=⟨_,List.getElem?_eq_getElem hlt⟩
   have hc:=HC.out.1 i wr HJ.out i _ hx
   have hcl:=HC.out.2.1 i _ wr HJ.out hx
   have he:=HC.out.2.2 _ (List.mem_of_getElem? hx)
   simp only at hc hcl he
   have Sa:=Lib.hid hcl
   clear hcl hx
   go_wp2_with fail
   refine Sa.out.mono ?_
   rintro e w1 ⟨r,rfl,h1,h2⟩
   have H1:=Lib.hid (And.intro h1 h2)
   clear h1 h2 Sa
   by_cases hr:r=0
   ·subst hr
    go_wp2_with fail
    go_roundg gk
    case measure=>omega
    case rel=>exact⟨i+1,by simp,by omega,Lib.hid (by have h9:=H1.out.1;simp only[forall_const] at h9;exact h9)⟩
   ·go_wp2_with fail
    go_ret
    exact⟨r,rfl,fun h=>(hr h).elim,fun _=>H1.out.2 hr⟩
structure S6 where
 a:Int
 b:Int
 c:Int
 d:Int
 e:Int
 f:Int
def z6:S6:=⟨0,0,0,0,0,0⟩
def lW (F:ByteArray) (v:Value) (s:S6) (n e:Int):Array Value:=#[.string F,v,.int .i64 s.a,.int .i64 s.b,.int .i64 s.c,.int .i64 s.d,.int .i64 s.e,.int .i64 s.f,.int .i64 n,.int .i64 e]
def uz (F:ByteArray) (v:Value) (s:S6) (n e:Int):Value:= .agg (lW F v s n e)
abbrev KL:Obj:= .cells (lW ByteArray.empty (.slice none 0 0) z6 0 0) Gb
set_option maxHeartbeats 4000000 in
set_option maxRecDepth 100000 in
theorem Fs (F:ByteArray) (A:Option Addr) (l c:Nat) (s:S6) (n e0 e1:Int) (w:World):
  Calls Tryz.prog 41 #[uz F (.slice A l c) s n e0,.int .i64 e1] w fun e w'=>e= .returned (if e1=0 then uz F (.slice A l c) s n e0 else uz ByteArray.empty (.slice none 0 0) z6 0 e1)/\Below w.heap.size w w':=by
 obtain⟨s0,s1,s2,s3,s4,s5⟩:=s
 have hB:=fun o1 o2:Obj=>(((Below.refl _ w).alloc (Nat.le_refl _) o1).alloc (by simp) o2:Below w.heap.size w ((w.alloc o1).alloc o2))
 have hN:=fun o1 o2:Obj=>(by have h9:=bG (w.alloc o1) o2;rw[World.size_alloc] at h9;exact h9:((w.alloc o1).alloc o2).heap[w.heap.size+1]?=some o2)
 have HX:=Lib.hid (And.intro hB hN)
 clear hB hN
 unfold uz lW
 by_cases h0:e1=0
 ·subst h0
  go_enter Tryz.func41,Tryz.ntmps41
  go_wp2
  refine bodyPost_ret (eY rfl (.cell (w.heap.size+1) Gb #[.string F,.slice A l c,.int .i64 s0,.int .i64 s1,.int .i64 s2,.int .i64 s3,.int .i64 s4,.int .i64 s5,.int .i64 n,.int .i64 e0] (0,0) _ rfl (HX.out.2 _ _) Tryz.underlying32 rfl (by kernel_rfl) .nil)) rfl ?_
  exact⟨rfl,HX.out.1 _ _⟩
 ·rw[if_neg h0]
  go_enter Tryz.func41,Tryz.ntmps41
  go_wp2
  refine bodyPost_ret (eY rfl (.cell (w.heap.size+1) Gb #[.string ByteArray.empty,.slice none 0 0,.int .i64 0,.int .i64 0,.int .i64 0,.int .i64 0,.int .i64 0,.int .i64 0,.int .i64 0,.int .i64 e1] (0,0) _ rfl (HX.out.2 _ _) Tryz.underlying32 rfl (by kernel_rfl) .nil)) rfl ?_
  exact⟨rfl,HX.out.1 _ _⟩
end Go.Proofs.YtilpincgjlclpaaGreat.Ob
end
section
namespace Go.Proofs.YtilpincgjlclpaaGreat.Ob
open Go Go.RowKit Bs Mp jL
open Pr (gV.f gV.calls)
abbrev TF:Nat:=114
def oQ (m:List (ByteArray×Int)) (s:ByteArray) (n:Int):List (ByteArray×Int)×Int:=
 if s=ByteArray.empty\/n<1 then(m,1) else if(Mp.get m s).getD 0+n<=9223372036854775807 then(put m s ((Mp.get m s).getD 0+n),0) else(m,5)
def Lj (B:Nat) (w:World) (b:Nat) (m:List (ByteArray×Int)) (S:Nat->Prop):Prop:=
 ∃v,B<=b/\w.heap[b]?=some (.cells #[v] TF (0,0))/\(v= .map none/\m=[]\/∃g,v= .map (some g)/\B<=g/\mp yj w g m)/\(∀x∈m,1<=x.2/\x.2<=9223372036854775807)/\S=fun k=>k=b\/v= .map (some k)
section
variable {B b:Nat} {m:List (ByteArray×Int)} {S T:Nat->Prop} {w w':World}
theorem Lj.oq (h:Lj B w b m S):In B w S:=by
 obtain⟨v,hB,hb,hm,_,rfl⟩:=h
 intro k hk
 rcases hk with rfl|rfl
 ·exact⟨hB,bA hb⟩
 ·rcases hm with⟨e,_⟩|⟨g,e,hg,hM⟩
  ·cases e
  ·cases e
   exact⟨hg,hM.lt⟩
theorem Lj.same (h:Lj B w b m S) (he:∀k,S k->w'.heap[k]?=w.heap[k]?):Lj B w' b m S:=by
 obtain⟨v,hB,hb,hm,h1,rfl⟩:=h
 refine⟨v,hB,(he b (.inl rfl)).trans hb,?_,h1,rfl⟩
 rcases hm with hm|⟨g,rfl,hg,hM⟩
 ·exact .inl hm
 ·exact .inr ⟨g,rfl,hg,hM.same (he g (.inr rfl))⟩
theorem Lj.fr (h:Lj B w b m S) (f1:Fr T w w') (d:Sep T S):Lj B w' b m S:=h.same (Dc f1 h.oq d)
end
theorem Mw (w:World):Calls Tryz.prog 30 #[] w fun e w'=>e= .returned (.pointer (some ⟨w.heap.size,0,none⟩))/\w'=w.alloc (.cells #[.map none] TF):=by
 go_enter Tryz.func30,Tryz.ntmps30
 go_wp2
 go_ret
 exact⟨rfl,rfl⟩
theorem Lj.new {B:Nat} (w:World) (hB:B<=w.heap.size):Lj B (w.alloc (.cells #[.map none] TF)) w.heap.size [] (fun k=>k=w.heap.size):=
 ⟨_,hB,bG w _,.inl ⟨rfl,rfl⟩,fun x hx=>by simp at hx,by funext k;simp⟩
theorem ZA {B:Nat} {w:World} {m:List (ByteArray×Int)} {v:Value} (hm:v= .map none/\m=[]\/∃g,v= .map (some g)/\B<=g/\mp yj w g m) {s:ByteArray} (hs:s.size<=maxLen):
  (Instr.lookup 112 v (.string s) false).run Tryz.prog w= .ok (.int .i64 ((Mp.get m s).getD 0)) w:=by
 rcases hm with⟨rfl,rfl⟩|⟨g,rfl,hg,hM⟩
 ·have hz:=yj.hz w
  obtain⟨l,hl⟩:=yj.key s hs
  have hc:=yj.law.check w true hl
  have hfd:(Instr.findKey 9 (.string s) []).run Tryz.prog w= .ok none w:=by
   rcases yj.law.find w hl [] (by simp) with h|⟨j,e,_,h,_⟩
   ·exact h.1
   ·simp at h
  simp only[yj] at hz hc
  simp[Instr.lookup,run_underlying Tryz.underlying112,hc,hz,hfd,Result.andThen,Mp.get]
 ·exact hM.look (T:=yj) hs
theorem ctr_val {m:List (ByteArray×Int)} (h:∀x∈m,1<=x.2/\x.2<=9223372036854775807) (s:ByteArray):0<=(Mp.get m s).getD 0/\(Mp.get m s).getD 0<=9223372036854775807:=by
 cases hg:Mp.get m s with
 |none=>simp
 |some v=>
  have:=h _ (get_mem hg)
  simp only[Option.getD_some]
  simp only at this
  omega
theorem Ih {s:ByteArray} (h:¬s=ByteArray.empty):s.toList.isEmpty=false:=by
 cases he:s.toList with
 |nil=>exact(h (by rw[ByteArray.toList_eq] at he;exact ByteArray.ext (Array.toList_inj.1 he))).elim
 |cons c r=>rfl
theorem add_nil {b:Nat} {w1:World} {s:ByteArray} {n:Int} (hb:w1.heap[b]?=some (.cells #[.map none] TF (0,0))) (hs:s.size<=maxLen):
  w1.cell? ⟨b,0,none⟩=some (.map none)/\(w1.alloc (.map #[] 0)).cell? ⟨b,0,none⟩=some (.map none)/\(w1.alloc (.map #[] 0)).frozen? ⟨b,0,none⟩=false/\((w1.alloc (.map #[] 0)).setCell ⟨b,0,none⟩ (.map (some w1.heap.size))).cell? ⟨b,0,none⟩=some (.map (some w1.heap.size))/\
  ∃w3,(Instr.mapUpdate 112 (.map (some w1.heap.size)) (.string s) (.int .i64 n)).run Tryz.prog ((w1.alloc (.map #[] 0)).setCell ⟨b,0,none⟩ (.map (some w1.heap.size)))= .ok () w3/\Hid (w3.heap[b]?=some (.cells #[.map (some w1.heap.size)] TF (0,0))/\mp yj w3 w1.heap.size (put [] s n)/\Fr (fun k=>k=b) w1 w3):=by
 have hb4:=dw hb (.map #[] 0)
 have hbw:=bA hb
 have hb2:((w1.alloc (.map #[] 0)).setCell ⟨b,0,none⟩ (.map (some w1.heap.size))).heap[b]?=some (.cells #[.map (some w1.heap.size)] TF (0,0)):=by simpa using heap_set hb4 0 (.map (some w1.heap.size))
 have hM2:mp yj ((w1.alloc (.map #[] 0)).setCell ⟨b,0,none⟩ (.map (some w1.heap.size))) w1.heap.size []:=(oW w1).set (a:=⟨b,0,none⟩) (show w1.heap.size≠b by omega) _
 have hF2:Fr (fun k=>k=b) w1 ((w1.alloc (.map #[] 0)).setCell ⟨b,0,none⟩ (.map (some w1.heap.size))):=((Fr.refl (fun k=>k=b) w1).alloc (.map #[] 0)).set (p:=⟨b,0,none⟩) (.inl rfl) _
 obtain⟨w3,hst,sH,BP⟩:=hM2.store (by simp;unfold maxLen;omega) (show yj.ok s from hs) n
 have f3:=jI BP
 exact⟨aj hb 0,aj hb4 0,aX hb4 0,aj hb2 0,w3,hst,Lib.hid ⟨f3.heap hb2 (by show¬b=w1.heap.size;omega),sH,hF2.trans f3 (fun i hi=> .inr (by rw[show i=w1.heap.size from hi];exact Nat.le_refl _))⟩⟩
theorem XN {b g:Nat} {w1:World} {m:List (ByteArray×Int)} {s:ByteArray} {n:Int} (hb:w1.heap[b]?=some (.cells #[.map (some g)] TF (0,0))) (hM:mp yj w1 g m) (hn:m.length<=1000000) (hs:s.size<=maxLen):
  w1.cell? ⟨b,0,none⟩=some (.map (some g))/\
  ∃w3,(Instr.mapUpdate 112 (.map (some g)) (.string s) (.int .i64 n)).run Tryz.prog w1= .ok () w3/\Hid (w3.heap[b]?=some (.cells #[.map (some g)] TF (0,0))/\mp yj w3 g (put m s n)/\Fr (fun k=>k=g) w1 w3):=by
 obtain⟨w3,hst,sH,BP⟩:=hM.store (by unfold maxLen;omega) (show yj.ok s from hs) n
 have f3:=jI BP
 exact⟨aj hb 0,w3,hst,Lib.hid ⟨f3.heap hb (iQ hb hM),sH,f3⟩⟩
set_option maxHeartbeats 2000000 in
set_option maxRecDepth 100000 in
theorem ctr_add {B b:Nat} {m:List (ByteArray×Int)} {S:Nat->Prop} {w:World} (h:Lj B w b m S) (hn:m.length<=1000000) {s:ByteArray} (hs:s.size<=maxLen) {n:Int} (hi:lD n):
  Calls Tryz.prog 31 #[.pointer (some ⟨b,0,none⟩),.string s,.int .i64 n] w fun e w'=>e= .returned (.int .i64 (oQ m s n).2)/\∃S',Lj B w' b (oQ m s n).1 S'/\Fr S w w'/\Into w S S':=by
 by_cases h1:s=ByteArray.empty
 ·subst h1
  have he:oQ m ByteArray.empty n=(m,1):=by unfold oQ;rw[if_pos (.inl rfl)]
  rw[he]
  have H:=Lib.hid h
  clear h
  go_enter Tryz.func31,Tryz.ntmps31
  go_wp2
  go_ret
  exact⟨rfl,S,H.out,Fr.refl _ _,Into.refl _ _⟩
 by_cases h2:n<1
 ·have he:oQ m s n=(m,1):=by unfold oQ;rw[if_pos (.inr h2)]
  rw[he]
  have H:=Lib.hid h
  have h1':=Ih h1
  clear h
  go_enter Tryz.func31,Tryz.ntmps31
  go_wp2
  go_ret
  exact⟨rfl,S,H.out,Fr.refl _ _,Into.refl _ _⟩
 have hb:=hi.bounds
 obtain⟨c,hc⟩:∃c,(Mp.get m s).getD 0=c:=⟨_,rfl⟩
 have he:oQ m s n=if c+n<=9223372036854775807 then(put m s (c+n),0) else(m,5):=by unfold oQ;rw[if_neg (fun hx=>hx.elim h1 h2),hc]
 rw[he]
 have hcv:0<=c/\c<=9223372036854775807:=by
  obtain⟨v,_,_,_,hr,_⟩:=h
  rw[<-hc]
  exact ctr_val hr s
 have hadd:=fun r b W hr=>gV.calls c n r b W ((Pf.mQ (by omega) (by omega)).trans hr)
 have H:=Lib.hid h
 obtain⟨v,hB,hbk,hm,hr,hS⟩:=h
 have hlk:=ZA hm hs
 rw[hc] at hlk
 have yE:v.cells=#[v]:=by rcases hm with⟨rfl,_⟩|⟨g,rfl,_⟩<;>rfl
 have c0:w.cell? ⟨b,0,none⟩=some v:=aj hbk 0
 have h1':=Ih h1
 by_cases h3:c+n<=9223372036854775807
 ·have ha:Pf.kK c n=(c+n,true):=by unfold Pf.kK;rw[if_pos ⟨hcv.1,by omega,h3⟩]
  have HA:=Lib.hid (fun W=>hadd (c+n) true W (congrArg some ha))
  rw[if_pos h3]
  have hfz:=aX hbk 0
  have hes:=Yr
  have hen:=Yq
  have hmm:=@run_makeMap Tryz.prog
  have hr2:∀x∈put m s (c+n),1<=x.2/\x.2<=9223372036854775807:=fun x hx=>by
   rcases ET x hx with rfl|hx
   ·exact⟨by show 1<=c+n;omega,h3⟩
   ·exact hr x hx
  have HR:=Lib.hid hr2
  have HSS:=Lib.hid hS
  have HH:=Lib.hid (And.intro hc (And.intro hcv hr))
  clear hadd ha hr hr2 hS hc he
  rcases hm with⟨rfl,rfl⟩|⟨g,rfl,hg,hM⟩
  ·have HK:=Lib.hid hbk
   clear hbk
   go_enter Tryz.func31,Tryz.ntmps31
   go_wp2_with (go_at_call 60;refine(HA.out _).mono ?_;rintro e w1 ⟨rfl,⟨q1,hq1⟩⟩;have HQ:=Lib.hid hq1;obtain⟨k0,k1,k2,k3,w3,e1,HT⟩:=add_nil (n:=c+n) (show w1.heap[b]?=_ from by rw[hq1];exact HK.out) hs;clear hq1)
   go_ret
   obtain⟨hb3,sH,qR⟩:=HT.out
   have hf1:Fr S w w1:=by rw[HQ.out];exact(Fr.refl _ w).drewN q1
   have hz:=hf1.size
   have hbl:=bA HK.out
   refine⟨rfl,fun k=>k=b\/Value.map (some w1.heap.size)= .map (some k),⟨_,hB,hb3,.inr ⟨_,rfl,by omega,sH⟩,HR.out,rfl⟩,hf1.trans qR (fun i hi=> .inl (by rw[HSS.out];exact .inl hi)),fun k hk=>?_⟩
   rcases hk with rfl|hk
   ·exact .inl (by rw[HSS.out];exact .inl rfl)
   ·simp at hk
    exact .inr (by omega)
  ·have HK:=Lib.hid (And.intro hbk hM)
   clear hbk hM
   go_enter Tryz.func31,Tryz.ntmps31
   go_wp2_with (go_at_call 60;refine(HA.out _).mono ?_;rintro e w1 ⟨rfl,⟨q1,hq1⟩⟩;have HQ:=Lib.hid hq1;obtain⟨k0,w3,e1,HT⟩:=XN (n:=c+n) (show w1.heap[b]?=_ from by rw[hq1];exact HK.out.1) (show mp yj w1 g m from by rw[hq1];exact HK.out.2.drewN q1) hn hs;clear hq1)
   go_ret
   obtain⟨hb3,sH,qR⟩:=HT.out
   have hf1:Fr S w w1:=by rw[HQ.out];exact(Fr.refl _ w).drewN q1
   exact⟨rfl,fun k=>k=b\/Value.map (some g)= .map (some k),⟨_,hB,hb3,.inr ⟨_,rfl,hg,sH⟩,HR.out,rfl⟩,hf1.trans qR (fun i hi=> .inl (by rw[HSS.out,show i=g from hi];exact .inr rfl)),fun k hk=> .inl (by rw[HSS.out];exact hk)⟩
 ·have ha:Pf.kK c n=(0,false):=by unfold Pf.kK;rw[if_neg (by omega)]
  have HA:=Lib.hid (fun W=>hadd 0 false W (congrArg some ha))
  rw[if_neg h3]
  clear hadd ha hr hS hc he hm hbk
  go_enter Tryz.func31,Tryz.ntmps31
  go_wp2_with (go_at_call 60;refine(HA.out _).mono ?_;rintro e w1 ⟨rfl,⟨q1,hq1⟩⟩;have HQ:=Lib.hid hq1;clear hq1)
  go_ret
  have hf1:Fr (fun _=>False) w w1:=by rw[HQ.out];exact(Fr.refl _ w).drewN q1
  exact⟨rfl,S,H.out.fr hf1 (fun _ h _=>h),hf1.mono (fun _ h=>h.elim),Into.refl _ _⟩
theorem add_block (a:Addr) (i:Nat):(a.add i).block=a.block:=by
 unfold Addr.add
 split<;>rfl
theorem rd_str {l:List ByteArray} {i:Nat} {x:ByteArray} (h:l[i]?=some x):Go.Proofs.ae.au.dH ByteArray.empty l (i:Int)=x:=by
 unfold Go.Proofs.ae.au.dH
 rw[Int.toNat_natCast,List.getD_eq_getElem?_getD,h]
 rfl
def fH:List (ByteArray×Int)->List ByteArray->List (ByteArray×Int)×Int
 |m,[]=>(m,0)
 |m,s::l=>if(oQ m s 1).2=0 then fH (oQ m s 1).1 l else((oQ m s 1).1,(oQ m s 1).2)
theorem LZ (m:List (ByteArray×Int)) (s:ByteArray) (n:Int):(oQ m s n).1.length<=m.length+1:=by
 unfold oQ
 split
 ·exact Nat.le_succ _
 ·split
  ·exact jO
  ·exact Nat.le_succ _
set_option maxHeartbeats 2000000 in
set_option maxRecDepth 100000 in
theorem PI {B b:Nat} {m:List (ByteArray×Int)} {S:Nat->Prop} {w:World} (h:Lj B w b m S) {A:Option Addr} {c:Nat} {l:List ByteArray} (hl:Go.Proofs.ae.au.Kd.C Go.Proofs.ae.au.Kd.string w A l.length l) (hlc:l.length<=c) (hA:0<l.length->∀ad,A=some ad->¬S ad.block/\ad.block<w.heap.size) (hn:m.length+l.length<=1000000) (hs:∀x∈l,x.size<=maxLen):
  Calls Tryz.prog 57 #[.pointer (some ⟨b,0,none⟩),.slice A l.length c] w fun e w'=>e= .returned (.int .i64 (fH m l).2)/\∃S',Lj B w' b (fH m l).1 S'/\Fr S w w'/\Into w S S':=by
 have HL:=Lib.hid hl
 have HH:=Lib.hid (And.intro h (And.intro hA hs))
 clear hl h hA hs
 go_enter Tryz.func57,Tryz.ntmps57
 go_wp2_with fail
 go_loopg [10] l.length (fun gk v10 wr=>∃(D R:List ByteArray) (m':List (ByteArray×Int)) (S':Nat->Prop),v10= .int .i64 (D.length:Int)/\R.length=gk/\Hid (l=D++R)/\Hid (fH m' R=fH m l)/\Hid (Lj B wr b m' S')/\Hid (Fr S w wr)/\Hid (Into w S S')/\Hid (m'.length<=m.length+D.length))
 case atStart=>exact⟨[],l,m,S,rfl,rfl,Lib.hid rfl,Lib.hid rfl,Lib.hid HH.out.1,Lib.hid (Fr.refl _ _),Lib.hid (Into.refl _ _),Lib.hid (by simp)⟩
 case round=>
  obtain⟨D,R,m',S',rfl,qy,HX,HM,HC,HF,HI,HN⟩:=hrel
  cases R with
  |nil=>
   have hxe:l=D:=by rw[HX.out];simp
   have hge:¬D.length<l.length:=by rw[hxe];omega
   clear hxe
   go_wp2
   go_ret
   rw[<-HM.out]
   exact⟨rfl,S',HC.out,HF.out,HI.out⟩
  |cons x R=>
   obtain⟨gk,rfl⟩:∃g,gk=g+1:=⟨R.length,by simpa using qy.symm⟩
   have hxi:l[D.length]?=some x:=by rw[HX.out];simp
   have hlt:D.length<l.length:=(List.getElem?_eq_some_iff.1 hxi).1
   have hxs:x.size<=maxLen:=HH.out.2.2 x (List.mem_of_getElem? hxi)
   obtain⟨ad,rfl,hc⟩:=Go.Proofs.ae.au.Kd.dx HL.out (D.length:Int) (by omega) (by omega)
   rw[Int.toNat_natCast,rd_str hxi] at hc
   have hc1:wr.cell? (ad.add D.length)=some (.string x):=HF.out.cell hc (by rw[add_block];exact(HH.out.2.1 (by omega) ad rfl).1)
   have hcl:=ctr_add HC.out (by have:=HN.out;omega) hxs (n:=1) (lD.mk (by omega) (by omega))
   have HQ:=HM.out
   rw[fH] at HQ
   have yE:=LZ m' x 1
   obtain⟨m2,r,hmr⟩:∃m2 r,oQ m' x 1=(m2,r):=⟨_,_,rfl⟩
   rw[hmr] at hcl HQ yE
   simp only at hcl HQ yE
   have Sa:=Lib.hid hcl
   have HQQ:=Lib.hid HQ
   clear hcl hc HQ hxi hmr hxs
   by_cases h0:r=0
   ·subst h0
    go_wp2_with (go_at_call 31;refine Sa.out.mono ?_;rintro e w1 ⟨rfl,S1,hs1,hf1,hi1⟩;have H1:=Lib.hid (And.intro hs1 (And.intro hf1 hi1));clear hs1 hf1 hi1)
    go_roundg R.length
    case measure=>simp at qy;omega
    case rel=>
     obtain⟨hs1,hf1,hi1⟩:=H1.out
     have hq:=HQQ.out
     simp only[if_true] at hq
     exact⟨D++[x],R,m2,S1,by rw[List.length_append,List.length_singleton];simp,rfl,Lib.hid (by rw[HX.out];simp),Lib.hid hq,Lib.hid hs1,Lib.hid (HF.out.trans hf1 (fun k hk=>HI.out k hk)),Lib.hid (HI.out.trans hi1 HF.out.size),Lib.hid (by have:=HN.out;rw[List.length_append,List.length_singleton];omega)⟩
   ·go_wp2_with (go_at_call 31;refine Sa.out.mono ?_;rintro e w1 ⟨rfl,S1,hs1,hf1,hi1⟩;have H1:=Lib.hid (And.intro hs1 (And.intro hf1 hi1));clear hs1 hf1 hi1)
    go_ret
    obtain⟨hs1,hf1,hi1⟩:=H1.out
    have hq:=HQQ.out
    rw[if_neg h0] at hq
    rw[<-hq]
    exact⟨rfl,S1,hs1,HF.out.trans hf1 (fun k hk=>HI.out k hk),HI.out.trans hi1 HF.out.size⟩
end Go.Proofs.YtilpincgjlclpaaGreat.Ob
end
