/- gluepottop.WholeTables returns true for every input: the statement WholeTablesSaid is proved (wholeTables_holds); no condition. The texts beside it hold what it rests on (put together by wip/packall.py). -/
import Derived.Below
import Derived.ChangeOld
import Derived.OpenShut
import Derived.ProofKit
import Derived.ShutString
import Derived.SizedLaws
import Derived.Test.YtilpincgjlclpaaGreatRows
import Derived.WalkKit
import Derived.Test.YtilpincgjlclpaaGreatT15
set_option linter.unusedVariables false
set_option linter.unusedSimpArgs false
section
namespace Go.Proofs.YtilpincgjlclpaaGreat.Ob
open Go Go.RowKit Go.Proofs.ae.au Bs Mp jL Pr
open Tm (mg)
open gJ (vD)
open uA (iJ oz wi jB jN xX iR ql)
def ko (l:List dN):Nat:=((gB l).map List.length).sum
theorem xk (l:List dN) (hl:l.length<=1000) (hz:∀x∈l,x.f0.size<=300) (k:Nat) (hk:l.length+1<=k):aA.f k l=some ((ko l:Nat):Int):=by
 have loop:∀m i k (n:Nat),i+m=l.length->m+1<=k->n<=i*300->aA.l0 k l (n:Int) (i:Int)=some ((n+ko (l.drop i):Nat):Int):=by
  intro m
  induction m with
  |zero=>
   intro i k n hi hk hn
   obtain⟨k,rfl⟩:∃k',k=k'+1:=⟨k-1,by omega⟩
   rw[aA.l0,if_neg (by omega),List.drop_of_length_le (by omega)]
   simp[ko,gB]
  |succ m ih=>
   intro i k n hi hk hn
   obtain⟨k,rfl⟩:∃k',k=k'+1:=⟨k-1,by omega⟩
   have hlt:i<l.length:=by omega
   have h3:=hz _ (List.getElem_mem hlt)
   have hw:wrap64 ((n:Int)+(l[i].f0.size:Int))=((n+l[i].f0.size:Nat):Int):=by unfold wrap64;omega
   have e:l[i].f0.data.toList.length=l[i].f0.size:=by simp
   rw[aA.l0,if_pos (by omega),if_pos (by omega),jB l i hlt,wi i (by omega),hw,ih (i+1) k _ (by omega) (by omega) (by omega),List.drop_eq_getElem_cons hlt]
   unfold ko gB
   rw[List.map_cons,List.map_cons,List.sum_cons,e,Nat.add_assoc]
 have:=loop l.length 0 k 0 (by omega) hk (by omega)
 simpa[aA.f] using this
theorem zh (l:List dN) (hl:l.length<=maxLen) (hi:∀x∈l,oz x.f1):∃b,dR.f (l.length+1) l=some b/\(b=false->iJ l/\ko l<=300/\l.length<=60):=by
 obtain⟨b,h1,h2⟩:=vD l 60 (by unfold maxLen at hl;omega)
 unfold dR.f
 rw[h1 _ (Nat.le_refl _),Option.bind_some]
 cases b with
 |true=>exact⟨true,rfl,fun h=>by cases h⟩
 |false=>
  obtain⟨h3,h4⟩:=h2 rfl
  rw[if_neg (by decide),xk l (by omega) (fun x hx=>by have:=h4 x hx;omega) _ (Nat.le_refl _),Option.bind_some]
  refine⟨_,rfl,fun h=>⟨⟨by omega,fun x hx=>⟨by have:=h4 x hx;omega,hi x hx⟩⟩,?_,by omega⟩⟩
  have:=of_decide_eq_false h
  omega
def mS (x:ByteArray×ByteArray):eu:=⟨x.1,x.2⟩
theorem vR {w:World} {B:Nat} {A:Option Addr} {n c:Nat} {T:List (ByteArray×ByteArray)} (h:w.ownsRow B Cz 2 (.slice A n c) T.length (T.flatMap mW)) (hl:T.length<=1000000):n=T.length/\T.length<=c/\Kd.C qj w A (T.map mS).length (T.map mS):=by
 rcases h.2 with⟨e,h0⟩|⟨g,cap,cur,e,hg,hb,hc,hm,hs,ht⟩
 ·cases e
  have:T=[]:=List.eq_nil_of_length_eq_zero h0
  subst this
  exact⟨rfl,Nat.le_refl _,⟨rfl,by simp,fun h=>by simp at h⟩⟩
 ·cases e
  refine⟨rfl,hc,⟨rfl,by rw[List.length_map];omega,fun hp=>⟨_,rfl,fun j p hj=>?_⟩⟩⟩
  rw[List.getElem?_map] at hj
  obtain⟨x,hx,rfl⟩:=Option.map_eq_some_iff.1 hj
  obtain⟨g',e',_,_,_,hcell,_⟩:=gz h (by rw[List.length_map] at hp;exact hp)
  cases e'
  obtain⟨h1,h2⟩:=yY hx
  have a0:=hcell _ _ h1
  have a1:=hcell _ _ h2
  refine⟨_,rfl,Ep w (mS x),fun i u hi=>?_⟩
  have hadd:∀k:Nat,(⟨g,0,none⟩:Addr).add k=⟨g,k,none⟩:=fun k=>by unfold Addr.add;split<;>simp_all
  match i,hi with
  |0,hi=>
   simp at hi
   subst hi
   rw[hadd]
   exact a0
  |1,hi=>
   simp at hi
   subst hi
   rw[hadd]
   exact a1
open Classical in
noncomputable def aay (l:List dN) (bu mn li:Int):ByteArray:=if ic l bu mn li=0 then zJ l bu mn else⟨#[]⟩
open Classical in
noncomputable def jk (l:List dN) (bu mn li:Int):List eu:=if ic l bu mn li=0 then mg (kU l bu mn) else[]
theorem lX {l:List dN} {bu mn li:Int} (hf:iJ l) (hs:ko l<=6000):(jk l bu mn li).length<=100000:=by
 unfold jk
 split
 ·rename_i h
  rw[vS]
  exact(lnt hf hs h).len
 ·simp
theorem qH (l:List dN) (bu mn:Int):(rM l bu mn).map mS=mg (kU l bu mn):=by
 unfold rM
 rw[tJ,List.map_map]
 conv=>rhs;rw[<-List.map_id (mg (kU l bu mn))]
 rfl
theorem NB {w:World}:Kd.C qj w none 0 []:=⟨rfl,by simp,fun h=>by simp at h⟩
theorem tab_m {w:World} {A:Option Addr} {c0:Nat} {l:List dN} (hC:Kd.C lQ w A l.length l) (hc0:l.length<=c0) (hf:iJ l) (hs:ko l<=6000) (bu mn li:Int):
  Calls Tryz.prog 10 #[.slice A l.length c0,Gs bu mn li] w fun e w'=>Below w.heap.size w w'/\∃Am cm s6 n,e= .returned (uz (aay l bu mn li) (.slice Am (jk l bu mn li).length cm) s6 n (ic l bu mn li))/\(jk l bu mn li).length<=cm/\Kd.C qj w' Am (jk l bu mn li).length (jk l bu mn li):=by
 refine(tab_c hC hc0 hf hs bu mn li).mono ?_
 rintro e w' ⟨hB,Av,lv,cv,rfl,ho⟩
 refine⟨hB,?_⟩
 have yE:=lX (bu:=bu) (mn:=mn) (li:=li) hf hs
 unfold FD
 unfold aay jk at *
 by_cases h:ic l bu mn li=0
 ·rw[if_pos h] at yE
  rw[if_pos h,if_pos h,if_pos h]
  have ho2:=ho h
  have hol:(rM l bu mn).length=(mg (kU l bu mn)).length:=by rw[<-qH,List.length_map]
  obtain⟨h1,h2,h3⟩:=vR ho2 (by omega)
  rw[qH] at h3
  rw[h1,hol] at *
  refine⟨Av,cv,_,_,by rw[h],h2,h3⟩
 ·rw[if_neg h,if_neg h,if_neg h]
  exact⟨none,0,_,_,rfl,Nat.le_refl _,NB⟩
theorem YA {l:List dN} {bu mn li:Int} (h:ic l bu mn li=5):(iR 0 (l.map (·.f1)) (l.map ql)).2=false:=by
 unfold ic at h
 split at h
 ·exfalso
  unfold IK xJ Gg at h
  repeat' (split at h<;>try(revert h;decide))
 ·exact xX h
end Go.Proofs.YtilpincgjlclpaaGreat.Ob
end
section
namespace Go.Proofs.YtilpincgjlclpaaGreat.Pr
open Go.RowKit Bs Ob Go.Proofs.ae.au Go.Proofs.ae.aZ Go.Proofs.ae.bE
open uA (iJ oz iR ql pq)
def gY.f (l0:List dN) (bz bD dA:Int):Option Bool:=if l0.length<=maxLen/\∀x∈l0,-9223372036854775808<=x.f1/\x.f1<=9223372036854775807 then some true else none
set_option maxHeartbeats 4000000 in
set_option maxRecDepth 100000 in
theorem gY.calls (A0:Option Addr) (c0:Nat) (l0:List dN) (bz bD dA:Int) (r:Bool) (w:World) (hr0:Kd.C lQ w A0 l0.length l0) (hc0:l0.length<=c0) (h:gY.f l0 bz bD dA=some r):
  Calls Tryz.prog 3 #[.slice A0 l0.length c0,.agg #[.int .i64 bz,.int .i64 bD,.int .i64 dA]] w fun e w'=>e= .returned (.bool r)/\Below w.heap.size w w':=by
 unfold gY.f at h
 split at h
 ·rename_i hcond
  cases h
  obtain⟨yE,hin⟩:=hcond
  obtain⟨b,hg1,hg2⟩:=zh l0 yE hin
  have HC:=Lib.hid hr0
  clear hr0 hin
  go_enter Tryz.func3,Tryz.ntmps3
  go_wp2_with fail
  refine(jK.calls true _ rfl).mono ?_
  rintro e w1 ⟨rfl,hb1⟩
  have hB1:Below w.heap.size w w1:=((Below.refl _ w).alloc (Nat.le_refl _) _).trans (hb1.mono (by simp))
  have hP:w1.heap[w.heap.size]?=some (.cells #[.int .i64 bz,.int .i64 bD,.int .i64 dA] 24 (0,0)):=(hb1.block _ (by simp)).trans (bG w _)
  have p0:w1.cell? ⟨w.heap.size,0,none⟩=some (.int .i64 bz):=aj hP 0
  have p1:w1.cell? ⟨w.heap.size,1,none⟩=some (.int .i64 bD):=aj hP 1
  have p2:w1.cell? ⟨w.heap.size,2,none⟩=some (.int .i64 dA):=aj hP 2
  have Ch:=Lib.hid (Kd.bY HC.out hB1)
  have HB1:=Lib.hid (And.intro hB1 (And.intro hP (show w.heap.size<w1.heap.size by have:=hb1.size;simp at this;omega)))
  clear hb1 hB1 hP HC
  have HG:=Lib.hid (And.intro hg1 hg2)
  clear hg1 hg2
  go_wp2_with fail
  refine(dR.calls _ _ _ l0 b _ Ch.out hc0 HG.out.1).mono ?_
  rintro e w2 ⟨rfl,⟨q2,rfl⟩⟩
  cases b with
  |true=>
   go_wp2_with fail
   go_ret
   exact⟨rfl,HB1.out.1.trans (af (Below.refl _ _) _)⟩
  |false=>
   obtain⟨hf,hs,hl60⟩:=HG.out.2 rfl
   have htab:=tab_m (Kd.dB Ch.out q2) hc0 hf (by omega) bz bD dA
   unfold Gs at htab
   have HT:=Lib.hid htab
   have HF:=Lib.hid (And.intro hf hs)
   clear htab hf hs HG
   go_wp2_with fail
   refine HT.out.mono ?_
   clear HT
   rintro e w3 ⟨hB3,Am,cm,s6,nn,rfl,hcm,hCm⟩
   have hs1:(w1.drewN q2).heap.size=w1.heap.size:=rfl
   rw[hs1] at hB3
   have sG:Below w1.heap.size w1 w3:=(af (Below.refl _ w1) q2).trans hB3
   have q0:∀o,(w3.alloc o).cell? ⟨w.heap.size,0,none⟩=some (.int .i64 bz):=fun o=>(((sG.alloc sG.size o)).cell HB1.out.2.2).trans p0
   have q1:∀o,(w3.alloc o).cell? ⟨w.heap.size,1,none⟩=some (.int .i64 bD):=fun o=>(((sG.alloc sG.size o)).cell HB1.out.2.2).trans p1
   have q2':∀o,(w3.alloc o).cell? ⟨w.heap.size,2,none⟩=some (.int .i64 dA):=fun o=>(((sG.alloc sG.size o)).cell HB1.out.2.2).trans p2
   obtain⟨K,hK⟩:=ref22_f HF.out.1 (show((gB l0).map List.length).sum<=6000 by have h9:=HF.out.2;unfold ko at h9;omega) bz bD dA
   have hK2:=hK K (Nat.le_refl _)
   have hK3:jh.f K l0 bz bD dA=some (aay l0 bz bD dA,jk l0 bz bD dA,ic l0 bz bD dA):=by
    rw[hK2]
    unfold aay jk
    split<;>rfl
   have h5:ic l0 bz bD dA=5->(iR 0 (l0.map (·.f1)) (l0.map ql)).2=false:=YA
   have Tj:=lX (bu:=bz) (mn:=bD) (li:=dA) HF.out.1 (by have:=HF.out.2;omega)
   have hwt:=pq l0 HF.out.1 1400 (Nat.le_refl _)
   have Ci:=Lib.hid (Kd.bY Ch.out sG)
   have Lx:=Lib.hid hCm
   have HK:=Lib.hid hK3
   have H5:=Lib.hid (And.intro h5 (And.intro Tj hwt))
   generalize aay l0 bz bD dA=F at *
   generalize jk l0 bz bD dA=M at *
   generalize ic l0 bz bD dA=E at *
   generalize iR 0 (l0.map (·.f1)) (l0.map ql)=D at *
   obtain⟨s0,s1,s2,s3,s4,s5⟩:=s6
   have HB3:=Lib.hid (And.intro (HB1.out.1.trans (sG.mono HB1.out.1.size)) HB1.out.2.2)
   clear hB3 sG hK hK2 hK3 h5 Tj hwt hCm Ch p0 p1 p2 HB1 hs1
   unfold uz lW
   simp only
   go_wp2_with fail
   refine(jh.calls K A0 c0 l0 bz bD dA F M E _ (Kd.dD Ci.out _) hc0 HK.out).mono ?_
   rintro e w4 ⟨v4,rfl,hR4,hB4⟩
   obtain⟨A4,c4,rfl,hc4,YI⟩:=Kd.lZ hR4
   have hres:w4.heap[w3.heap.size]?=some (.cells (lW F (.slice Am M.length cm) ⟨s0,s1,s2,s3,s4,s5⟩ nn E) Gb (0,0)):=(hB4.block _ (by simp)).trans (bG w3 _)
   obtain⟨z0,z1,z2,z3,z4,z5,z6',z7,z8,z9⟩:=nP hres
   have xw:Below w3.heap.size w3 w4:=((Below.refl _ w3).alloc (Nat.le_refl _) _).trans (hB4.mono (by simp))
   have UR:=Lib.hid (Kd.bY Ci.out xw)
   have HM4:=Lib.hid (Kd.bY Lx.out xw)
   have HR4:=Lib.hid YI
   have wG:=Lib.hid (HB3.out.1.trans (xw.mono HB3.out.1.size))
   have hEE:(E != E)=false:=by simp
   have hFF:(F.toList != F.toList)=false:=by simp
   clear hR4 hB4 YI hres xw Ci Lx HK HB3 q0 q1 q2'
   go_wp2_with (go_at_call 12;refine(dX.calls (M.length+1) _ _ M _ _ M true _ HM4.out hcm HR4.out hc4 (gJ.Wd M (by have:=H5.out.2.1;omega) _ (Nat.le_refl _))).mono ?_;rintro e w5 ⟨rfl,⟨q5,rfl⟩⟩)
   obtain⟨d1,d2⟩:=D
   refine(eU.calls 1400 A0 c0 l0 d1 d2 _ (Kd.dB UR.out q5) hc0 H5.out.2.2).mono ?_
   rintro e w6 ⟨rfl,xx⟩
   have yJ:=Lib.hid (wG.out.trans ((af (Below.refl _ w4) q5).trans xx |>.mono wG.out.size))
   clear xx z0 z1 z2 z3 z4 z5 z6' z7 z8 z9
   by_cases h5:E=5
   ·have hd:d2=false:=H5.out.1 h5
    subst hd
    subst h5
    go_wp2_with fail
    go_ret
    exact⟨rfl,yJ.out⟩
   ·have h5b:(E != 5)=true:=by simpa using h5
    go_wp2_with fail
    go_ret
    exact⟨rfl,yJ.out⟩
 ·cases h
end Go.Proofs.YtilpincgjlclpaaGreat.Pr
end
section
namespace Go.Proofs.YtilpincgjlclpaaGreat.Pure
open Go Go.RowKit Pr
theorem WholeTables (l0:List dN) (bz bD dA:Int) (x0:l0.length<=maxLen) (y0:∀x∈l0,x.f0.size<=maxLen/\(Lit.int .i64 x.f1).wf=true) (KW:(Lit.int .i64 bz).wf=true) (KX:(Lit.int .i64 bD).wf=true) (KY:(Lit.int .i64 dA).wf=true):Pr.gY.f l0 bz bD dA=some true:=by
 have h:∀x∈l0,-9223372036854775808<=x.f1/\x.f1<=9223372036854775807:=by
  intro x hx
  have:=(y0 x hx).2
  simp[Lit.wf,IntKind.min,IntKind.max,IntKind.signed,IntKind.bits] at this
  omega
 unfold gY.f
 rw[if_pos ⟨x0,h⟩]
end Go.Proofs.YtilpincgjlclpaaGreat.Pure
end
section
namespace Go.Proofs.YtilpincgjlclpaaGreat.wholeTables
open Go.ChangeShapes Go.WideShapes Go.ChangeAt Go.RowKit Go.Proofs.YtilpincgjlclpaaGreat.Open
open Go.ChangeMaps (open_string shut_string)
theorem own:ownKnob Tryz.prog.godebug=none:=by kernel_rfl
theorem laidOut:laidOutB Tryz.prog=true:=by kernel_rfl
theorem walk (A0:Option Addr) (c0:Nat) (l0:List (Pr.dN)) (bz:Int) (bD:Int) (dA:Int) (w:World) (hr0:Go.Proofs.ae.au.Kd.C Pr.lQ w A0 l0.length l0) (hc0:l0.length<=c0) (x0:l0.length<=maxLen) (y0:∀x∈l0,x.f0.size<=maxLen/\(Lit.int .i64 x.f1).wf=true) (KW:(Lit.int .i64 bz).wf=true) (KX:(Lit.int .i64 bD).wf=true) (KY:(Lit.int .i64 dA).wf=true):
  Calls Tryz.prog 3 #[.slice A0 l0.length c0,.agg #[.int .i64 bz,.int .i64 bD,.int .i64 dA]] w fun e w'=>e= .returned (.bool true)/\Below w.heap.size w w':=by
 have h:=Pure.WholeTables l0 bz bD dA x0 y0 KW KX KY
 refine(Pr.gY.calls A0 c0 l0 bz bD dA true w hr0 hc0 h).mono ?_
 rintro e w' ⟨rfl,hd⟩
 exact⟨rfl,hd⟩
set_option maxRecDepth 100000 in
theorem lifted (os:Os) (started:os.Started) (H:Type) (enc:TypeId×Value->H):
  ReturnsInHanded {} Tryz.checked os 3 .any (Rows.wholeTablesSpec.pre6 enc Tryz.prog Tryz.f3 Rows.wholeTablesRow.domain false) (Rows.wholeTablesSpec.post enc Tryz.prog Tryz.f3 false true false false):=by
 refine returnsInHanded_of_change_sized (C:=Tryz.checked) own started (by kernel_rfl) Tryz.func3
  (ChangeSpec.witness6 (enc:=enc) (C:=Tryz.checked) false ⟨#[],#[.slice none 0 0,.agg #[.int .i64 0,.int .i64 0,.int .i64 0]],[]⟩ 8 (by kernel_rfl) (by kernel_rfl) (by kernel_rfl) (by kernel_rfl)) ?_
 intro W base args ds gs before hval0 hW hcnd hsz0 _
 have hval:∀(j:Nat) t v,Tryz.f3.params[j]?=some t->args[j]?=some v->Value.okWide Tryz.prog W .any base t v:=hval0
 have hW':=hW
 obtain⟨p,q,Vv,hV,rfl,hfz,hnd⟩:=hW
 have hA:DataW.TrodAll enc Tryz.prog W 0 (fun _=>true) true Tryz.f3.params.toList args.toList ds p:=Vv
 rw[Tryz.params3] at hA hval
 obtain⟨v0,vs0,d0,ds0,p0,q0,hargs,rfl,rfl,h0,r0⟩:=trodAll_cons hA
 obtain⟨v1,vs1,d1,ds1,p1,q1,rfl,rfl,rfl,h1,r1⟩:=trodAll_cons r0
 obtain⟨rfl,rfl,rfl⟩:=trodAll_nil r1
 obtain rfl:args=#[v0,v1]:=by cases args;simp_all
 obtain⟨rfl,rfl⟩:=trodVars_none hV
 have k0:=h0
 have lt0:∀x∈p0,x.block<W.heap.size:=by obtain⟨m,hm⟩:=k0;exact DataW.trod_lt m _ _ _ hm
 obtain⟨A0,c0,l0,rfl,hc0,hr0,x0,y0⟩:=nH Tryz.underlying22 (by kernel_rfl) (Pr.rJ) (hval 0 22 v0 rfl rfl) h0
 have k1:=h1
 have lt1:∀x∈p1,x.block<W.heap.size:=by obtain⟨m,hm⟩:=k1;exact DataW.trod_lt m _ _ _ hm
 obtain⟨bz,bD,dA,rfl,KW,KX,KY⟩:=Pr.tL (hval 1 24 v1 rfl rfl) h1
 clear Vv hval0 hsz0
 refine(walk A0 c0 l0 bz bD dA W hr0 hc0 x0 y0 KW KX KY).mono fun e W' ⟨he,oJ⟩=>?_
 subst he
 exact⟨_,rfl,_,_,_,[],_,[],hW',trodAll_mk1 (shut_bool Tryz.underlying4 _),(trodAll_cons_mk (Below.trod laidOut (by kernel_rfl) (of_decide_eq_true (by kernel_rfl)) k0 oJ lt0) (trodAll_cons_mk (Below.trod laidOut (by kernel_rfl) (of_decide_eq_true (by kernel_rfl)) k1 oJ lt1) trodAll_mk0)),rfl,oJ.frame _,fun h=>by cases h⟩
theorem over:Rows.wholeTablesRow.holds Tryz.pinned (OpenSpec.ofChange Rows.wholeTablesSpec):=
 OpenClaim.holds_of_wide 3 Tryz.f3 rfl rfl rfl rfl rfl rfl rfl ⟨rfl,rfl,rfl,rfl,rfl⟩ rfl rfl rfl rfl rfl (by kernel_rfl) Tryz.func3 (by kernel_rfl)
  (of_decide_eq_true (by kernel_rfl)) (by unfold Func.isWrapper;first|(rw[if_pos (by decide+kernel)];kernel_rfl)|(rw[if_neg (by decide+kernel)];exact⟨rfl,rfl⟩))
  (fun os started H enc _=>lifted os started H enc)
theorem proved:Rows.WholeTablesSaid:=over
end Go.Proofs.YtilpincgjlclpaaGreat.wholeTables
namespace Go.Proofs.YtilpincgjlclpaaGreat
theorem wholeTables_holds:Rows.WholeTablesSaid:=wholeTables.proved
#print axioms wholeTables_holds
end Go.Proofs.YtilpincgjlclpaaGreat
end
