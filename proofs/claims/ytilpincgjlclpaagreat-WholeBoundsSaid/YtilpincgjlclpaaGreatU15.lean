import Derived.Test.YtilpincgjlclpaaGreatU14
set_option linter.unusedVariables false
set_option linter.unusedSimpArgs false
namespace Go.Proofs.YtilpincgjlclpaaGreat.Pr
open Go Go.RowKit Bs Ob Go.Proofs.ae.au Go.Proofs.ae.aZ Go.Proofs.ae.bE
open uA (iJ oz)
open gJ (Ws sw)
theorem ZM {l:List dN} {bu mn li:Int} (h:ic l bu mn li≠0):jk l bu mn li=[]/\rO l bu mn li=z6:=by
 unfold jk rO
 rw[if_neg h,if_neg h]
 exact⟨rfl,rfl⟩
def gX.f (l0:List dN) (bz bD dA:Int):Option Bool:=if l0.length<=maxLen/\∀x∈l0,-9223372036854775808<=x.f1/\x.f1<=9223372036854775807 then some true else none
set_option maxHeartbeats 8000000 in
set_option maxRecDepth 100000 in
theorem gX.calls (A0:Option Addr) (c0:Nat) (l0:List dN) (bz bD dA:Int) (r:Bool) (w:World) (hr0:Kd.C lQ w A0 l0.length l0) (hc0:l0.length<=c0) (h:gX.f l0 bz bD dA=some r):
  Calls Tryz.prog 6 #[.slice A0 l0.length c0,.agg #[.int .i64 bz,.int .i64 bD,.int .i64 dA]] w fun e w'=>e= .returned (.bool r)/\Below w.heap.size w w':=by
 unfold gX.f at h
 split at h
 ·rename_i hcond
  cases h
  obtain⟨yE,hin⟩:=hcond
  obtain⟨b,hg1,hg2⟩:=zh l0 yE hin
  have HC:=Lib.hid hr0
  clear hr0 hin
  go_enter Tryz.func6,Tryz.ntmps6
  go_wp2_with fail
  refine(jK.calls true _ rfl).mono ?_
  rintro e w1 ⟨rfl,hb1⟩
  have hB1:Below w.heap.size w w1:=((Below.refl _ w).alloc (Nat.le_refl _) _).trans (hb1.mono (by simp))
  have hP:w1.heap[w.heap.size]?=some (.cells #[.int .i64 bz,.int .i64 bD,.int .i64 dA] 24 (0,0)):=(hb1.block _ (by simp)).trans (bG w _)
  have p0:w1.cell? ⟨w.heap.size,0,none⟩=some (.int .i64 bz):=aj hP 0
  have p1:w1.cell? ⟨w.heap.size,1,none⟩=some (.int .i64 bD):=aj hP 1
  have p2:w1.cell? ⟨w.heap.size,2,none⟩=some (.int .i64 dA):=aj hP 2
  have Ch:=Lib.hid (Kd.bY HC.out hB1)
  have HB1:=Lib.hid (And.intro hB1 (And.intro hP (show w.heap.size<w1.heap.size by have:=hb1.size;simp at this;omega)))
  clear hb1 hB1 hP HC
  have HG:=Lib.hid (And.intro hg1 hg2)
  clear hg1 hg2
  go_wp2_with fail
  refine(dR.calls _ _ _ l0 b _ Ch.out hc0 HG.out.1).mono ?_
  rintro e w2 ⟨rfl,⟨q2,rfl⟩⟩
  cases b with
  |true=>
   go_wp2_with fail
   go_ret
   exact⟨rfl,HB1.out.1.trans (af (Below.refl _ _) _)⟩
  |false=>
   obtain⟨hf,hs,hl60⟩:=HG.out.2 rfl
   have hlm:=Kl (Kd.dB Ch.out q2) hc0 hf (by omega) bz bD dA
   unfold Gs at hlm
   have HT:=Lib.hid hlm
   have HF:=Lib.hid (And.intro hf hs)
   clear hlm hf hs HG
   go_wp2_with fail
   refine HT.out.mono ?_
   clear HT
   rintro e w3 ⟨hB3,Am,cm,rfl,hcm,hCm⟩
   have hs1:(w1.drewN q2).heap.size=w1.heap.size:=rfl
   rw[hs1] at hB3
   have sG:Below w1.heap.size w1 w3:=(af (Below.refl _ w1) q2).trans hB3
   have hbad:ic l0 bz bD dA≠0->_:=ZM
   have hgood:ic l0 bz bD dA=0->IV l0 bz (jk l0 bz bD dA) (rO l0 bz bD dA):=fun h9=>XR HF.out.1 HF.out.2 h9
   have Tj:=lX (bu:=bz) (mn:=bD) (li:=dA) HF.out.1 (by have:=HF.out.2;omega)
   have q0:w3.cell? ⟨w.heap.size,0,none⟩=some (.int .i64 bz):=(sG.cell HB1.out.2.2).trans p0
   have Zf:w.heap.size<w3.heap.size:=Nat.lt_of_lt_of_le HB1.out.2.2 sG.size
   have HX:=Lib.hid (And.intro hbad hgood)
   have Ci:=Lib.hid (Kd.bY Ch.out sG)
   have Lx:=Lib.hid hCm
   have HB3:=Lib.hid (HB1.out.1.trans (sG.mono HB1.out.1.size))
   generalize jk l0 bz bD dA=M at *
   generalize ic l0 bz bD dA=E at *
   generalize rO l0 bz bD dA=S0 at *
   clear hB3 sG hCm Ch HB1 hs1 hbad hgood p0 p1 p2
   by_cases hE:E=0
   ·subst hE
    obtain⟨s0,s1,s2,s3,s4,s5⟩:=S0
    obtain⟨Wf,hWf⟩:=(HX.out.2 rfl).ws HF.out.2
    obtain⟨hbd,hro,⟨KF,hfit⟩,_,_,_,_⟩:=HX.out.2 rfl
    have HBD:=Lib.hid (And.intro hbd hfit)
    have HW:=Lib.hid hWf
    clear hbd hfit hWf HX
    have hro2:decide (bz<s1)=false:=decide_eq_false (by simpa using hro)
    unfold WS
    go_wp2_with fail
    refine(aA.calls (l0.length+1) A0 c0 l0 _ _ (Kd.dD Ci.out _) hc0 (xk l0 (by omega) (fun x hx=>(HF.out.1.2 x hx).1) _ (Nat.le_refl _))).mono ?_
    rintro e w4 ⟨rfl,⟨q4,rfl⟩⟩
    obtain⟨W4,Gm⟩:∃W4,W4=(w3.alloc (.cells #[.int .i64 s0,.int .i64 s1,.int .i64 s2,.int .i64 s3,.int .i64 s4,.int .i64 s5] 29)).drewN q4:=⟨_,rfl⟩
    have hst:W4.heap[w3.heap.size]?=some (.cells #[.int .i64 s0,.int .i64 s1,.int .i64 s2,.int .i64 s3,.int .i64 s4,.int .i64 s5] 29 (0,0)):=by rw[Gm];exact bG w3 _
    have xw:Below w3.heap.size w3 W4:=by rw[Gm];exact((Below.refl _ w3).alloc (Nat.le_refl _) _).trans (af (Below.refl _ _) _)
    have UR:=Lib.hid (Kd.bY Ci.out xw)
    have HM4:=Lib.hid (Kd.bY Lx.out xw)
    have wG:=Lib.hid (HB3.out.trans (xw.mono HB3.out.size))
    have y0:W4.cell? ⟨w.heap.size,0,none⟩=some (.int .i64 bz):=(xw.cell Zf).trans q0
    have z0:W4.cell? ⟨w3.heap.size,0,none⟩=some (.int .i64 s0):=aj hst 0
    have z1:W4.cell? ⟨w3.heap.size,1,none⟩=some (.int .i64 s1):=aj hst 1
    have z2:W4.cell? ⟨w3.heap.size,2,none⟩=some (.int .i64 s2):=aj hst 2
    have z3:W4.cell? ⟨w3.heap.size,3,none⟩=some (.int .i64 s3):=aj hst 3
    have z4:W4.cell? ⟨w3.heap.size,4,none⟩=some (.int .i64 s4):=aj hst 4
    have z5:W4.cell? ⟨w3.heap.size,5,none⟩=some (.int .i64 s5):=aj hst 5
    have HST:=Lib.hid (And.intro hst (And.intro (show w3.heap.size<W4.heap.size by rw[Gm];show w3.heap.size<(w3.alloc _).heap.size;simp) y0))
    have hs34:w.heap.size<W4.heap.size:=Nat.lt_of_lt_of_le Zf xw.size
    rw[<-Gm]
    clear hst xw Gm q0
    go_wp2_with fail
    refine(jr.calls s0 s1 s2 s3 s4 s5 (ko l0) M.length true _ HBD.out.1).mono ?_
    rintro e w5 ⟨rfl,wL⟩
    have HC5:=Lib.hid (Kd.bY UR.out wL)
    have HM5:=Lib.hid (Kd.bY HM4.out wL)
    have GG:=Lib.hid (wG.out.trans (wL.mono wG.out.size))
    have hst:w5.heap[w3.heap.size]?=some (.cells #[.int .i64 s0,.int .i64 s1,.int .i64 s2,.int .i64 s3,.int .i64 s4,.int .i64 s5] 29 (0,0)):=(wL.block _ HST.out.2.1).trans HST.out.1
    have y05:w5.cell? ⟨w.heap.size,0,none⟩=some (.int .i64 bz):=(wL.cell hs34).trans HST.out.2.2
    have z05:w5.cell? ⟨w3.heap.size,0,none⟩=some (.int .i64 s0):=aj hst 0
    have z15:w5.cell? ⟨w3.heap.size,1,none⟩=some (.int .i64 s1):=aj hst 1
    have z25:w5.cell? ⟨w3.heap.size,2,none⟩=some (.int .i64 s2):=aj hst 2
    have z35:w5.cell? ⟨w3.heap.size,3,none⟩=some (.int .i64 s3):=aj hst 3
    have z45:w5.cell? ⟨w3.heap.size,4,none⟩=some (.int .i64 s4):=aj hst 4
    have z55:w5.cell? ⟨w3.heap.size,5,none⟩=some (.int .i64 s5):=aj hst 5
    clear wL hst HST y0 z0 z1 z2 z3 z4 z5 UR HM4 wG
    go_wp2_with fail
    refine(ik.calls KF s0 s1 s2 s3 s4 s5 bz true _ HBD.out.2).mono ?_
    rintro e w6 ⟨rfl,xx⟩
    have Pk:=Lib.hid (Kd.bY HC5.out xx)
    have HM6:=Lib.hid (Kd.bY HM5.out xx)
    have yJ:=Lib.hid (GG.out.trans (xx.mono GG.out.size))
    clear xx y05 z05 z15 z25 z35 z45 z55 HC5 HM5 GG
    go_wp2_with fail
    have hbase:=HW.out.base
    go_loopw [9,10,11,12,13] (fun v9 v10 v11 v12 v13 wr=>∃i n1:Nat,i<=M.length/\Hid (n1=i+1)/\v10= .int .i64 (n1:Int)/\v9= .int .i64 ((iL (Wf i):Nat):Int)/\Below w6.heap.size w6 wr) (fun _ v10 _ _ _ _=>M.length+1-(intOf v10).toNat)
    case atStart=>exact⟨0,1,Nat.zero_le _,Lib.hid rfl,rfl,by rw[hbase],Below.refl _ _⟩
    case round=>
     obtain⟨i,n1,hi,HN,rfl,rfl,hBr⟩:=hrel
     have hn1:=HN.out
     have HBr:=Lib.hid hBr
     have HCr:=Lib.hid (Kd.bY Pk.out hBr)
     have HMr:=Lib.hid (Kd.bY HM6.out hBr)
     clear hBr hbase
     by_cases hlt:i<M.length
     ·obtain⟨ad,rfl,_,_⟩:=jm HMr.out (i:Int) (by omega) (by omega)
      obtain⟨i47,YZ,_,_,_⟩:=info_parts Kg
      have hcut:=PL (P:=Tryz.prog) 27 47 .i64 Tryz.underlying27 YZ (some ad) M.length cm (n1:Int) (by omega) (by omega) hcm
      rw[Int.toNat_natCast] at hcut
      have hCt:=Kd.Pb (m:=n1) HMr.out (by omega)
      obtain⟨T',hT'⟩:∃T',T'=M.take n1:=⟨_,rfl⟩
      have htl:T'.length=n1:=by rw[hT',List.length_take];omega
      obtain⟨K,hK⟩:=HW.out.words n1 (by omega)
      have hsm:=HW.out.small i hi
      have hsm2:=HW.out.small n1 (by omega)
      have hfl:=HW.out.fall i hlt
      rw[<-hn1] at hfl
      have hwl:=HW.out.len n1
      rw[<-hT'] at hCt hK
      obtain⟨V,hVW⟩:∃V,V=Wf n1:=⟨_,rfl⟩
      rw[<-hVW] at hK hsm2 hfl hwl
      have HVW:=Lib.hid (And.intro hVW hn1)
      have hle:((n1:Int)<=(M.length:Int)):=by omega
      have HCT:=Lib.hid hCt
      have HK:=Lib.hid hK
      have HV:=Lib.hid hT'
      clear hCt hK hT' YZ hn1 hVW HN
      go_wp2_with fail
      subst htl
      refine(aN.calls K A0 c0 l0 (some ad) cm T' V _ HCr.out hc0 HCT.out (by omega) HK.out).mono ?_
      rintro e w7 ⟨v7,rfl,hS7,uu⟩
      obtain⟨A7,c7,rfl,hc7,hC7⟩:=Kd.IY hS7
      have HC7:=Lib.hid hC7
      have HB7:=Lib.hid (HBr.out.trans (uu.mono HBr.out.size))
      have hsl:=Wz V
      have Si:=Lib.hid hsl
      clear hS7 hC7 uu hsl
      go_wp2_with fail
      go_loopw [11,13] (fun v11 v13 wr=>∃j:Nat,j<=V.length/\v13= .int .i64 (j:Int)/\v11= .int .i64 ((iL (V.take j):Nat):Int)/\Below w7.heap.size w7 wr) (fun _ v13 _=>V.length-(intOf v13).toNat)
      case atStart=>exact⟨0,Nat.zero_le _,rfl,rfl,Below.refl _ _⟩
      case round=>
       obtain⟨j,hj,rfl,rfl,hBj⟩:=hrel
       have HBj:=Lib.hid hBj
       have hst:=Si.out j
       by_cases hjl:j<V.length
       ·obtain⟨ad7,A8,c8,rfl,hcell,hle8,_⟩:=BI (Kd.bY HC7.out hBj) (j:Int) (by omega) (by omega)
        rw[gJ.rdW V j hjl,Int.toNat_natCast] at hcell
        rw[gJ.rdW V j hjl] at hle8
        have htk:=Oj V j hjl
        have hst1:=Si.out (j+1)
        have HTK:=Lib.hid htk
        have hw:wrap64 (((iL (V.take j):Nat):Int)+((V[j].length:Nat):Int))=((iL (V.take (j+1)):Nat):Int):=by rw[htk];unfold wrap64;omega
        generalize V[j]=V8 at *
        clear hBj htk
        go_wp2_with fail
        exact⟨⟨j+1,by omega,by go_num,by rw[hw],HBj.out⟩,by simp[intOf];omega⟩
       ·have hjV:V.take j=V:=List.take_of_length_le (by omega)
        have hge:¬((iL (Wf i):Nat):Int)<=((iL V:Nat):Int):=by omega
        have hBB:=HB7.out.trans (HBj.out.mono HB7.out.size)
        have HBB:=Lib.hid hBB
        have hT1:=HVW.out.2
        have hmeas:M.length+1-(T'.length+1)<M.length+1-T'.length:=by omega
        have hi1:i+1<=M.length:=hlt
        have hn2:T'.length+1=i+1+1:=by rw[hT1]
        rw[hjV]
        clear hBj hBB hst hjV
        go_wp2_with fail
        have hm:M.length+1-((i:Int)+1+1).toNat<M.length+1-((T'.length:Nat):Int).toNat:=by
         rw[hT1]
         omega
        refine⟨⟨i+1,i+1+1,hi1,Lib.hid rfl,rfl,?_,HBB.out⟩,hm⟩
        rw[HVW.out.1,hT1]
     ·have hgt:¬((n1:Int)<=(M.length:Int)):=by omega
      go_wp2_with fail
      go_ret
      exact⟨rfl,yJ.out.trans (HBr.out.mono yJ.out.size)⟩
   ·obtain⟨hM0,hS0⟩:=HX.out.1 hE
    subst hM0
    subst hS0
    have hEb:(E != 0)=true:=by simpa using hE
    unfold WS z6
    go_wp2_with fail
    go_ret
    exact⟨rfl,HB3.out.alloc HB3.out.size _⟩
 ·cases h
end Go.Proofs.YtilpincgjlclpaaGreat.Pr
