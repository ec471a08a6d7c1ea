import Derived.BigQuiet
import Derived.BigRegion
import Derived.Deep.QuietTactic
import Derived.Test.YtilpincgjlclpaaGreatB27
import Derived.Test.YtilpincgjlclpaaGreatT8
set_option linter.unusedVariables false
set_option linter.unusedSimpArgs false
namespace Go.Proofs.YtilpincgjlclpaaGreat.Pr
open Go.RowKit Bs gJ Go.Proofs.ae.au Go.Proofs.ae
theorem wC {ws:List (List ByteArray)} {cs:List Int} {i:Nat} (h:ws.length<=i\/cs.length<=i) (a b:ByteArray):tY ws cs i 0 a b=wc a b ws cs:=by
 rw[kr,lq a b i ws cs]
 have:wc a b (ws.drop i) (cs.drop i)=0:=by
  rcases h with h|h
  ·rw[List.drop_of_length_le h];simp[wc]
  ·rw[List.drop_of_length_le h];cases ws.drop i<;>simp[wc]
 omega
set_option maxHeartbeats 2000000 in
set_option maxRecDepth 100000 in
theorem xY (A0:Option Addr) (c0:Nat) (ws:List (List ByteArray)) (A1:Option Addr) (c1:Nat) (cs:List Int) (a b:ByteArray) (w:World) (hr0:Kd.C (Kd.slice 9 Kd.string) w A0 ws.length ws) (hc0:ws.length<=c0) (hr1:Kd.C (Kd.int .i64) w A1 cs.length cs) (hc1:cs.length<=c1) (hG:Hid (qP ws cs)):
  Calls Tryz.prog 49 #[.slice A0 ws.length c0,.slice A1 cs.length c1,.agg #[.string a,.string b]] w fun e w'=>e= .returned (.int .i64 (wc a b ws cs))/\Below w.heap.size w w':=by
 have gq:=Lib.hid hr0
 have HR1:=Lib.hid hr1
 clear hr0 hr1
 have hws:ws.length<=100000:=hG.out.1
 go_enter Tryz.func49,Tryz.ntmps49
 go_wp2
 go_loopw [7,8] (fun v7 v8 wr=>∃(i:Nat),i<=ws.length/\v8= .int .i64 i/\v7= .int .i64 (tY ws cs i 0 a b)/\Hid (Below w.heap.size w wr)/\Hid (wr.heap[w.heap.size]?=some (.cells #[.string a,.string b] 47 (0,0)))) (fun _ v8 _=>ws.length-(intOf v8).toNat)
 case atStart=>exact⟨0,Nat.zero_le _,rfl,by rw[FN],(Below.refl _ _).alloc (Nat.le_refl _) _,bG w _⟩
 case round=>
  obtain⟨i,hi,rfl,rfl,HB,HC⟩:=hrel
  by_cases hlt:i<ws.length
  ·by_cases hlc:i<cs.length
   ·obtain⟨ac,eC,hcc⟩:=Kd.kW HR1.out (i:Int) (by omega) (by omega)
    subst eC
    replace hcc:=(HB.out.cell (World.block_lt_of_cell? w _ hcc)).trans hcc
    rw[Int.toNat_natCast,rdI cs i hlc] at hcc
    obtain⟨c,hc⟩:∃c,c=cs[i]:=⟨_,rfl⟩
    rw[<-hc] at hcc
    have Ld:=Lib.hid hc
    clear hc
    by_cases hone:c<1
    ·go_wp2
     go_roundw
     case rel=>exact⟨i+1,by omega,by go_num,by rw[FL hlt (fun x hx=>by rw[List.getElem?_eq_getElem hlc,<-Ld.out] at hx;cases hx;exact hone)],HB,HC⟩
     case measure=>simp[intOf];omega
    ·obtain⟨ad,Aw,cw,eA,hcw,hlw,HW⟩:=BI gq.out (i:Int) (by omega) (by omega)
     subst eA
     rw[Int.toNat_natCast] at hcw
     obtain⟨wd,hwd⟩:∃wd,wd=lh ws (i:Int):=⟨_,rfl⟩
     rw[<-hwd] at hcw hlw HW
     have qU:=Lib.hid (hwd.trans (rdW ws i hlt))
     have Dq:=Lib.hid hcw
     have YP:w.cell? (ac.add i)=some (.int .i64 c):=by
      obtain⟨ac',eC',YO⟩:=Kd.kW HR1.out (i:Int) (by omega) (by omega)
      injection eC' with eC'
      subst eC'
      rw[Int.toNat_natCast,rdI cs i hlc,<-Ld.out] at YO
      exact YO
     have Dp:=Lib.hid YP
     clear hwd hcw YP
     have hwl:wd.length<=100000:=by
      rw[qU.out]
      exact Nat.le_trans (Fq _ _ (List.getElem_mem _)) hG.out.2.1
     have hci:1<=cs[i]:=by rw[<-Ld.out];omega
     go_wp2
     clear hcc
     go_loopw [7,9] (fun v7 v9 wr=>∃(j:Nat),j<=wd.length/\v9= .int .i64 j/\v7= .int .i64 (tY ws cs i j a b)/\Hid (Below w.heap.size w wr)/\Hid (wr.heap[w.heap.size]?=some (.cells #[.string a,.string b] 47 (0,0)))) (fun _ v9 _=>wd.length-(intOf v9).toNat)
     case atStart=>exact⟨0,Nat.zero_le _,rfl,rfl,HB,HC⟩
     case round=>
      obtain⟨j,hj,rfl,rfl,HB,HC⟩:=hrel
      have hcw:=(HB.out.cell (World.block_lt_of_cell? w _ Dq.out)).trans Dq.out
      have hcc:=(HB.out.cell (World.block_lt_of_cell? w _ Dp.out)).trans Dp.out
      have k0:wr.cell? ⟨w.heap.size,0,none⟩=some (.string a):=(Bs.aj HC.out 0).trans rfl
      have k1:wr.cell? ⟨w.heap.size,1,none⟩=some (.string b):=(Bs.aj HC.out 1).trans rfl
      by_cases hj1:j+1<wd.length
      ·obtain⟨aw,eW,hp⟩:=Kd.dx HW (j:Int) (by omega) (by omega)
       obtain⟨aw',PN,hq⟩:=Kd.dx HW ((j+1:Nat):Int) (by omega) (by omega)
       subst eW
       injection PN with PN
       subst PN
       replace hp:=(HB.out.cell (World.block_lt_of_cell? w _ hp)).trans hp
       replace hq:=(HB.out.cell (World.block_lt_of_cell? w _ hq)).trans hq
       rw[Int.toNat_natCast,WR wd j (by omega)] at hp
       rw[Int.toNat_natCast,WR wd (j+1) hj1] at hq
       simp only[Addr.add,Nat.add_eq_zero_iff,Nat.one_ne_zero,and_false,if_false] at hq
       have hstep:=FM hlt hlc (show j+1<ws[i].length by rw[<-qU.out];exact hj1) a b
       have hb1:=rV (j:=j) hlt hlc hci a b
       have hb2:=rV (j:=j+1) hlt hlc hci a b
       have hwt:=Ux a b ws cs
       have hgt:=hG.out.2.2.2.2
       have ep:ws[i][j]'(by rw[<-qU.out];omega)=wd[j]:=by simp only[qU.out]
       have eq:ws[i][j+1]'(by rw[<-qU.out];exact hj1)=wd[j+1]:=by simp only[qU.out]
       rw[ep,eq,<-Ld.out] at hstep
       obtain⟨p,hpe⟩:∃p,p=wd[j]:=⟨_,rfl⟩
       obtain⟨q,hqe⟩:∃q,q=wd[j+1]:=⟨_,rfl⟩
       rw[<-hpe] at hp hstep
       rw[<-hqe] at hq hstep
       have i0:(0:Int)<=(i:Int):=by omega
       have i1:(i:Int)<(ws.length:Int):=by omega
       have i2:(0:Int)<=(j:Int):=by omega
       have i3:(j:Int)<(wd.length:Int):=by omega
       have i4:(j:Int)+1<(wd.length:Int):=by omega
       by_cases ha:p=a
       ·have ha1:(p.toList==a.toList)=true:=by simp[ha]
        by_cases hb:q=b
        ·have hb1':(q.toList==b.toList)=true:=by simp[hb]
         rw[if_pos ⟨ha,hb⟩] at hstep
         have HS:=Lib.hid hstep
         have hsum:tY ws cs i j a b+c<=9223372036854775807:=by omega
         have hnn:=hb1.1
         obtain⟨x,hx⟩:∃x,x=tY ws cs i j a b:=⟨_,rfl⟩
         rw[<-hx] at hsum hnn ⊢
         have HX:=Lib.hid hx
         clear hstep hb1 hb2 hwt hgt hx ep eq hpe hqe ha hb
         go_wp2
         go_quiet (fail)
         go_wp2
         go_roundw
         case rel=>exact⟨j+1,by omega,by go_num,by rw[HS.out,HX.out],by apply af;exact HB.out,HC.out⟩
         case measure=>simp[intOf];omega
        ·have hb1':(q.toList==b.toList)=false:=by rw[beq_eq_false_iff_ne];exact fun e=>hb (iG.1 e)
         rw[if_neg (fun h=>hb h.2),Int.add_zero] at hstep
         have HS:=Lib.hid hstep
         clear hstep hb1 hb2 hwt hgt ep eq hpe hqe ha hb
         go_wp2
         go_quiet (fail)
         go_wp2
         go_roundw
         case rel=>exact⟨j+1,by omega,by go_num,by rw[HS.out],by apply af;exact HB.out,HC.out⟩
         case measure=>simp[intOf];omega
       ·have ha1:(p.toList==a.toList)=false:=by rw[beq_eq_false_iff_ne];exact fun e=>ha (iG.1 e)
        rw[if_neg (fun h=>ha h.1),Int.add_zero] at hstep
        have HS:=Lib.hid hstep
        clear hstep hb1 hb2 hwt hgt ep eq hpe hqe ha
        go_wp2
        go_quiet (fail)
        go_wp2
        go_roundw
        case rel=>exact⟨j+1,by omega,by go_num,by rw[HS.out],by apply af;exact HB.out,HC.out⟩
        case measure=>simp[intOf];omega
      ·go_wp2
       go_roundw
       case rel=>exact⟨i+1,by omega,by go_num,by rw[FK (j:=j) hlt hlc hci (by rw[<-qU.out];omega)],HB,HC⟩
       case measure=>simp[intOf];omega
   ·go_wp2
    go_ret
    exact⟨by rw[wC (.inr (by omega))];rfl,HB.out⟩
  ·go_wp2
   go_ret
   exact⟨by rw[wC (.inl (by omega))];rfl,HB.out⟩
theorem RF {x:eu} {p q:ByteArray} (h:(((x.f0).toList)==p.toList&&((x.f1).toList)==q.toList)=true):x=⟨p,q⟩:=by
 simp only[Bool.and_eq_true,beq_iff_eq,iG] at h
 cases x
 simp only at h
 rw[h.1,h.2]
theorem RG {x:eu} {p q:ByteArray} (h:(((x.f0).toList)==p.toList&&((x.f1).toList)==q.toList)=false):x≠⟨p,q⟩:=fun e=>by
 subst e
 simp at h
theorem rdS (l:List eu) (i:Nat) (h:i<l.length):bM l (i:Int)=l[i]:=by
 unfold bM
 rw[Int.toNat_natCast]
 simp[h]
theorem eqM (d:Nat) (w:World) (x0 y0:ByteArray) (x1 y1:ByteArray):
  (Op.equalIn (d+2) 47 (.agg #[.string x0,.string x1]) (.agg #[.string y0,.string y1])).run Tryz.prog w= .ok (x0.toList==y0.toList&&(x1.toList==y1.toList)) w:=by
 refine AQ Tryz.underlying47 (by kernel_rfl) ?_
 refine ru (by rfl) (by go_simp;rfl) (by go_simp;rfl) (by go_simp) ?_
 exact ry (by rfl) (by go_simp;rfl) (by go_simp;rfl) (by go_simp)
theorem Zj:(Tryz.prog.info? 47).map (fun i=>(i.zero,i.size,i.bytes))=some (some (.agg #[.string ⟨#[]⟩,.string ⟨#[]⟩]),2,32):=by kernel_rfl
structure RB (w:World) (ws:List (List ByteArray)) (cs:List Int) (wr:World) (v:Value) (seen:List eu) (most:Int) (L R:ByteArray):Prop where
 own:Kd.R qj 47 wr w.heap.size (fun k=>k≠w.heap.size/\k≠w.heap.size+1) v seen
 res:wr.heap[w.heap.size]?=some (.cells #[.string ⟨#[]⟩,.string ⟨#[]⟩] 47 (0,0))
 box:wr.heap[w.heap.size+1]?=some (.cells #[.string L,.string R] 47 (0,0))
 oJ:Below w.heap.size w wr
 inv:Inv ws cs seen most L R
section
variable {w wr w':World} {ws:List (List ByteArray)} {cs:List Int} {v:Value} {seen:List eu} {most:Int} {L R:ByteArray}
theorem RB.below (h:RB w ws cs wr v seen most L R) (hb:Below wr.heap.size wr w'):RB w ws cs w' v seen most L R:=
 ⟨Kd.ja h.own hb,(hb.block _ (Bs.bA h.res)).trans h.res,(hb.block _ (Bs.bA h.box)).trans h.box,h.oJ.trans (hb.mono h.oJ.size),h.inv⟩
theorem RB.lt (h:RB w ws cs wr v seen most L R):w.heap.size+1<wr.heap.size:=Bs.bA h.box
end
structure RC (w wr:World) (v:Value) (seen:List eu) (L R:ByteArray) (gm:Nat) (p q:ByteArray):Prop where
 own:Kd.R qj 47 wr w.heap.size (fun k=>k≠w.heap.size/\k≠w.heap.size+1) v seen
 res:wr.heap[w.heap.size]?=some (.cells #[.string ⟨#[]⟩,.string ⟨#[]⟩] 47 (0,0))
 box:wr.heap[w.heap.size+1]?=some (.cells #[.string L,.string R] 47 (0,0))
 oJ:Below w.heap.size w wr
 mm:wr.heap[gm]?=some (.cells #[.string p,.string q] 47 (0,0))
theorem RC.below {w wr w':World} {v:Value} {seen:List eu} {L R:ByteArray} {gm:Nat} {p q:ByteArray} (h:RC w wr v seen L R gm p q) (hb:Below wr.heap.size wr w'):RC w w' v seen L R gm p q:=
 ⟨Kd.ja h.own hb,(hb.block _ (Bs.bA h.res)).trans h.res,(hb.block _ (Bs.bA h.box)).trans h.box,h.oJ.trans (hb.mono h.oJ.size),(hb.block _ (Bs.bA h.mm)).trans h.mm⟩
theorem RC.same {w wr:World} {ws:List (List ByteArray)} {cs:List Int} {v:Value} {seen:List eu} {most:Int} {L R:ByteArray} {gm:Nat} {p q:ByteArray} (h:RC w wr v seen L R gm p q) (hi:Inv ws cs seen most L R):RB w ws cs wr v seen most L R:=⟨h.own,h.res,h.box,h.oJ,hi⟩
theorem RC.over {w wr:World} {ws:List (List ByteArray)} {cs:List Int} {v:Value} {seen:List eu} {n:Int} {L R:ByteArray} {gm:Nat} {p q:ByteArray} (h:RC w wr v seen L R gm p q) (hi:Inv ws cs seen n p q):
  RB w ws cs ((wr.setCell ⟨w.heap.size+1,0,none⟩ (.string p)).setCell ⟨w.heap.size+1,1,none⟩ (.string q)) v seen n p q:=
 ⟨Kd.mi (p:=⟨w.heap.size+1,1,none⟩) (Kd.mi (p:=⟨w.heap.size+1,0,none⟩) h.own (fun _ hk=>hk.2) _) (fun _ hk=>hk.2) _,
  Bs.dI (Bs.dI h.res (p:=⟨w.heap.size+1,0,none⟩) (by simp) _) (p:=⟨w.heap.size+1,1,none⟩) (by simp) _,heap_set (heap_set h.box 0 (.string p)) 1 (.string q),
  (h.oJ.setCell (p:=⟨w.heap.size+1,0,none⟩) (by simp) _).setCell (p:=⟨w.heap.size+1,1,none⟩) (by simp) _,hi⟩
set_option maxHeartbeats 4000000 in
set_option maxRecDepth 100000 in
theorem yw (A0:Option Addr) (c0:Nat) (ws:List (List ByteArray)) (A1:Option Addr) (c1:Nat) (cs:List Int) (r1:ByteArray) (r2:ByteArray) (r3:Int) (w:World) (hr0:Kd.C (Kd.slice 9 Kd.string) w A0 ws.length ws) (hc0:ws.length<=c0) (hr1:Kd.C (Kd.int .i64) w A1 cs.length cs) (hc1:cs.length<=c1)
  (hG:Hid (qP ws cs)) (hI:Hid (gU ws cs r1 r2 r3)):
  Calls Tryz.prog 16 #[.slice A0 ws.length c0,.slice A1 cs.length c1] w fun e w'=>e= .returned (.tuple #[.agg #[.string r1,.string r2],.int .i64 r3])/\Below w.heap.size w w':=by
 have gq:=Lib.hid hr0
 have HR1:=Lib.hid hr1
 clear hr0 hr1
 have hws:ws.length<=100000:=hG.out.1
 have hrm:rem ws<=100000:=hG.out.2.1
 have heq:=eqM
 go_enter Tryz.func16,Tryz.ntmps16
 go_wp2
 go_loopw [7,8,9] (fun v7 v8 v9 wr=>∃(i:Nat) (seen:List eu) (most:Int) (L R:ByteArray),i<=ws.length/\v9= .int .i64 i/\v7= .int .i64 most/\RB w ws cs wr v8 seen most L R/\Hid (Cg ws cs seen i 0)/\seen.length+rem (ws.drop i)<=rem ws) (fun _ _ v9 _=>ws.length-(intOf v9).toNat)
 case atStart=>exact⟨0,[],0,⟨#[]⟩,⟨#[]⟩,Nat.zero_le _,rfl,rfl,⟨Kd.jM _ _ _ _ _,Bs.dw (Bs.bG w _) _,by have:=Bs.bG (w.alloc (.cells #[.string ⟨#[]⟩,.string ⟨#[]⟩] 47)) (.cells #[.string ⟨#[]⟩,.string ⟨#[]⟩] 47);rw[World.size_alloc] at this;exact this,((Below.refl _ _).alloc (Nat.le_refl _) _).alloc (by simp) _,⟨by decide,by decide,.inl ⟨rfl,rfl,rfl,rfl⟩,by simp⟩⟩,fun i' w c j' p q _ _ _ _ _ h=>by omega,by simp⟩
 case round=>
  obtain⟨i,seen,most,L,R,hi,rfl,rfl,HS,Pm,hsl⟩:=hrel
  by_cases hin:i<ws.length/\i<cs.length
  ·obtain⟨hlt,hlc⟩:=hin
   have i0:(0:Int)<=(i:Int):=by omega
   have i1:(i:Int)<(ws.length:Int):=by omega
   obtain⟨ac,eC,hcc⟩:=Kd.kW HR1.out (i:Int) (by omega) (by omega)
   subst eC
   rw[Int.toNat_natCast,rdI cs i hlc] at hcc
   obtain⟨c,hc⟩:∃c,c=cs[i]:=⟨_,rfl⟩
   rw[<-hc] at hcc
   have Ld:=Lib.hid hc
   have Dp:=Lib.hid hcc
   obtain⟨ad,Aw,cw,eA,hcw,hlw,HW⟩:=BI gq.out (i:Int) (by omega) (by omega)
   subst eA
   rw[Int.toNat_natCast] at hcw
   obtain⟨wd,hwd⟩:∃wd,wd=lh ws (i:Int):=⟨_,rfl⟩
   rw[<-hwd] at hcw hlw HW
   have qU:=Lib.hid (hwd.trans (rdW ws i hlt))
   have Dq:=Lib.hid hcw
   clear hwd hcw hc hcc
   have hwl:wd.length<=100000:=by
    rw[qU.out]
    exact Nat.le_trans (Fq _ _ (List.getElem_mem _)) hrm
   go_wp2
   go_loopw [7,8,10] (fun v7 v8 v10 wr=>∃(j:Nat) (seen:List eu) (most:Int) (L R:ByteArray),j<=wd.length/\v10= .int .i64 j/\v7= .int .i64 most/\RB w ws cs wr v8 seen most L R/\Hid (Cg ws cs seen i j)/\seen.length+rem (ws.drop i)<=rem ws+j) (fun _ _ v10 _=>wd.length-(intOf v10).toNat)
   case atStart=>exact⟨0,seen,most,L,R,Nat.zero_le _,rfl,rfl,HS,Pm,by omega⟩
   case round=>
    clear HS Pm hsl
    obtain⟨j,seen,most,L,R,hj,rfl,rfl,HS,Pm,hsl⟩:=hrel
    have hcw:=(HS.oJ.cell (World.block_lt_of_cell? w _ Dq.out)).trans Dq.out
    have hcc:=(HS.oJ.cell (World.block_lt_of_cell? w _ Dp.out)).trans Dp.out
    by_cases hin2:j+1<wd.length/\1<=c
    ·obtain⟨hj1,hone⟩:=hin2
     obtain⟨aw,eW,hp⟩:=Kd.dx HW (j:Int) (by omega) (by omega)
     obtain⟨aw',PN,hq⟩:=Kd.dx HW ((j+1:Nat):Int) (by omega) (by omega)
     subst eW
     injection PN with PN
     subst PN
     replace hp:=(HS.oJ.cell (World.block_lt_of_cell? w _ hp)).trans hp
     replace hq:=(HS.oJ.cell (World.block_lt_of_cell? w _ hq)).trans hq
     rw[Int.toNat_natCast,WR wd j (by omega)] at hp
     rw[Int.toNat_natCast,WR wd (j+1) hj1] at hq
     simp only[Addr.add,Nat.add_eq_zero_iff,Nat.one_ne_zero,and_false,if_false] at hq
     have hzw:∀s∈wd,s.size<=1000000:=hG.out.2.2.1 wd (by rw[qU.out];exact List.getElem_mem _)
     obtain⟨p,hpe⟩:∃p,p=wd[j]:=⟨_,rfl⟩
     obtain⟨q,hqe⟩:∃q,q=wd[j+1]:=⟨_,rfl⟩
     have hps:p.size<=1000000:=hpe▸hzw _ (List.getElem_mem _)
     have hqs:q.size<=1000000:=hqe▸hzw _ (List.getElem_mem _)
     rw[<-hpe] at hp
     rw[<-hqe] at hq
     have g1:ws[i][j]'(by rw[<-qU.out];omega)=p:=by rw[hpe];simp only[qU.out]
     have g2:ws[i][j+1]'(by rw[<-qU.out];exact hj1)=q:=by rw[hqe];simp only[qU.out]
     have G1:=Lib.hid g1
     have G2:=Lib.hid g2
     clear hpe hqe g1 g2
     have i2:(0:Int)<=(j:Int):=by omega
     have i3:(j:Int)<(wd.length:Int):=by omega
     have i4:(j:Int)+1<(wd.length:Int):=by omega
     have hba:=(Below.refl wr.heap.size wr).alloc (Nat.le_refl _) (.cells #[.string ⟨#[]⟩,.string ⟨#[]⟩] 47)
     have hcw2:=(hba.cell (World.block_lt_of_cell? wr _ hcw)).trans hcw
     have hp2:=(hba.cell (World.block_lt_of_cell? wr _ hp)).trans hp
     have hq2:=(hba.cell (World.block_lt_of_cell? wr _ hq)).trans hq
     have i5:IntKind.i64.wrap ((j:Int)+1)=(j:Int)+1:=by unfold IntKind.wrap;simp[IntKind.signed,IntKind.bits];omega
     clear hba
     go_wp2
     go_region
     clear hcw hcc hp hq hcw2 hp2 hq2 i5
     obtain⟨A8,c8,e8⟩:=Kd.gL HS.own
     subst e8
     have hsl2:seen.length<=1000000:=by omega
     have Xk:=Lib.hid (Kd.AJ HS.own)
     have hlt1:=HS.lt
     obtain⟨gm,hgm⟩:∃gm,gm=wr.heap.size:=⟨_,rfl⟩
     have HGM:=Lib.hid hgm
     rw[<-hgm] at Xk hlt1
     have hW1:Below wr.heap.size wr (wr.alloc (.cells #[.string p,.string q] 47)).drew:=((Below.refl _ _).alloc (Nat.le_refl _) _).drew
     have Du:=Lib.hid (HS.below hW1)
     have uG:=Lib.hid (show(wr.alloc (.cells #[.string p,.string q] 47)).drew.heap[gm]?=some (.cells #[.string p,.string q] 47 (0,0)) from by rw[hgm];exact Bs.bG wr _)
     clear hW1
     go_wp2
     rw[<-hgm]
     clear hgm
     go_loopw [12,13] (fun v12 v13 wl=>∃(t:Nat) (old:Bool),t<=seen.length/\v13= .int .i64 t/\v12= .bool old/\Hid (old=true->(⟨p,q⟩:eu)∈seen)/\Hid (old=false->(⟨p,q⟩:eu)∉seen.take t)/\RB w ws cs wl (.slice A8 seen.length c8) seen most L R/\Hid (wl.heap[gm]?=some (.cells #[.string p,.string q] 47 (0,0)))) (fun _ v13 _=>seen.length-(intOf v13).toNat)
     case atStart=>exact⟨0,false,Nat.zero_le _,rfl,rfl,(fun h=>by cases h),(fun _=>by simp),Du.out,uG.out⟩
     case round=>
      clear HS Du uG
      obtain⟨t,old,ht,rfl,rfl,HO1,HO2,HS,HM⟩:=hrel
      have m0:wr.cell? ⟨gm,0,none⟩=some (.string p):=(Bs.aj HM.out 0).trans rfl
      have m1:wr.cell? ⟨gm,1,none⟩=some (.string q):=(Bs.aj HM.out 1).trans rfl
      cases old with
      |true=>
       have hmem:=HO1.out rfl
       have rZ:=Lib.hid (Pm.out.step hlt (show j+1<ws[i].length by rw[<-qU.out];exact hj1) (by rw[G1.out,G2.out];exact hmem))
       clear hmem
       by_cases htl:t<seen.length
       all_goals
        go_wp2
        go_roundw
        case rel=>exact⟨j+1,seen,most,L,R,by omega,by go_num,rfl,HS,rZ.out,by omega⟩
        case measure=>simp[intOf];omega
      |false=>
       by_cases htl:t<seen.length
       ·obtain⟨as1,eS,hx0,hx1⟩:=jm (Kd.dP HS.own).2.2 (t:Int) (by omega) (by omega)
        subst eS
        rw[Int.toNat_natCast,rdS seen t htl] at hx0 hx1
        obtain⟨x,hx⟩:∃x,x=seen[t]:=⟨_,rfl⟩
        rw[<-hx] at hx0 hx1
        have HX:=Lib.hid hx
        clear hx
        have i6:(0:Int)<=(t:Int):=by omega
        have i7:(t:Int)<(seen.length:Int):=by omega
        go_wp2
        go_quiet (fail)
        go_wp2
        go_roundw
        case rel=>exact⟨t+1,(x.f0.toList==p.toList&&(x.f1.toList==q.toList)),by omega,by go_num,rfl,fun h=>by rw[<-RF h,HX.out];exact List.getElem_mem _,fun h=>by
         rw[List.take_succ_eq_append_getElem htl]
         intro hm
         rcases List.mem_append.1 hm with hm|hm
         ·exact HO2.out (by first|exact rfl|trivial) hm
         ·rw[<-HX.out] at hm;exact RG h (List.mem_singleton.1 hm).symm,HS.below (by apply af;exact Below.refl _ _),HM.out⟩
        case measure=>simp[intOf];omega
       ·have hnm:(⟨p,q⟩:eu)∉seen:=by have:=HO2.out (by first|exact rfl|trivial);rwa[List.take_of_length_le (by omega)] at this
        have HNM:=Lib.hid hnm
        clear hnm HO1 HO2
        have hBs:=HS.oJ.size
        have Jo:=Lib.hid HS.own
        have hLt:=HS.lt
        go_wp2_with (at_builtin;refine Kd.bT qj (w0:=w) w.heap.size rfl (.tmp 79) (.tmp 81) 27 47 (.agg #[.string ⟨#[]⟩,.string ⟨#[]⟩]) 32 rfl Tryz.underlying27 Zj rfl (by decide) (by omega) (.slice A8 seen.length c8) seen (⟨p,q⟩:eu) [.string p,.string q] (fun k=>k≠w.heap.size/\k≠w.heap.size+1) (fun _=>False) rfl rfl ?aP (fun _ hk=>hk.elim) ?aF ?aO ?aB ?aS ?aL ?_)
        case aP=>exact Db _ _ _ (⟨p,q⟩:eu)
        case aF=>intro k hk;omega
        case aO=>exact Jo.out
        case aB=>exact HS.oJ
        case aS=>exact hBs
        case aL=>omega
        intro v8 w5 ho hb hg hat
        have Xt:=Lib.hid (RC.mk (gm:=gm) (p:=p) (q:=q) ho ((hg.block _ (Bs.bA HS.res) (Kd.AB Jo.out (fun _ hk=>hk.1))).trans HS.res) ((hg.block _ (Bs.bA HS.box) (Kd.AB Jo.out (fun _ hk=>hk.2))).trans HS.box) hb ((hg.block _ (Bs.bA HM.out) (fun e=>by have:=Xk.out gm e.symm;omega)).trans HM.out))
        clear ho hb hg hat m0 m1
        have q0:w5.cell? ⟨gm,0,none⟩=some (.string p):=(Bs.aj Xt.out.mm 0).trans rfl
        have q1:w5.cell? ⟨gm,1,none⟩=some (.string q):=(Bs.aj Xt.out.mm 1).trans rfl
        obtain⟨n,hn⟩:∃n,n=wc p q ws cs:=⟨_,rfl⟩
        have hcnt:=fun W (h:Below w.heap.size w W)=>xY (some ad) c0 ws (some ac) c1 cs p q W (Kd.bY gq.out h) hc0 (Kd.bY HR1.out h) hc1 hG
        rw[<-hn] at hcnt
        have HN:=Lib.hid hn
        have Xe:=Lib.hid hcnt
        clear hn hcnt
        go_upto_region 18 with(go_at_call 49;refine(Xe.out _ Xt.out.oJ).mono ?_;rintro e w6 ⟨rfl,hb6⟩;have uL:=Lib.hid (Xt.out.below hb6);clear hb6)
        have hn1:1<=n:=by
         rw[HN.out]
         exact wc_of i ws[i] cs[i] (List.getElem?_eq_getElem hlt) (List.getElem?_eq_getElem hlc) (by rw[<-Ld.out];exact hone) (ZU j (by rw[List.getElem?_eq_getElem (by rw[<-qU.out];omega),G1.out]) (by rw[List.getElem?_eq_getElem (by rw[<-qU.out];exact hj1),G2.out]))
        have rZ:=Lib.hid ((Pm.out.mono (x:=⟨p,q⟩)).step hlt (show j+1<ws[i].length by rw[<-qU.out];exact hj1) (by rw[G1.out,G2.out];simp))
        have xH:(seen++[(⟨p,q⟩:eu)]).length+rem (ws.drop i)<=rem ws+(j+1):=by rw[List.length_append,List.length_singleton];omega
        have yK:=Lib.hid xH
        have UT:=Lib.hid HS.inv
        clear Xt Xe q0 q1 xH Jo HS HM
        go_cut [15] (fun v15 wc=>v15= .bool (lp p q L R)/\RC w wc v8 (seen++[⟨p,q⟩]) L R gm p q)
        case first=>
         have q0:w6.cell? ⟨gm,0,none⟩=some (.string p):=(Bs.aj uL.out.mm 0).trans rfl
         have q1:w6.cell? ⟨gm,1,none⟩=some (.string q):=(Bs.aj uL.out.mm 1).trans rfl
         have b0:w6.cell? ⟨w.heap.size+1,0,none⟩=some (.string L):=(Bs.aj uL.out.box 0).trans rfl
         have b1:w6.cell? ⟨w.heap.size+1,1,none⟩=some (.string R):=(Bs.aj uL.out.box 1).trans rfl
         have hf1:bI.f p L=some (dS (tx p) (tx L)):=by rw[bI.f,if_pos ⟨hps,UT.out.sl⟩];rfl
         have hf2:bI.f q R=some (dS (tx q) (tx R)):=by rw[bI.f,if_pos ⟨hqs,UT.out.sr⟩];rfl
         have hl1:=fun W=>bI.calls p L _ W hf1
         have hl2:=fun W=>bI.calls q R _ W hf2
         have hlp:lp p q L R=(dS (tx p) (tx L)||(decide (p=L)&&dS (tx q) (tx R))):=rfl
         obtain⟨x1,hx1⟩:∃x,x=dS (tx p) (tx L):=⟨_,rfl⟩
         obtain⟨x2,hx2⟩:∃x,x=dS (tx q) (tx R):=⟨_,rfl⟩
         obtain⟨y,hy⟩:∃y,y=lp p q L R:=⟨_,rfl⟩
         rw[<-hx1] at hl1 hlp
         rw[<-hx2] at hl2 hlp
         rw[<-hy] at hlp
         have HY0:=Lib.hid hy
         have Dr:=Lib.hid hl1
         have HL2:=Lib.hid hl2
         clear hf1 hf2 hl1 hl2 hx1 hx2 hy
         have hne:∀b:Bool,decide (p=L)=b->(p.toList==L.toList)=b:=fun b hb=>by rw[<-hb];by_cases e:p=L<;>simp[e,iG]
         cases x1 with
         |true=>
          have vJ:y=true:=by rw[hlp];rfl
          have Xi:=Lib.hid vJ
          clear hlp vJ hne
          go_wp2_with (go_at_call 50;refine(Dr.out _).mono ?_;rintro e w7 ⟨rfl,qn,rfl⟩)
          go_meet
          case rel=>exact⟨by rw[<-HY0.out,Xi.out],uL.out.below (af (Below.refl _ _) _)⟩
         |false=>
          by_cases he:p=L
          ·have he1:=hne true (by simp[he])
           have vJ:y=x2:=by rw[hlp];simp[he]
           have Xi:=Lib.hid vJ
           clear hlp vJ hne he
           go_wp2_with (first|(go_at_call 50;((with_reducible refine(Dr.out _).mono ?_);rintro e w7 ⟨rfl,qn,rfl⟩))|(go_at_call 50;((with_reducible refine(HL2.out _).mono ?_);rintro e w8 ⟨rfl,qm,rfl⟩)))
           go_meet
           case rel=>exact⟨by rw[<-HY0.out,Xi.out],uL.out.below (af (Below.refl _ _) _)⟩
          ·have he1:=hne false (by simp[he])
           have vJ:y=false:=by rw[hlp];simp[he]
           have Xi:=Lib.hid vJ
           clear hlp vJ hne he
           go_wp2_with (go_at_call 50;refine(Dr.out _).mono ?_;rintro e w7 ⟨rfl,qn,rfl⟩)
           go_meet
           case rel=>exact⟨by rw[<-HY0.out,Xi.out],uL.out.below (af (Below.refl _ _) _)⟩
        case rest=>
         obtain⟨rfl,Au⟩:=hcut
         clear uL
         have q0:wc.cell? ⟨gm,0,none⟩=some (.string p):=(Bs.aj Au.mm 0).trans rfl
         have q1:wc.cell? ⟨gm,1,none⟩=some (.string q):=(Bs.aj Au.mm 1).trans rfl
         have b0:wc.cell? ⟨w.heap.size+1,0,none⟩=some (.string L):=(Bs.aj Au.box 0).trans rfl
         have b1:wc.cell? ⟨w.heap.size+1,1,none⟩=some (.string R):=(Bs.aj Au.box 1).trans rfl
         have f0:wc.frozen? ⟨w.heap.size+1,0,none⟩=false:=Bs.aX Au.box 0
         have f1:wc.frozen? ⟨w.heap.size+1,1,none⟩=false:=Bs.aX Au.box 1
         obtain⟨y,hy⟩:∃y,y=lp p q L R:=⟨_,rfl⟩
         rw[<-hy]
         have HY:=Lib.hid hy
         clear hy
         by_cases hgt:most<n
         ·have FZ:=Lib.hid (UT.out.new HN.out hn1 hps hqs (.inl hgt))
          go_wp2
          go_roundw
          case rel=>exact⟨j+1,seen++[(⟨p,q⟩:eu)],n,p,q,by omega,by go_num,rfl,Au.over FZ.out,rZ.out,yK.out⟩
          case measure=>simp[intOf];omega
         ·by_cases heq2:n=most
          ·cases y with
           |true=>
            have FZ:=Lib.hid (UT.out.new HN.out hn1 hps hqs (.inr ⟨heq2,HY.out.symm⟩))
            have hb2:(n==most)=true:=by simp[heq2]
            subst heq2
            go_wp2
            go_roundw
            case rel=>exact⟨j+1,seen++[(⟨p,q⟩:eu)],n,p,q,by omega,by go_num,rfl,Au.over FZ.out,rZ.out,yK.out⟩
            case measure=>simp[intOf];omega
           |false=>
            have FZ:=Lib.hid (UT.out.old HN.out hn1 (fun h=>h.elim hgt (fun h=>by rw[<-HY.out] at h;cases h.2)))
            subst heq2
            go_wp2
            go_roundw
            case rel=>exact⟨j+1,seen++[(⟨p,q⟩:eu)],n,L,R,by omega,by go_num,rfl,Au.same FZ.out,rZ.out,yK.out⟩
            case measure=>simp[intOf];omega
          ·have FZ:=Lib.hid (UT.out.old HN.out hn1 (fun h=>h.elim hgt (fun h=>heq2 h.1)))
           have hb2:(n==most)=false:=by simpa using heq2
           go_wp2
           go_roundw
           case rel=>exact⟨j+1,seen++[(⟨p,q⟩:eu)],most,L,R,by omega,by go_num,rfl,Au.same FZ.out,rZ.out,yK.out⟩
           case measure=>simp[intOf];omega
    ·have rZ:Hid (Cg ws cs seen (i+1) 0):=Pm.out.next fun w' c' h1 h2 h3=>by
      rw[List.getElem?_eq_getElem hlt] at h1
      rw[List.getElem?_eq_getElem hlc] at h2
      injection h1 with h1
      injection h2 with h2
      have YR:=Ld.out
      rw[h2] at YR
      by_cases hq1:j+1<wd.length
      ·exact absurd ⟨hq1,by rw[YR];exact h3⟩ hin2
      ·rw[<-h1,<-qU.out];omega
     have hrd:=Fp ws i hlt
     rw[<-qU.out] at hrd
     by_cases hj1:j+1<wd.length
     ·have hone:c<1:=by
       by_cases h:c<1
       ·exact h
       ·exact absurd ⟨hj1,by omega⟩ hin2
      go_wp2
      go_roundw
      case rel=>exact⟨i+1,seen,most,L,R,by omega,by go_num,rfl,HS,rZ,by omega⟩
      case measure=>simp[intOf];omega
     ·go_wp2
      go_roundw
      case rel=>exact⟨i+1,seen,most,L,R,by omega,by go_num,rfl,HS,rZ,by omega⟩
      case measure=>simp[intOf];omega
  ·have Xf:=Lib.hid ((HS.inv.end Pm.out (by omega)).same hI.out)
   have b0:wr.cell? ⟨w.heap.size+1,0,none⟩=some (.string L):=(Bs.aj HS.box 0).trans rfl
   have b1:wr.cell? ⟨w.heap.size+1,1,none⟩=some (.string R):=(Bs.aj HS.box 1).trans rfl
   have d0:wr.cell? ⟨w.heap.size,0,none⟩=some (.string ⟨#[]⟩):=(Bs.aj HS.res 0).trans rfl
   have d1:wr.cell? ⟨w.heap.size,1,none⟩=some (.string ⟨#[]⟩):=(Bs.aj HS.res 1).trans rfl
   have f0:wr.frozen? ⟨w.heap.size,0,none⟩=false:=Bs.aX HS.res 0
   have f1:wr.frozen? ⟨w.heap.size,1,none⟩=false:=Bs.aX HS.res 1
   have hB:=HS.oJ
   by_cases hlt:i<ws.length
   all_goals
    go_wp2
    have h8:=Xf.out
    obtain⟨rfl,rfl,rfl⟩:=h8
    exact bodyPost_ret (v:= .tuple #[.agg #[.string L,.string R],.int .i64 most]) (by simp[results,Tryz.results16,go_sem,d0,d1]) rfl ⟨rfl,(HS.oJ.setCell (p:=⟨w.heap.size,0,none⟩) (Nat.le_refl _) _).setCell (p:=⟨w.heap.size,1,none⟩) (Nat.le_refl _) _⟩
theorem fw.calls (A0:Option Addr) (c0:Nat) (l0:List (List ByteArray)) (A1:Option Addr) (c1:Nat) (l1:List Int) (r1:ByteArray) (r2:ByteArray) (r3:Int) (w:World) (hr0:Kd.C (Kd.slice 9 Kd.string) w A0 l0.length l0) (hc0:l0.length<=c0) (hr1:Kd.C (Kd.int .i64) w A1 l1.length l1) (hc1:l1.length<=c1) (h:fw.f l0 l1=some (r1,r2,r3)):
  Calls Tryz.prog 16 #[.slice A0 l0.length c0,.slice A1 l1.length c1] w fun e w'=>e= .returned (.tuple #[.agg #[.string r1,.string r2],.int .i64 r3])/\Below w.heap.size w w':=by
 unfold fw.f at h
 by_cases hg:qP l0 l1
 ·rw[if_pos hg] at h
  injection h with h
  have hb:=DI (ws:=l0) (cs:=l1) hg.2.2.1
  rw[h] at hb
  exact yw A0 c0 l0 A1 c1 l1 r1 r2 r3 w hr0 hc0 hr1 hc1 (Lib.hid hg) (Lib.hid hb)
 ·rw[if_neg hg] at h
  cases h
end Go.Proofs.YtilpincgjlclpaaGreat.Pr
