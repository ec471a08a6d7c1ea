import Derived.Test.YtilpincgjlclpaaGreatU2
set_option linter.unusedVariables false
set_option linter.unusedSimpArgs false
namespace Go.Proofs.YtilpincgjlclpaaGreat.Pr
open Go.RowKit Go.Proofs.ae.au Go.Proofs.ae.aZ Go.Proofs.ae.bE
attribute [local go_sem] bQ min2_int cB min_two max_three min_three max_four min_four
def ik.l0:Nat->Int->List Int->Int->Int->Int->Int->Int->Int->Int->Int->Option (Bool)
 |0,_,_,_,_,_,_,_,_,_,_=>none
 |k+1,x1,x19,x20,x21,Dj,Lb,Lc,UN,UO,x598005=>if x21<x20 then(if 0<=x21 then(if x21<(x19.length:Int) then(if(rd x19 x21)<0 then(some false) else(ik.l0 k x1 x19 x20 (wrap64 (x21+1)) Dj Lb Lc UN UO x598005)) else(none)) else(none)) else(if Lb<=x1 then(if Lb<=Dj then(if(wrap64 (Int.tdiv (wrap64 (Lc+4)) 5))<=Dj then(if(wrap64 (Int.tdiv (wrap64 (UO+3)) 5))<=Dj then(some (decide (UN<=Lc))) else(some false)) else(some false)) else(some false)) else(some false))
def ik.f (k:Nat) (eB:Int) (fo:Int) (ed:Int) (iX:Int) (iP:Int) (jw:Int) (a1:Int):Option (Bool):=(some (([eB,fo,ed,iX,iP,jw]:List Int):List Int)).bind fun qz=>(ik.l0 k a1 qz (qz.length:Int) 0 eB fo ed iX iP jw)
set_option maxHeartbeats 8000000 in
set_option maxRecDepth 100000 in
theorem ik.calls (k:Nat) (eB:Int) (fo:Int) (ed:Int) (iX:Int) (iP:Int) (jw:Int) (a1:Int) (r:Bool) (w:World) (h:ik.f k eB fo ed iX iP jw a1=some r):
  Calls Tryz.prog 29 #[.agg #[.int .i64 eB,.int .i64 fo,.int .i64 ed,.int .i64 iX,.int .i64 iP,.int .i64 jw],.int .i64 a1] w fun e w'=>e= .returned (.bool r)/\Below w.heap.size w w':=by
 have hu29:=Tryz.underlying29
 have HB:=ai.mk (Below.refl w.heap.size w)
 have H:((some (([eB,fo,ed,iX,iP,jw]:List Int):List Int)).bind fun qz=>(ik.l0 k a1 qz (qz.length:Int) 0 eB fo ed iX iP jw))=some r:=h
 clear h
 obtain⟨qz,Nj⟩:∃y_:List Int,y_=(([eB,fo,ed,iX,iP,jw]:List Int)):=⟨_,rfl⟩
 replace H:(ik.l0 k a1 qz (qz.length:Int) 0 eB fo ed iX iP jw)=some r:=by first|(rw[Nj];with_reducible exact H)|(have iB:=(Option.bind_some _ _).symm.trans H;rw[Nj];with_reducible exact iB)|(have iB:=(Option.bind_some _ _).symm.trans H;with_reducible exact iB)|with_reducible exact H|(rw[Nj];exact H)|exact H
 have Ny598:=ai.mk Nj
 clear Nj
 have H':=ai.mk H
 clear H
 go_enter Tryz.func29,Tryz.ntmps29
 go_wp2_with (first|((with_reducible refine di (N:=2) rfl ?_);refine bW ?hg (N:=2) ?hd (cs:=#[.int .i64 eB,.int .i64 fo,.int .i64 ed,.int .i64 iX,.int .i64 iP,.int .i64 jw]) (t:=29) ?hr ?_;(case hd=>rfl);(case hg=>rfl);(case hr=>first|(go_simp;done)|(go_simp;rfl));intro iN hg w3 dm hb;have bN:=ai.mk (bn (by repeat(first|(with_reducible first|exact HB.out|apply ag|apply af|apply ah)|exact HB.out)) hb);have bP:=ai.mk (dm);have cz:=ai.mk ((by rw[hg];exact(ay (by repeat(first|(with_reducible first|exact HB.out|apply ag|apply af|apply ah)|exact HB.out))):w.heap.size<=iN));have fC:=ai.mk ((by rw[hg];exact(ay (by repeat(first|(with_reducible first|exact HB.out|apply ag|apply af|apply ah)|exact HB.out))):w.heap.size<=iN));clear HB;have HB:=bN;have dZ:=bP;have GW597:=cz;have xA:=fC;clear bN bP cz fC;clear hb dm hg;have PZ:w3.cell? ⟨iN,0,none⟩=some (.int .i64 eB):=(ax dZ.out 0).trans rfl;have Qa:w3.cell? ⟨iN,1,none⟩=some (.int .i64 fo):=(ax dZ.out 1).trans rfl;have Qb:w3.cell? ⟨iN,2,none⟩=some (.int .i64 ed):=(ax dZ.out 2).trans rfl;have hcz4_3:w3.cell? ⟨iN,3,none⟩=some (.int .i64 iX):=(ax dZ.out 3).trans rfl;have hcz4_4:w3.cell? ⟨iN,4,none⟩=some (.int .i64 iP):=(ax dZ.out 4).trans rfl;have hcz4_5:w3.cell? ⟨iN,5,none⟩=some (.int .i64 jw):=(ax dZ.out 5).trans rfl;have Qc:=ak dZ.out 0;have Qd:=ak dZ.out 1;have Qe:=ak dZ.out 2;have hfz4_3:=ak dZ.out 3;have hfz4_4:=ak dZ.out 4;have hfz4_5:=ak dZ.out 5)|((with_reducible refine di (N:=19) rfl ?_);refine Kd.R_lit (Kd.int .i64) _ 3 ?hg (N:=19) ?hd (xs:=([eB,fo,ed,iX,iP,jw]:List Int)) (inner:=[.int .i64 eB,.int .i64 fo,.int .i64 ed,.int .i64 iX,.int .i64 iP,.int .i64 jw]) (ok:=fun _=>True) (oZ:=fun _=>True) ?hr ?hp (fun _ hk=>hk) trivial (Below.refl _ _) (Nat.le_refl _) (by simp) ?_;(case hd=>rfl);(case hg=>rfl);(case hr=>first|(go_simp;done)|(go_simp;rfl));(case hp=>exact(oP.one (show Kd.M (Kd.int .i64) _ _ _ eB [.int .i64 eB] from rfl) (oP.one (show Kd.M (Kd.int .i64) _ _ _ fo [.int .i64 fo] from rfl) (oP.one (show Kd.M (Kd.int .i64) _ _ _ ed [.int .i64 ed] from rfl) (oP.one (show Kd.M (Kd.int .i64) _ _ _ iX [.int .i64 iX] from rfl) (oP.one (show Kd.M (Kd.int .i64) _ _ _ iP [.int .i64 iP] from rfl) (oP.one (show Kd.M (Kd.int .i64) _ _ _ jw [.int .i64 jw] from rfl) (oP.none _ _))))))));intro v599 w5 ho6 hb hg_ hnew_;clear hg_ hnew_;(first|rw[<-Ny598.out] at ho6|(simp only[Int.reduceToNat] at ho6;rw[<-Ny598.out] at ho6));have bN:=ai.mk (Kd.lF ho6 (ay (by repeat(first|(with_reducible first|exact HB.out|apply ag|apply af|apply ah|refine az ?_ xA.out)|exact HB.out))));have bP:=ai.mk (fQ (g:=iN) (o:= .cells #[.int .i64 eB,.int .i64 fo,.int .i64 ed,.int .i64 iX,.int .i64 iP,.int .i64 jw] 29 (0,0)) (by(with_reducible repeat(first|refine aW ?_ _|refine bC ?_|refine bf ?_ _));exact dZ.out) hb);have cz:=ai.mk (bn (by repeat(first|(with_reducible first|exact HB.out|apply ag|apply af|apply ah|refine az ?_ xA.out)|exact HB.out)) hb);clear dZ;clear HB;have HO600:=bN;have dZ:=bP;have HB:=cz;clear bN bP cz;clear hb ho6;obtain⟨Ao7,co7,eo7⟩:=Kd.gL HO600.out;subst eo7))
 go_loopg [21] k (fun kq v21 w'=>∃(mG:Int),v21= .int .i64 mG/\ai (ik.l0 kq a1 qz (qz.length:Int) mG eB fo ed iX iP jw=some r)/\ai (kq<=k)/\ai (Kd.R (Kd.int .i64) 3 w' w.heap.size (fun _=>True) (.slice Ao7 qz.length co7) qz)/\ai (w'.heap[iN]?=some (.cells #[.int .i64 eB,.int .i64 fo,.int .i64 ed,.int .i64 iX,.int .i64 iP,.int .i64 jw] 29 (0,0)))/\ai (Below w.heap.size w w'))
 case atStart=>exact⟨(0),(by first|rfl|(simp;done)|(simp[*];done)),H',⟨Nat.le_refl _⟩,⟨by(with_reducible repeat(first|apply Kd.aM|apply Kd.aK|apply Kd.aV));exact HO600.out⟩,⟨by(with_reducible repeat(first|refine aW ?_ _|refine bC ?_|refine bf ?_ _));exact dZ.out⟩,⟨by repeat(first|(with_reducible first|exact HB.out|apply ag|apply af|apply ah|refine az ?_ xA.out)|exact HB.out)⟩⟩
 case round=>
  clear H'
  try clear c2
  try clear p2
  try clear PZ
  try clear Qa
  try clear Qb
  try clear hcz4_3
  try clear hcz4_4
  try clear hcz4_5
  try clear Qc
  try clear Qd
  try clear Qe
  try clear hfz4_3
  try clear hfz4_4
  try clear hfz4_5
  obtain⟨mG,rfl,HA,gH,Xr,dZ,HB⟩:=hrel
  cases gk with
  |zero=>exact absurd HA.out (by simp[ik.l0])
  |succ k1=>
   have H:=HA.out
   clear HA
   simp only[ik.l0] at H
   by_cases c8:mG<(qz.length:Int)
   ·rw[if_pos c8] at H
    have qN:decide (mG<(qz.length:Int))=true:=decide_eq_true c8
    clear c8
    by_cases c9:0<=mG
    ·rw[if_pos c9] at H
     have qx:decide (0<=mG)=true:=decide_eq_true c9
     clear c9
     by_cases c10:mG<(qz.length:Int)
     ·rw[if_pos c10] at H
      have lU:decide (mG<(qz.length:Int))=true:=decide_eq_true c10
      clear c10
      by_cases c11:(rd qz mG)<0
      ·rw[if_pos c11] at H
       have kX:decide ((rd qz mG)<0)=true:=decide_eq_true c11
       clear c11
       obtain rfl:=Option.some.inj H
       have QT:0<=(mG:Int):=of_decide_eq_true (by first|(with_reducible assumption)|assumption)
       have Rw:mG<(qz.length:Int):=of_decide_eq_true (by first|(with_reducible assumption)|assumption)
       obtain⟨ad601,e601,hx601_0⟩:=Kd.kW (Kd.dP Xr.out).2.2 mG QT Rw
       cases e601
       replace QT:=eq_true QT
       replace Rw:=eq_true Rw
       go_wp2
       go_ret
       exact⟨by first|rfl|(simp[aC,aD]<;>rfl)|(simp[*,aC,aD]<;>rfl),by repeat(first|(with_reducible first|exact HB.out|apply ag|apply af|apply ah|refine az ?_ xA.out)|exact HB.out)⟩
      ·rw[if_neg c11] at H
       have kX:decide ((rd qz mG)<0)=false:=decide_eq_false c11
       clear c11
       have H':=ai.mk H
       clear H
       have QT:0<=(mG:Int):=of_decide_eq_true (by first|(with_reducible assumption)|assumption)
       have Rw:mG<(qz.length:Int):=of_decide_eq_true (by first|(with_reducible assumption)|assumption)
       obtain⟨ad601,e601,hx601_0⟩:=Kd.kW (Kd.dP Xr.out).2.2 mG QT Rw
       cases e601
       replace QT:=eq_true QT
       replace Rw:=eq_true Rw
       go_wp2
       go_roundg k1
       case measure=>have:=gH.out;omega
       case rel=>exact⟨(wrap64 (mG+1)),(by first|rfl|(simp;done)|(simp[*];done)),H',⟨by have:=gH.out;omega⟩,⟨by(with_reducible repeat(first|apply Kd.aM|apply Kd.aK|apply Kd.aV));exact Xr.out⟩,⟨by(with_reducible repeat(first|refine aW ?_ _|refine bC ?_|refine bf ?_ _));exact dZ.out⟩,⟨by repeat(first|(with_reducible first|exact HB.out|apply ag|apply af|apply ah|refine az ?_ xA.out)|exact HB.out)⟩⟩
     ·rw[if_neg c10] at H
      exact absurd H (by simp)
    ·rw[if_neg c9] at H
     exact absurd H (by simp)
   ·rw[if_neg c8] at H
    have qN:decide (mG<(qz.length:Int))=false:=decide_eq_false c8
    clear c8
    by_cases c12:fo<=a1
    ·rw[if_pos c12] at H
     have GQ:decide (fo<=a1)=true:=decide_eq_true c12
     clear c12
     by_cases c13:fo<=eB
     ·rw[if_pos c13] at H
      have Su:decide (fo<=eB)=true:=decide_eq_true c13
      clear c13
      by_cases c14:(wrap64 (Int.tdiv (wrap64 (ed+4)) 5))<=eB
      ·rw[if_pos c14] at H
       have uj:decide ((wrap64 (Int.tdiv (wrap64 (ed+4)) 5))<=eB)=true:=decide_eq_true c14
       clear c14
       by_cases c15:(wrap64 (Int.tdiv (wrap64 (iP+3)) 5))<=eB
       ·rw[if_pos c15] at H
        have c15b0:decide ((wrap64 (Int.tdiv (wrap64 (iP+3)) 5))<=eB)=true:=decide_eq_true c15
        clear c15
        obtain rfl:=Option.some.inj H
        have wM:wr.cell? ⟨iN,0,none⟩=some (.int .i64 eB):=(ax dZ.out 0).trans rfl
        have wN:wr.cell? ⟨iN,1,none⟩=some (.int .i64 fo):=(ax dZ.out 1).trans rfl
        have Jr:wr.cell? ⟨iN,2,none⟩=some (.int .i64 ed):=(ax dZ.out 2).trans rfl
        have hcz16_3:wr.cell? ⟨iN,3,none⟩=some (.int .i64 iX):=(ax dZ.out 3).trans rfl
        have hcz16_4:wr.cell? ⟨iN,4,none⟩=some (.int .i64 iP):=(ax dZ.out 4).trans rfl
        have hcz16_5:wr.cell? ⟨iN,5,none⟩=some (.int .i64 jw):=(ax dZ.out 5).trans rfl
        have wO:=ak dZ.out 0
        have wP:=ak dZ.out 1
        have JJ:=ak dZ.out 2
        have hfz16_3:=ak dZ.out 3
        have hfz16_4:=ak dZ.out 4
        have hfz16_5:=ak dZ.out 5
        go_wp2
        go_ret
        exact⟨by first|rfl|(simp[aC,aD]<;>rfl)|(simp[*,aC,aD]<;>rfl),by repeat(first|(with_reducible first|exact HB.out|apply ag|apply af|apply ah|refine az ?_ xA.out)|exact HB.out)⟩
       ·rw[if_neg c15] at H
        have c15b0:decide ((wrap64 (Int.tdiv (wrap64 (iP+3)) 5))<=eB)=false:=decide_eq_false c15
        clear c15
        obtain rfl:=Option.some.inj H
        have Js:wr.cell? ⟨iN,0,none⟩=some (.int .i64 eB):=(ax dZ.out 0).trans rfl
        have Jt:wr.cell? ⟨iN,1,none⟩=some (.int .i64 fo):=(ax dZ.out 1).trans rfl
        have Ju:wr.cell? ⟨iN,2,none⟩=some (.int .i64 ed):=(ax dZ.out 2).trans rfl
        have hcz17_3:wr.cell? ⟨iN,3,none⟩=some (.int .i64 iX):=(ax dZ.out 3).trans rfl
        have hcz17_4:wr.cell? ⟨iN,4,none⟩=some (.int .i64 iP):=(ax dZ.out 4).trans rfl
        have hcz17_5:wr.cell? ⟨iN,5,none⟩=some (.int .i64 jw):=(ax dZ.out 5).trans rfl
        have JK:=ak dZ.out 0
        have JL:=ak dZ.out 1
        have JM:=ak dZ.out 2
        have hfz17_3:=ak dZ.out 3
        have hfz17_4:=ak dZ.out 4
        have hfz17_5:=ak dZ.out 5
        go_wp2
        go_ret
        exact⟨by first|rfl|(simp[aC,aD]<;>rfl)|(simp[*,aC,aD]<;>rfl),by repeat(first|(with_reducible first|exact HB.out|apply ag|apply af|apply ah|refine az ?_ xA.out)|exact HB.out)⟩
      ·rw[if_neg c14] at H
       have uj:decide ((wrap64 (Int.tdiv (wrap64 (ed+4)) 5))<=eB)=false:=decide_eq_false c14
       clear c14
       obtain rfl:=Option.some.inj H
       have CK:wr.cell? ⟨iN,0,none⟩=some (.int .i64 eB):=(ax dZ.out 0).trans rfl
       have CL:wr.cell? ⟨iN,1,none⟩=some (.int .i64 fo):=(ax dZ.out 1).trans rfl
       have Jv:wr.cell? ⟨iN,2,none⟩=some (.int .i64 ed):=(ax dZ.out 2).trans rfl
       have hcz18_3:wr.cell? ⟨iN,3,none⟩=some (.int .i64 iX):=(ax dZ.out 3).trans rfl
       have hcz18_4:wr.cell? ⟨iN,4,none⟩=some (.int .i64 iP):=(ax dZ.out 4).trans rfl
       have hcz18_5:wr.cell? ⟨iN,5,none⟩=some (.int .i64 jw):=(ax dZ.out 5).trans rfl
       have CQ:=ak dZ.out 0
       have CR:=ak dZ.out 1
       have JN:=ak dZ.out 2
       have hfz18_3:=ak dZ.out 3
       have hfz18_4:=ak dZ.out 4
       have hfz18_5:=ak dZ.out 5
       go_wp2
       go_ret
       exact⟨by first|rfl|(simp[aC,aD]<;>rfl)|(simp[*,aC,aD]<;>rfl),by repeat(first|(with_reducible first|exact HB.out|apply ag|apply af|apply ah|refine az ?_ xA.out)|exact HB.out)⟩
     ·rw[if_neg c13] at H
      have Su:decide (fo<=eB)=false:=decide_eq_false c13
      clear c13
      obtain rfl:=Option.some.inj H
      have CO:wr.cell? ⟨iN,0,none⟩=some (.int .i64 eB):=(ax dZ.out 0).trans rfl
      have CP:wr.cell? ⟨iN,1,none⟩=some (.int .i64 fo):=(ax dZ.out 1).trans rfl
      have hcz19_2:wr.cell? ⟨iN,2,none⟩=some (.int .i64 ed):=(ax dZ.out 2).trans rfl
      have hcz19_3:wr.cell? ⟨iN,3,none⟩=some (.int .i64 iX):=(ax dZ.out 3).trans rfl
      have hcz19_4:wr.cell? ⟨iN,4,none⟩=some (.int .i64 iP):=(ax dZ.out 4).trans rfl
      have hcz19_5:wr.cell? ⟨iN,5,none⟩=some (.int .i64 jw):=(ax dZ.out 5).trans rfl
      have CS:=ak dZ.out 0
      have CU:=ak dZ.out 1
      have hfz19_2:=ak dZ.out 2
      have hfz19_3:=ak dZ.out 3
      have hfz19_4:=ak dZ.out 4
      have hfz19_5:=ak dZ.out 5
      go_wp2
      go_ret
      exact⟨by first|rfl|(simp[aC,aD]<;>rfl)|(simp[*,aC,aD]<;>rfl),by repeat(first|(with_reducible first|exact HB.out|apply ag|apply af|apply ah|refine az ?_ xA.out)|exact HB.out)⟩
    ·rw[if_neg c12] at H
     have GQ:decide (fo<=a1)=false:=decide_eq_false c12
     clear c12
     obtain rfl:=Option.some.inj H
     have hcz20_0:wr.cell? ⟨iN,0,none⟩=some (.int .i64 eB):=(ax dZ.out 0).trans rfl
     have hcz20_1:wr.cell? ⟨iN,1,none⟩=some (.int .i64 fo):=(ax dZ.out 1).trans rfl
     have hcz20_2:wr.cell? ⟨iN,2,none⟩=some (.int .i64 ed):=(ax dZ.out 2).trans rfl
     have hcz20_3:wr.cell? ⟨iN,3,none⟩=some (.int .i64 iX):=(ax dZ.out 3).trans rfl
     have hcz20_4:wr.cell? ⟨iN,4,none⟩=some (.int .i64 iP):=(ax dZ.out 4).trans rfl
     have hcz20_5:wr.cell? ⟨iN,5,none⟩=some (.int .i64 jw):=(ax dZ.out 5).trans rfl
     have hfz20_0:=ak dZ.out 0
     have hfz20_1:=ak dZ.out 1
     have hfz20_2:=ak dZ.out 2
     have hfz20_3:=ak dZ.out 3
     have hfz20_4:=ak dZ.out 4
     have hfz20_5:=ak dZ.out 5
     go_wp2
     go_ret
     exact⟨by first|rfl|(simp[aC,aD]<;>rfl)|(simp[*,aC,aD]<;>rfl),by repeat(first|(with_reducible first|exact HB.out|apply ag|apply af|apply ah|refine az ?_ xA.out)|exact HB.out)⟩
end Go.Proofs.YtilpincgjlclpaaGreat.Pr
