import Derived.Test.YtilpincgjlclpaaGreatB6
set_option linter.unusedVariables false
set_option linter.unusedSimpArgs false
section
namespace Go.Proofs.YtilpincgjlclpaaGreat.Pr
open Go.RowKit Go.Proofs.ae.au Go.Proofs.ae.aZ Go.Proofs.ae.bE
attribute [local go_sem] bQ min2_int cB min_two max_three min_three max_four min_four
theorem Zx:∀(a b:List UInt8),(Op.bytesLess a b||a==b)= !Op.bytesLess b a
 |[],[]=>by simp[Op.bytesLess]
 |[],_::_=>by simp[Op.bytesLess]
 |_::_,[]=>by simp[Op.bytesLess]
 |a::x,b::y=>by
  have ih:=Zx x y
  simp only[Op.bytesLess]
  rcases Nat.lt_trichotomy a.toNat b.toNat with h|h|h
  ·have h1:a<b:=h
   have h2:¬b<a:=fun h2=>by have:b.toNat<a.toNat:=h2;omega
   have h3:¬b=a:=fun h3=>by rw[h3] at h;omega
   simp[h1,h2,h3]
  ·have h1:a=b:=UInt8.toNat_inj.1 h
   subst h1
   have h2:¬a<a:=fun h2=>by have:a.toNat<a.toNat:=h2;omega
   have h4:(a::x==a::y)=(x==y):=by simp
   simp only[h2,h4,decide_false,Bool.false_or,beq_self_eq_true,Bool.true_and]
   exact ih
  ·have h1:b<a:=h
   have h2:¬a<b:=fun h2=>by have:a.toNat<b.toNat:=h2;omega
   have h3:¬a=b:=fun h3=>by rw[h3] at h;omega
   simp[h1,h2,h3]
theorem Ty (a b:ByteArray) (W:World):(binOp .leq 9 (.string a) (.string b)).run Tryz.prog W= .ok (.bool (!Op.bytesLess b.toList a.toList)) W:=by
 rw[show binOp .leq 9 (.string a) (.string b)=pure (.bool (Op.bytesLess a.toList b.toList||a.toList==b.toList)) by simp[binOp,Op.stringOp],Zx]
 rfl
def fD.j0:Nat->ByteArray->Bool->ByteArray->Int->Option (Int)
 |0,_,_,_,_=>none
 |k+1,x0,x5,UA,x102001=>if x5=true then(some 1) else(if(UA.size:Int)>65536 then(some 4) else(if((Op.bytesLess x0.toList UA.toList)=true) then(some 0) else(some 6)))
def fD.f (k:Nat) (a0:ByteArray) (bz:ByteArray) (bD:Int):Option (Int):=if bz.toList=([]:List UInt8) then(fD.j0 k a0 true bz bD) else(fD.j0 k a0 (decide (bD<1)) bz bD)
set_option maxHeartbeats 8000000 in
set_option maxRecDepth 100000 in
theorem fD.calls (k:Nat) (a0:ByteArray) (bz:ByteArray) (bD:Int) (r:Int) (w:World) (h:fD.f k a0 bz bD=some r):
  Calls Tryz.prog 58 #[.string a0,.agg #[.string bz,.int .i64 bD]] w fun e w'=>e= .returned (.int .i64 r)/\Below w.heap.size w w':=by
 have hu35:=Tryz.underlying45
 have HB:=ai.mk (Below.refl w.heap.size w)
 have H:(if bz.toList=([]:List UInt8) then(fD.j0 k a0 true bz bD) else(fD.j0 k a0 (decide (bD<1)) bz bD))=some r:=h
 clear h
 have Ci:=ai.mk H
 clear H
 go_enter Tryz.func58,Tryz.ntmps58
 go_upto_region 1 with(first|((with_reducible refine di (N:=3) rfl ?_);refine bW ?hg (N:=3) ?hd (cs:=#[.string bz,.int .i64 bD]) (t:=45) ?hr ?_;(case hd=>rfl);(case hg=>rfl);(case hr=>first|(go_simp;done)|(go_simp;rfl));intro rz hg w4 dm hb;have bN:=ai.mk (bn (by repeat(first|(with_reducible first|exact HB.out|apply ag|apply af|apply ah)|exact HB.out)) hb);have bP:=ai.mk (dm);have cz:=ai.mk ((by rw[hg];exact(ay (by repeat(first|(with_reducible first|exact HB.out|apply ag|apply af|apply ah)|exact HB.out))):w.heap.size<=rz));have fC:=ai.mk ((by rw[hg];exact(ay (by repeat(first|(with_reducible first|exact HB.out|apply ag|apply af|apply ah)|exact HB.out))):w.heap.size<=rz));clear HB;have HB:=bN;have kV:=bP;have GW101:=cz;have GD:=fC;clear bN bP cz fC;clear hb dm hg))
 (try simp only[Act.put,List.setIfInBounds_toArray,List.set_cons_zero,List.set_cons_succ])
 go_cut [5] (fun v5 wc=>∃(kq:Nat) (qi:Bool),v5= .bool qi/\ai (fD.j0 kq a0 qi bz bD=some r)/\ai (kq<=k)/\ai (wc.heap[rz]?=some (.cells #[.string bz,.int .i64 bD] 45 (0,0)))/\ai (Below w.heap.size w wc))
 case first=>
  have H:=Ci.out
  clear Ci
  by_cases c5:bz.toList=([]:List UInt8)
  ·rw[if_pos c5] at H
   have iC:(bz.toList==([]:List UInt8))=true:=beq_iff_eq.mpr c5
   have oD:(bz.toList != ([]:List UInt8))=false:=bne_eq_false_iff_eq.mpr c5
   clear c5
   (first|rw[iC]|(simp only[jY,lV];rw[iC])|skip)
   have H':=ai.mk H
   clear H
   have vE:w4.cell? ⟨rz,0,none⟩=some (.string bz):=(ax kV.out 0).trans rfl
   have vF:w4.cell? ⟨rz,1,none⟩=some (.int .i64 bD):=(ax kV.out 1).trans rfl
   have vG:=ak kV.out 0
   have vH:=ak kV.out 1
   go_wp2
   go_meet
   case rel=>exact⟨_,(true),(by first|rfl|(simp;done)|(simp[*];done)),H',⟨by first|omega|exact Nat.le_refl _⟩,⟨by(with_reducible repeat(first|refine aW ?_ _|refine bC ?_|refine bf ?_ _));exact kV.out⟩,⟨by repeat(first|(with_reducible first|exact HB.out|apply ag|apply af|apply ah|refine az ?_ GD.out)|exact HB.out)⟩⟩
  ·rw[if_neg c5] at H
   have iC:(bz.toList==([]:List UInt8))=false:=beq_eq_false_iff_ne.mpr c5
   have oD:(bz.toList != ([]:List UInt8))=true:=bne_iff_ne.mpr c5
   (first|rw[iC]|(simp only[jY,lV];rw[iC])|skip)
   have H':=ai.mk H
   clear H
   have JA:w4.cell? ⟨rz,0,none⟩=some (.string bz):=(ax kV.out 0).trans rfl
   have JB:w4.cell? ⟨rz,1,none⟩=some (.int .i64 bD):=(ax kV.out 1).trans rfl
   have JS:=ak kV.out 0
   have JU:=ak kV.out 1
   go_wp2
   go_meet
   case rel=>exact⟨_,(decide (bD<1)),(by first|rfl|(simp;done)|(simp[*];done)),H',⟨by first|omega|exact Nat.le_refl _⟩,⟨by(with_reducible repeat(first|refine aW ?_ _|refine bC ?_|refine bf ?_ _));exact kV.out⟩,⟨by repeat(first|(with_reducible first|exact HB.out|apply ag|apply af|apply ah|refine az ?_ GD.out)|exact HB.out)⟩⟩
 case rest=>
  clear Ci
  try clear p2
  try clear c4
  try clear c5
  try clear iC
  try clear oD
  try clear vE
  try clear vF
  try clear JA
  try clear JB
  try clear vG
  try clear vH
  try clear JS
  try clear JU
  obtain⟨kq,qi,rfl,HA,HJ2,kV,HB⟩:=hcut
  cases kq with
  |zero=>exact absurd HA.out (by simp[fD.j0])
  |succ Nq=>
   have H:=HA.out
   clear HA
   simp only[fD.j0] at H
   by_cases c8:qi=true
   ·subst c8
    have H1:(some 1)=some r:=by rw[if_pos rfl] at H;exact H
    clear H
    have H:=H1
    clear H1
    obtain rfl:=Option.some.inj H
    go_wp2
    go_ret
    exact⟨by first|rfl|(simp[aC,aD]<;>rfl)|(simp[*,aC,aD]<;>rfl),by repeat(first|(with_reducible first|exact HB.out|apply ag|apply af|apply ah|refine az ?_ GD.out)|exact HB.out)⟩
   ·replace c8:=Bool.eq_false_iff.mpr c8
    subst c8
    have H1:(if(bz.size:Int)>65536 then(some 4) else(if((Op.bytesLess a0.toList bz.toList)=true) then(some 0) else(some 6)))=some r:=by rw[if_neg (show¬(false=true) by decide)] at H;exact H
    clear H
    have H:=H1
    clear H1
    by_cases c9:(bz.size:Int)>65536
    ·rw[if_pos c9] at H
     have qx:decide (65536<(bz.size:Int))=true:=decide_eq_true c9
     have Ve:decide (65536<bz.size)=true:=decide_eq_true (by omega)
     clear c9
     obtain rfl:=Option.some.inj H
     have Jp:wc.cell? ⟨rz,0,none⟩=some (.string bz):=(ax kV.out 0).trans rfl
     have Jq:wc.cell? ⟨rz,1,none⟩=some (.int .i64 bD):=(ax kV.out 1).trans rfl
     have JH:=ak kV.out 0
     have JI:=ak kV.out 1
     go_wp2
     go_ret
     exact⟨by first|rfl|(simp[aC,aD]<;>rfl)|(simp[*,aC,aD]<;>rfl),by repeat(first|(with_reducible first|exact HB.out|apply ag|apply af|apply ah|refine az ?_ GD.out)|exact HB.out)⟩
    ·rw[if_neg c9] at H
     have qx:decide (65536<(bz.size:Int))=false:=decide_eq_false c9
     have Ve:decide (65536<bz.size)=false:=decide_eq_false (by omega)
     clear c9
     by_cases c11:((Op.bytesLess a0.toList bz.toList)=true)
     ·rw[if_pos c11] at H
      have kX:(Op.bytesLess a0.toList bz.toList)=true:=c11
      clear c11
      obtain rfl:=Option.some.inj H
      have SN:wc.cell? ⟨rz,0,none⟩=some (.string bz):=(ax kV.out 0).trans rfl
      have SQ:wc.cell? ⟨rz,1,none⟩=some (.int .i64 bD):=(ax kV.out 1).trans rfl
      have Ta:=ak kV.out 0
      have Tc:=ak kV.out 1
      have hlq:=Ty bz a0
      simp only[kX,Bool.not_true] at hlq
      go_wp2
      go_ret
      exact⟨by first|rfl|(simp[aC,aD]<;>rfl)|(simp[*,aC,aD]<;>rfl),by repeat(first|(with_reducible first|exact HB.out|apply ag|apply af|apply ah|refine az ?_ GD.out)|exact HB.out)⟩
     ·rw[if_neg c11] at H
      have kX:(Op.bytesLess a0.toList bz.toList)=false:=by simpa using c11
      clear c11
      obtain rfl:=Option.some.inj H
      have zi:wc.cell? ⟨rz,0,none⟩=some (.string bz):=(ax kV.out 0).trans rfl
      have zk:wc.cell? ⟨rz,1,none⟩=some (.int .i64 bD):=(ax kV.out 1).trans rfl
      have zl:=ak kV.out 0
      have zm:=ak kV.out 1
      have hlq:=Ty bz a0
      simp only[kX,Bool.not_false] at hlq
      go_wp2
      go_ret
      exact⟨by first|rfl|(simp[aC,aD]<;>rfl)|(simp[*,aC,aD]<;>rfl),by repeat(first|(with_reducible first|exact HB.out|apply ag|apply af|apply ah|refine az ?_ GD.out)|exact HB.out)⟩
end Go.Proofs.YtilpincgjlclpaaGreat.Pr
end
section
namespace Go.Proofs.YtilpincgjlclpaaGreat.Pr
open Go.RowKit Go.Proofs.ae.au Go.Proofs.ae.aZ Go.Proofs.ae.bE
attribute [local go_sem] bQ min2_int cB min_two max_three min_three max_four min_four
def dG.l0:Nat->List (dN)->ByteArray->List (dN)->Int->Int->Option (Int×Int)
 |0,_,_,_,_,_=>none
 |k+1,x0,x4,qo,IP,wE=>if wE<IP then(if 0<=wE then(if wE<(qo.length:Int) then((fD.f k x4 ((aU qo wE).f0) ((aU qo wE).f1)).bind fun t248=>(if t248=0 then(dG.l0 k x0 ((aU qo wE).f0) qo IP (wrap64 (wE+1))) else(some (wE,t248)))) else(none)) else(none)) else((eU.f k x0).bind fun bt249=>(if bt249.2=true then(some ((-1),0)) else(some ((x0.length:Int),5))))
def dG.f (k:Nat) (l0:List (dN)):Option (Int×Int):=dG.l0 k l0 (⟨#[]⟩:ByteArray) l0 (l0.length:Int) 0
set_option maxHeartbeats 8000000 in
set_option maxRecDepth 100000 in
theorem dG.calls (k:Nat) (A0:Option Addr) (c0:Nat) (l0:List (dN)) (r1:Int) (r2:Int) (w:World) (hr0:Kd.C lQ w A0 l0.length l0) (hc0:l0.length<=c0) (h:dG.f k l0=some (r1,r2)):
  Calls Tryz.prog 24 #[.slice A0 l0.length c0] w fun e w'=>e= .returned (.tuple #[.int .i64 r1,.int .i64 r2])/\Below w.heap.size w w':=by
 have Zg:=Tryz.underlying45
 have gq:=ai.mk hr0
 have lC:=ai.mk hc0
 clear hr0 hc0
 have HB:=ai.mk (Below.refl w.heap.size w)
 have H:(dG.l0 k l0 (⟨#[]⟩:ByteArray) l0 (l0.length:Int) 0)=some (r1,r2):=h
 clear h
 have H':=ai.mk H
 clear H
 go_enter Tryz.func24,Tryz.ntmps24
 go_wp2
 go_loopg [4,12] k (fun kq v4 v12 w'=>∃(bq:ByteArray) (jf:Int),v4= .string bq/\v12= .int .i64 jf/\ai (dG.l0 kq l0 bq l0 (l0.length:Int) jf=some (r1,r2))/\ai (kq<=k)/\ai (Below w.heap.size w w'))
 case atStart=>exact⟨((⟨#[]⟩:ByteArray)),(0),(by first|rfl|(simp;done)|(simp[*];done)),(by first|rfl|(simp;done)|(simp[*];done)),H',⟨Nat.le_refl _⟩,⟨by repeat(first|(with_reducible first|exact HB.out|apply ag|apply af|apply ah)|exact HB.out)⟩⟩
 case round=>
  clear H'
  obtain⟨bq,jf,rfl,rfl,HA,gH,HB⟩:=hrel
  cases gk with
  |zero=>exact absurd HA.out (by simp[dG.l0])
  |succ k1=>
   have H:=HA.out
   clear HA
   simp only[dG.l0] at H
   by_cases c2:jf<(l0.length:Int)
   ·rw[if_pos c2] at H
    have jV:decide (jf<(l0.length:Int))=true:=decide_eq_true c2
    clear c2
    by_cases c3:0<=jf
    ·rw[if_pos c3] at H
     have iY:decide (0<=jf)=true:=decide_eq_true c3
     clear c3
     by_cases c4:jf<(l0.length:Int)
     ·rw[if_pos c4] at H
      have iw:decide (jf<(l0.length:Int))=true:=decide_eq_true c4
      clear c4
      replace H:=Option.bind_eq_some_iff.mp H
      obtain⟨t248,Dk,H⟩:=H
      replace H:(if t248=0 then(dG.l0 k1 l0 ((aU l0 jf).f0) l0 (l0.length:Int) (wrap64 (jf+1))) else(some (jf,t248)))=some (r1,r2):=H
      have A5:=ai.mk Dk
      clear Dk
      by_cases c6:t248=0
      ·rw[if_pos c6] at H
       have yR:(t248==0)=true:=beq_iff_eq.mpr c6
       have c6b1:(t248 != 0)=false:=bne_eq_false_iff_eq.mpr c6
       clear c6
       have H':=ai.mk H
       clear H
       have QI:0<=(jf:Int):=of_decide_eq_true (by first|(with_reducible assumption)|assumption)
       have Rj:jf<(l0.length:Int):=of_decide_eq_true (by first|(with_reducible assumption)|assumption)
       obtain⟨ad246,e246,tq,tu⟩:=eP gq.out jf QI Rj
       cases e246
       replace tq:=(HB.out.cell (World.block_lt_of_cell? w _ tq)).trans tq
       replace tu:=(HB.out.cell (World.block_lt_of_cell? w _ tu)).trans tu
       replace QI:=eq_true QI
       replace Rj:=eq_true Rj
       go_wp2_with (first|((with_reducible refine di (N:=6) rfl ?_);refine bW ?hg (N:=6) ?hd (cs:=#[.string (⟨#[]⟩:ByteArray),.int .i64 0]) (t:=45) ?hr ?_;(case hd=>rfl);(case hg=>rfl);(case hr=>first|(go_simp;done)|(go_simp;rfl));intro rD hg w7 dm hb;have bN:=ai.mk (bn (by repeat(first|(with_reducible first|exact HB.out|apply ag|apply af|apply ah)|exact HB.out)) hb);have bP:=ai.mk (dm);have cz:=ai.mk ((by rw[hg];exact(ay (by repeat(first|(with_reducible first|exact HB.out|apply ag|apply af|apply ah)|exact HB.out))):w.heap.size<=rD));have fC:=ai.mk ((by rw[hg];exact(ay (by repeat(first|(with_reducible first|exact HB.out|apply ag|apply af|apply ah)|exact HB.out))):w.heap.size<=rD));clear HB;have HB:=bN;have mM:=bP;have GW247:=cz;have Lm:=fC;clear bN bP cz fC;clear hb dm hg;have hcz8_0:w7.cell? ⟨rD,0,none⟩=some (.string (⟨#[]⟩:ByteArray)):=(ax mM.out 0).trans rfl;have hcz8_1:w7.cell? ⟨rD,1,none⟩=some (.int .i64 0):=(ax mM.out 1).trans rfl;have hfz8_0:=ak mM.out 0;have hfz8_1:=ak mM.out 1)|((with_reducible refine bL (f:=58) rfl ?_);refine eQ (some 19) rfl rfl Tryz.func58 (by kernel_rfl) rfl #[.string bq,.agg #[.string ((aU l0 jf).f0),.int .i64 ((aU l0 jf).f1)]] rfl (by(try simp only[List.map_toArray,List.map_cons,List.map_nil]);first|done|rfl|(simp only[List.length_drop,List.length_take];rfl)) ?_;(with_reducible refine(fD.calls k1 bq ((aU l0 jf).f0) ((aU l0 jf).f1) t248 _ A5.out).mono ?_);rintro e w9 ⟨rfl,hb⟩;refine⟨_,rfl,?_⟩;have bN:=ai.mk (fQ (g:=rD) (o:= .cells #[.string ((aU l0 jf).f0),.int .i64 ((aU l0 jf).f1)] 45 (0,0)) (by(with_reducible repeat(first|refine aW ?_ _|refine bC ?_|refine bf ?_ _));refine nS (cs:=#[.string ((aU l0 jf).f0),.int .i64 0]) ?_ 1 _ rfl;(with_reducible repeat(first|refine aW ?_ _|refine bC ?_|refine bf ?_ _));refine nS (cs:=#[.string (⟨#[]⟩:ByteArray),.int .i64 0]) ?_ 0 _ rfl;(with_reducible repeat(first|refine aW ?_ _|refine bC ?_|refine bf ?_ _));exact mM.out) hb);have bP:=ai.mk (bn (by repeat(first|(with_reducible first|exact HB.out|apply ag|apply af|apply ah|refine az ?_ Lm.out)|exact HB.out)) hb);clear mM;clear HB;have mM:=bN;have HB:=bP;clear bN bP;(try clear hb);(try clear hb2);(try clear hk);(try clear hi);have Jp:w9.cell? ⟨rD,0,none⟩=some (.string ((aU l0 jf).f0)):=(ax mM.out 0).trans rfl;have Jq:w9.cell? ⟨rD,1,none⟩=some (.int .i64 ((aU l0 jf).f1)):=(ax mM.out 1).trans rfl;have JH:=ak mM.out 0;have JI:=ak mM.out 1))
       go_roundg k1
       case measure=>have:=gH.out;omega
       case rel=>exact⟨((aU l0 jf).f0),(wrap64 (jf+1)),(by first|rfl|(simp;done)|(simp[*];done)),(by first|rfl|(simp;done)|(simp[*];done)),H',⟨by have:=gH.out;omega⟩,⟨by repeat(first|(with_reducible first|exact HB.out|apply ag|apply af|apply ah|refine az ?_ Lm.out)|exact HB.out)⟩⟩
      ·rw[if_neg c6] at H
       have yR:(t248==0)=false:=beq_eq_false_iff_ne.mpr c6
       have c6b1:(t248 != 0)=true:=bne_iff_ne.mpr c6
       simp only[Option.some.injEq,Prod.mk.injEq] at H
       obtain⟨rfl,rfl⟩:=H
       have QI:0<=(jf:Int):=of_decide_eq_true (by first|(with_reducible assumption)|assumption)
       have Rj:jf<(l0.length:Int):=of_decide_eq_true (by first|(with_reducible assumption)|assumption)
       obtain⟨ad246,e246,tq,tu⟩:=eP gq.out jf QI Rj
       cases e246
       replace tq:=(HB.out.cell (World.block_lt_of_cell? w _ tq)).trans tq
       replace tu:=(HB.out.cell (World.block_lt_of_cell? w _ tu)).trans tu
       replace QI:=eq_true QI
       replace Rj:=eq_true Rj
       go_wp2_with (first|((with_reducible refine di (N:=6) rfl ?_);refine bW ?hg (N:=6) ?hd (cs:=#[.string (⟨#[]⟩:ByteArray),.int .i64 0]) (t:=45) ?hr ?_;(case hd=>rfl);(case hg=>rfl);(case hr=>first|(go_simp;done)|(go_simp;rfl));intro rD hg w11 dm hb;have bN:=ai.mk (bn (by repeat(first|(with_reducible first|exact HB.out|apply ag|apply af|apply ah)|exact HB.out)) hb);have bP:=ai.mk (dm);have cz:=ai.mk ((by rw[hg];exact(ay (by repeat(first|(with_reducible first|exact HB.out|apply ag|apply af|apply ah)|exact HB.out))):w.heap.size<=rD));have fC:=ai.mk ((by rw[hg];exact(ay (by repeat(first|(with_reducible first|exact HB.out|apply ag|apply af|apply ah)|exact HB.out))):w.heap.size<=rD));clear HB;have HB:=bN;have mM:=bP;have GW247:=cz;have Lm:=fC;clear bN bP cz fC;clear hb dm hg;have SN:w11.cell? ⟨rD,0,none⟩=some (.string (⟨#[]⟩:ByteArray)):=(ax mM.out 0).trans rfl;have SQ:w11.cell? ⟨rD,1,none⟩=some (.int .i64 0):=(ax mM.out 1).trans rfl;have Ta:=ak mM.out 0;have Tc:=ak mM.out 1)|((with_reducible refine bL (f:=58) rfl ?_);refine eQ (some 19) rfl rfl Tryz.func58 (by kernel_rfl) rfl #[.string bq,.agg #[.string ((aU l0 jf).f0),.int .i64 ((aU l0 jf).f1)]] rfl (by(try simp only[List.map_toArray,List.map_cons,List.map_nil]);first|done|rfl|(simp only[List.length_drop,List.length_take];rfl)) ?_;(with_reducible refine(fD.calls k1 bq ((aU l0 jf).f0) ((aU l0 jf).f1) t248 _ A5.out).mono ?_);rintro e w13 ⟨rfl,hb⟩;refine⟨_,rfl,?_⟩;have bN:=ai.mk (fQ (g:=rD) (o:= .cells #[.string ((aU l0 jf).f0),.int .i64 ((aU l0 jf).f1)] 45 (0,0)) (by(with_reducible repeat(first|refine aW ?_ _|refine bC ?_|refine bf ?_ _));refine nS (cs:=#[.string ((aU l0 jf).f0),.int .i64 0]) ?_ 1 _ rfl;(with_reducible repeat(first|refine aW ?_ _|refine bC ?_|refine bf ?_ _));refine nS (cs:=#[.string (⟨#[]⟩:ByteArray),.int .i64 0]) ?_ 0 _ rfl;(with_reducible repeat(first|refine aW ?_ _|refine bC ?_|refine bf ?_ _));exact mM.out) hb);have bP:=ai.mk (bn (by repeat(first|(with_reducible first|exact HB.out|apply ag|apply af|apply ah|refine az ?_ Lm.out)|exact HB.out)) hb);clear mM;clear HB;have mM:=bN;have HB:=bP;clear bN bP;(try clear hb);(try clear hb2);(try clear hk);(try clear hi)))
       go_ret2
       exact⟨by first|rfl|(simp[aC,aD]<;>rfl)|(simp[*,aC,aD]<;>rfl),by repeat(first|(with_reducible first|exact HB.out|apply ag|apply af|apply ah|refine az ?_ Lm.out)|exact HB.out)⟩
     ·rw[if_neg c4] at H
      exact absurd H (by simp)
    ·rw[if_neg c3] at H
     exact absurd H (by simp)
   ·rw[if_neg c2] at H
    have jV:decide (jf<(l0.length:Int))=false:=decide_eq_false c2
    clear c2
    replace H:=Option.bind_eq_some_iff.mp H
    obtain⟨⟨t249,t250⟩,WV,H⟩:=H
    replace H:(if t250=true then(some ((-1),0)) else(some ((l0.length:Int),5)))=some (r1,r2):=H
    have A14:=ai.mk WV
    clear WV
    by_cases c15:t250=true
    ·subst c15
     have H1:(some ((-1),0))=some (r1,r2):=by rw[if_pos rfl] at H;exact H
     clear H
     have H:=H1
     clear H1
     simp only[Option.some.injEq,Prod.mk.injEq] at H
     obtain⟨rfl,rfl⟩:=H
     go_wp2_with (first|((with_reducible refine bL (f:=13) rfl ?_);refine eQ (some 29) rfl rfl Tryz.func13 (by kernel_rfl) rfl #[.slice A0 l0.length c0] rfl (by(try simp only[List.map_toArray,List.map_cons,List.map_nil]);first|done|rfl|(simp only[List.length_drop,List.length_take];rfl)) ?_;(with_reducible refine(eU.calls k1 _ _ l0 t249 true _ ?gM ?gW A14.out).mono ?_);(case gM=>repeat(first|exact(Kd.bY gq.out HB.out)|(with_reducible refine Kd.dD ?_ _)|(with_reducible refine Kd.dB ?_ _)|(with_reducible refine Kd.fA ?_)));(case gW=>exact lC.out);rintro e w16 ⟨rfl,hb⟩;refine⟨_,rfl,?_⟩;have bN:=ai.mk (bn (by repeat(first|(with_reducible first|exact HB.out|apply ag|apply af|apply ah)|exact HB.out)) hb);clear HB;have HB:=bN;clear bN;(try clear hb);(try clear hb2);(try clear hk);(try clear hi)))
     go_ret2
     exact⟨by first|rfl|(simp[aC,aD]<;>rfl)|(simp[*,aC,aD]<;>rfl),by repeat(first|(with_reducible first|exact HB.out|apply ag|apply af|apply ah)|exact HB.out)⟩
    ·replace c15:=Bool.eq_false_iff.mpr c15
     subst c15
     have H1:(some ((l0.length:Int),5))=some (r1,r2):=by rw[if_neg (show¬(false=true) by decide)] at H;exact H
     clear H
     have H:=H1
     clear H1
     simp only[Option.some.injEq,Prod.mk.injEq] at H
     obtain⟨rfl,rfl⟩:=H
     go_wp2_with (first|((with_reducible refine bL (f:=13) rfl ?_);refine eQ (some 29) rfl rfl Tryz.func13 (by kernel_rfl) rfl #[.slice A0 l0.length c0] rfl (by(try simp only[List.map_toArray,List.map_cons,List.map_nil]);first|done|rfl|(simp only[List.length_drop,List.length_take];rfl)) ?_;(with_reducible refine(eU.calls k1 _ _ l0 t249 false _ ?gM ?gW A14.out).mono ?_);(case gM=>repeat(first|exact(Kd.bY gq.out HB.out)|(with_reducible refine Kd.dD ?_ _)|(with_reducible refine Kd.dB ?_ _)|(with_reducible refine Kd.fA ?_)));(case gW=>exact lC.out);rintro e Cv ⟨rfl,hb⟩;refine⟨_,rfl,?_⟩;have bN:=ai.mk (bn (by repeat(first|(with_reducible first|exact HB.out|apply ag|apply af|apply ah)|exact HB.out)) hb);clear HB;have HB:=bN;clear bN;(try clear hb);(try clear hb2);(try clear hk);(try clear hi)))
     go_ret2
     exact⟨by first|rfl|(simp[aC,aD]<;>rfl)|(simp[*,aC,aD]<;>rfl),by repeat(first|(with_reducible first|exact HB.out|apply ag|apply af|apply ah)|exact HB.out)⟩
end Go.Proofs.YtilpincgjlclpaaGreat.Pr
end
