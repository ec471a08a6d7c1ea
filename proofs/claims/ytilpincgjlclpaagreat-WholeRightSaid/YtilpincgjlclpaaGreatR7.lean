import Derived.Test.YtilpincgjlclpaaGreatR1
set_option linter.unusedVariables false
set_option linter.unusedSimpArgs false
namespace Go.Proofs.YtilpincgjlclpaaGreat.Pr
open Go.RowKit Go.Proofs.ae.au Go.Proofs.ae.aZ Go.Proofs.ae.bE
attribute [local go_sem] bQ min2_int cB min_two max_three min_three max_four min_four
mutual
def aI.l0:Nat->List (eu)->List ByteArray->Int->Option (Bool)
 |0,_,_,_=>none
 |k+1,x0,x3,x4=>if x4<(x0.length:Int) then(aI.l1 k x0 x3 x4 0) else(some true)
def aI.l1:Nat->List (eu)->List ByteArray->Int->Int->Option (Bool)
 |0,_,_,_,_=>none
 |k+1,x0,x3,x4,x5=>if x5<2 then(if 0<=x4 then(if x4<(x0.length:Int) then(if x5=1 then(aI.j2 k x0 x3 x4 x5 ((bM x0 x4).f1)) else(aI.j2 k x0 x3 x4 x5 ((bM x0 x4).f0))) else(none)) else(none)) else(if 0<=x4 then(if x4<(x0.length:Int) then(if((bM x0 x4).f0).size+((bM x0 x4).f1).size<=9223372036854775807 then(aI.l3 k x0 x3 x4 (((bM x0 x4).f0)++((bM x0 x4).f1)) 0) else(none)) else(none)) else(none))
def aI.j2:Nat->List (eu)->List ByteArray->Int->Int->ByteArray->Option (Bool)
 |0,_,_,_,_,_=>none
 |k+1,x0,x3,x4,x5,x6=>aI.l2 k x0 x3 x4 x5 x6 ((x6.size:Int)==1) 0
def aI.l2:Nat->List (eu)->List ByteArray->Int->Int->ByteArray->Bool->Int->Option (Bool)
 |0,_,_,_,_,_,_,_=>none
 |k+1,x0,x3,x4,x5,x6,x7,x8=>if x8<(x3.length:Int) then(if x7=true then(aI.l1 k x0 x3 x4 (wrap64 (x5+1))) else(if 0<=x8 then(aI.l2 k x0 x3 x4 x5 x6 ((dH ByteArray.empty x3 x8).toList==x6.toList) (wrap64 (x8+1))) else(none))) else(if x7=true then(aI.l1 k x0 x3 x4 (wrap64 (x5+1))) else(some false))
def aI.l3:Nat->List (eu)->List ByteArray->Int->ByteArray->Int->Option (Bool)
 |0,_,_,_,_,_=>none
 |k+1,x0,x3,x4,x9,qo=>if qo<(x3.length:Int) then(if 0<=qo then(if(dH ByteArray.empty x3 qo).toList=x9.toList then(some false) else(aI.l3 k x0 x3 x4 x9 (wrap64 (qo+1)))) else(none)) else(if x3.length<8796093022208 then(aI.l0 k x0 (x3++[x9]) (wrap64 (x4+1))) else(none))
end
def aI.f (k:Nat) (l0:List (eu)):Option (Bool):=aI.l0 k l0 ([]:List ByteArray) 0
set_option maxHeartbeats 8000000 in
set_option maxRecDepth 100000 in
theorem aI.calls (k:Nat) (A0:Option Addr) (c0:Nat) (l0:List (eu)) (r:Bool) (w:World) (hr0:Kd.C qj w A0 l0.length l0) (hc0:l0.length<=c0) (h:aI.f k l0=some r):
  Calls Tryz.prog 15 #[.slice A0 l0.length c0] w fun e w'=>e= .returned (.bool r)/\Below w.heap.size w w':=by
 have gq:=ai.mk hr0
 have lC:=ai.mk hc0
 clear hr0 hc0
 have HB:=ai.mk (Below.refl w.heap.size w)
 have H:(aI.l0 k l0 ([]:List ByteArray) 0)=some r:=h
 clear h
 have H':=ai.mk H
 clear H
 go_enter Tryz.func15,Tryz.ntmps15
 go_wp2
 repeat(go_quiet (fail);try go_wp2)
 go_loopg [3,4] k (fun kq v3 v4 w'=>∃(fB:List ByteArray) (bq:Int),v4= .int .i64 bq/\ai (aI.l0 kq l0 fB bq=some r)/\ai (kq<=k)/\ai (Kd.R Kd.string 9 w' w.heap.size (fun _=>True) v3 fB)/\ai (Below w.heap.size w w'))
 case atStart=>exact⟨(([]:List ByteArray)),(0),(by first|rfl|(simp;done)|(simp[*];done)),H',⟨Nat.le_refl _⟩,⟨by first|exact Kd.jM _ _ _ _ _|exact Kd.kQ _ _ _ _ _|exact Kd.kS _ _ _ _ _|exact Kd.kR _ _ _ _ _|exact Kd.kg _ _ _ _ _⟩,⟨by repeat(first|(with_reducible first|exact HB.out|apply ag|apply af|apply ah)|exact HB.out)⟩⟩
 case round=>
  clear H'
  try clear c1
  obtain⟨fB,bq,rfl,HA,gH,jg,HB⟩:=hrel
  cases gk with
  |zero=>exact absurd HA.out (by simp[aI.l0])
  |succ k1=>
   have H:=HA.out
   clear HA
   simp only[aI.l0] at H
   by_cases c2:bq<(l0.length:Int)
   ·rw[if_pos c2] at H
    have jV:decide (bq<(l0.length:Int))=true:=decide_eq_true c2
    clear c2
    have H':=ai.mk H
    clear H
    go_wp2
    repeat(go_quiet (fail);try go_wp2)
    go_loopg [5] k1 (fun kq v5 w'=>∃(qi:Int),v5= .int .i64 qi/\ai (aI.l1 kq l0 fB bq qi=some r)/\ai (kq<=k1)/\ai (Kd.R Kd.string 9 w' w.heap.size (fun _=>True) u3 fB)/\ai (Below w.heap.size w w'))
    case atStart=>exact⟨(0),(by first|rfl|(simp;done)|(simp[*];done)),H',⟨Nat.le_refl _⟩,⟨by(with_reducible repeat(first|apply Kd.aM|apply Kd.aK|apply Kd.aV));exact jg.out⟩,⟨by repeat(first|(with_reducible first|exact HB.out|apply ag|apply af|apply ah)|exact HB.out)⟩⟩
    case round=>
     clear H'
     try clear c1
     try clear c2
     try clear jV
     try clear p2
     obtain⟨qi,rfl,HA,qB,jg,HB⟩:=hrel
     cases gk with
     |zero=>exact absurd HA.out (by simp[aI.l1])
     |succ k2=>
      have H:=HA.out
      clear HA
      simp only[aI.l1] at H
      by_cases c3:qi<2
      ·rw[if_pos c3] at H
       have iY:decide (qi<2)=true:=decide_eq_true c3
       clear c3
       by_cases c4:0<=bq
       ·rw[if_pos c4] at H
        have iw:decide (0<=bq)=true:=decide_eq_true c4
        clear c4
        by_cases c5:bq<(l0.length:Int)
        ·rw[if_pos c5] at H
         have iC:decide (bq<(l0.length:Int))=true:=decide_eq_true c5
         clear c5
         have Pk:=ai.mk H
         clear H
         have VQ:0<=(bq:Int):=of_decide_eq_true (by first|(with_reducible assumption)|assumption)
         have VU:bq<(l0.length:Int):=of_decide_eq_true (by first|(with_reducible assumption)|assumption)
         obtain⟨ad411,e411,wR,wT⟩:=jm gq.out bq VQ VU
         cases e411
         replace wR:=(HB.out.cell (World.block_lt_of_cell? w _ wR)).trans wR
         replace wT:=(HB.out.cell (World.block_lt_of_cell? w _ wT)).trans wT
         replace VQ:=eq_true VQ
         replace VU:=eq_true VU
         go_upto_if 27 with(fail)
         repeat(go_quiet (fail);go_upto_if 27 with(fail))
         go_cut [6] (fun v6 wc=>∃(kq:Nat) (OL:ByteArray),v6= .string OL/\ai (aI.j2 kq l0 fB bq qi OL=some r)/\ai (kq<=k2)/\ai (Kd.R Kd.string 9 wc w.heap.size (fun _=>True) u3 fB)/\ai (Below w.heap.size w wc))
         case first=>
          have H:=Pk.out
          clear Pk
          by_cases c7:qi=1
          ·rw[if_pos c7] at H
           have jU:(qi==1)=true:=beq_iff_eq.mpr c7
           have qw:(qi != 1)=false:=bne_eq_false_iff_eq.mpr c7
           clear c7
           (first|rw[jU]|(simp only[jY,lV];rw[jU])|skip)
           have H':=ai.mk H
           clear H
           have VR:0<=(bq:Int):=of_decide_eq_true (by first|(with_reducible assumption)|assumption)
           have VV:bq<(l0.length:Int):=of_decide_eq_true (by first|(with_reducible assumption)|assumption)
           obtain⟨ad412,e412,wU,wV⟩:=jm gq.out bq VR VV
           obtain rfl:ad411=ad412:=(by injection e412)
           replace wU:=(HB.out.cell (World.block_lt_of_cell? w _ wU)).trans wU
           replace wV:=(HB.out.cell (World.block_lt_of_cell? w _ wV)).trans wV
           replace VR:=eq_true VR
           replace VV:=eq_true VV
           go_wp2
           repeat(go_quiet (fail);try go_wp2)
           go_meet
           case rel=>exact⟨_,((bM l0 bq).f1),(by first|rfl|(simp;done)|(simp[*];done)),H',⟨by have:=gH.out;have:=qB.out;first|omega|exact Nat.le_refl _⟩,⟨by(with_reducible repeat(first|apply Kd.aM|apply Kd.aK|apply Kd.aV));exact jg.out⟩,⟨by repeat(first|(with_reducible first|exact HB.out|apply ag|apply af|apply ah)|exact HB.out)⟩⟩
          ·rw[if_neg c7] at H
           have jU:(qi==1)=false:=beq_eq_false_iff_ne.mpr c7
           have qw:(qi != 1)=true:=bne_iff_ne.mpr c7
           (first|rw[jU]|(simp only[jY,lV];rw[jU])|skip)
           have H':=ai.mk H
           clear H
           go_wp2
           repeat(go_quiet (fail);try go_wp2)
           go_meet
           case rel=>exact⟨_,((bM l0 bq).f0),(by first|rfl|(simp;done)|(simp[*];done)),H',⟨by have:=gH.out;have:=qB.out;first|omega|exact Nat.le_refl _⟩,⟨by(with_reducible repeat(first|apply Kd.aM|apply Kd.aK|apply Kd.aV));exact jg.out⟩,⟨by repeat(first|(with_reducible first|exact HB.out|apply ag|apply af|apply ah)|exact HB.out)⟩⟩
         case rest=>
          clear Pk
          try clear c1
          try clear c2
          try clear jV
          try clear p2
          try clear c3
          try clear iY
          try clear c4
          try clear iw
          try clear p4
          try clear q4
          try clear hx4
          try clear c5
          try clear iC
          try clear c7
          try clear jU
          try clear qw
          try clear wR
          try clear wT
          try clear wU
          try clear wV
          try clear p2
          try clear VQ
          try clear VR
          try clear VU
          try clear VV
          obtain⟨kq,OL,rfl,HA,HJ5,jg,HB⟩:=hcut
          cases kq with
          |zero=>exact absurd HA.out (by simp[aI.j2])
          |succ kj5=>
           have H:=HA.out
           clear HA
           simp only[aI.j2] at H
           have H':=ai.mk H
           clear H
           go_wp2
           repeat(go_quiet (fail);try go_wp2)
           go_loopg [7,8] kj5 (fun kq v7 v8 w'=>∃(x7_4:Bool) (xz:Int),v7= .bool x7_4/\v8= .int .i64 xz/\ai (aI.l2 kq l0 fB bq qi OL x7_4 xz=some r)/\ai (kq<=kj5)/\ai (Kd.R Kd.string 9 w' w.heap.size (fun _=>True) u3 fB)/\ai (Below w.heap.size w w'))
           case atStart=>exact⟨(((OL.size:Int)==1)),(0),(by first|rfl|(simp;done)|(simp[*];done)),(by first|rfl|(simp;done)|(simp[*];done)),H',⟨Nat.le_refl _⟩,⟨by(with_reducible repeat(first|apply Kd.aM|apply Kd.aK|apply Kd.aV));exact jg.out⟩,⟨by repeat(first|(with_reducible first|exact HB.out|apply ag|apply af|apply ah)|exact HB.out)⟩⟩
           case round=>
            clear H'
            try clear c1
            try clear c2
            try clear jV
            try clear p2
            try clear c3
            try clear iY
            try clear c4
            try clear iw
            try clear p4
            try clear q4
            try clear hx4
            try clear c5
            try clear iC
            try clear c7
            try clear jU
            try clear qw
            try clear wR
            try clear wT
            try clear wU
            try clear wV
            try clear p2
            try clear p4
            try clear VQ
            try clear VR
            try clear q4
            try clear VU
            try clear VV
            obtain⟨x7_4,xz,rfl,rfl,HA,Xh,jg,HB⟩:=hrel
            cases gk with
            |zero=>exact absurd HA.out (by simp[aI.l2])
            |succ k4=>
             have H:=HA.out
             clear HA
             simp only[aI.l2] at H
             by_cases c8:xz<(fB.length:Int)
             ·rw[if_pos c8] at H
              have qN:decide (xz<(fB.length:Int))=true:=decide_eq_true c8
              clear c8
              by_cases c9:x7_4=true
              ·subst c9
               have H1:(aI.l1 k4 l0 fB bq (wrap64 (qi+1)))=some r:=by rw[if_pos rfl] at H;exact H
               clear H
               have H:=H1
               clear H1
               have H':=ai.mk H
               clear H
               obtain⟨Aq,xW,PO⟩:=Kd.gL jg.out
               subst PO
               go_wp2
               repeat(go_quiet (fail);try go_wp2)
               go_roundg k4
               case measure=>have:=gH.out;have:=qB.out;have:=HJ5.out;have:=Xh.out;omega
               case rel=>exact⟨(wrap64 (qi+1)),(by first|rfl|(simp;done)|(simp[*];done)),H',⟨by have:=gH.out;have:=qB.out;have:=HJ5.out;have:=Xh.out;omega⟩,⟨by(with_reducible repeat(first|apply Kd.aM|apply Kd.aK|apply Kd.aV));exact jg.out⟩,⟨by repeat(first|(with_reducible first|exact HB.out|apply ag|apply af|apply ah)|exact HB.out)⟩⟩
              ·replace c9:=Bool.eq_false_iff.mpr c9
               subst c9
               have H1:(if 0<=xz then(aI.l2 k4 l0 fB bq qi OL ((dH ByteArray.empty fB xz).toList==OL.toList) (wrap64 (xz+1))) else(none))=some r:=by rw[if_neg (show¬(false=true) by decide)] at H;exact H
               clear H
               have H:=H1
               clear H1
               by_cases c11:0<=xz
               ·rw[if_pos c11] at H
                have kX:decide (0<=xz)=true:=decide_eq_true c11
                clear c11
                have H':=ai.mk H
                clear H
                obtain⟨Ao12,co12,eo12⟩:=Kd.gL jg.out
                subst eo12
                have p413:0<=(xz:Int):=of_decide_eq_true (by first|(with_reducible assumption)|assumption)
                have q413:xz<(fB.length:Int):=of_decide_eq_true (by first|(with_reducible assumption)|assumption)
                obtain⟨ad413,e413,hx413_0⟩:=Kd.dx (Kd.dP jg.out).2.2 xz p413 q413
                cases e413
                replace p413:=eq_true p413
                replace q413:=eq_true q413
                go_wp2
                repeat(go_quiet (fail);try go_wp2)
                go_roundg k4
                case measure=>have:=gH.out;have:=qB.out;have:=HJ5.out;have:=Xh.out;omega
                case rel=>exact⟨(((dH ByteArray.empty fB xz).toList==OL.toList)),(wrap64 (xz+1)),(by first|rfl|(simp;done)|(simp[*];done)),(by first|rfl|(simp;done)|(simp[*];done)),H',⟨by have:=gH.out;have:=qB.out;have:=HJ5.out;have:=Xh.out;omega⟩,⟨by(with_reducible repeat(first|apply Kd.aM|apply Kd.aK|apply Kd.aV));exact jg.out⟩,⟨by repeat(first|(with_reducible first|exact HB.out|apply ag|apply af|apply ah)|exact HB.out)⟩⟩
               ·rw[if_neg c11] at H
                exact absurd H (by simp)
             ·rw[if_neg c8] at H
              have qN:decide (xz<(fB.length:Int))=false:=decide_eq_false c8
              clear c8
              by_cases c13:x7_4=true
              ·subst c13
               have H1:(aI.l1 k4 l0 fB bq (wrap64 (qi+1)))=some r:=by rw[if_pos rfl] at H;exact H
               clear H
               have H:=H1
               clear H1
               have H':=ai.mk H
               clear H
               obtain⟨Lh,Mv,PQ⟩:=Kd.gL jg.out
               subst PQ
               go_wp2
               repeat(go_quiet (fail);try go_wp2)
               go_roundg k4
               case measure=>have:=gH.out;have:=qB.out;have:=HJ5.out;have:=Xh.out;omega
               case rel=>exact⟨(wrap64 (qi+1)),(by first|rfl|(simp;done)|(simp[*];done)),H',⟨by have:=gH.out;have:=qB.out;have:=HJ5.out;have:=Xh.out;omega⟩,⟨by(with_reducible repeat(first|apply Kd.aM|apply Kd.aK|apply Kd.aV));exact jg.out⟩,⟨by repeat(first|(with_reducible first|exact HB.out|apply ag|apply af|apply ah)|exact HB.out)⟩⟩
              ·replace c13:=Bool.eq_false_iff.mpr c13
               subst c13
               have H1:(some false)=some r:=by rw[if_neg (show¬(false=true) by decide)] at H;exact H
               clear H
               have H:=H1
               clear H1
               obtain rfl:=Option.some.inj H
               obtain⟨Ao15,co15,eo15⟩:=Kd.gL jg.out
               subst eo15
               go_wp2
               repeat(go_quiet (fail);try go_wp2)
               go_ret
               exact⟨by first|rfl|(simp[aC,aD]<;>rfl)|(simp[*,aC,aD]<;>rfl),by repeat(first|(with_reducible first|exact HB.out|apply ag|apply af|apply ah)|exact HB.out)⟩
        ·rw[if_neg c5] at H
         exact absurd H (by simp)
       ·rw[if_neg c4] at H
        exact absurd H (by simp)
      ·rw[if_neg c3] at H
       have iY:decide (qi<2)=false:=decide_eq_false c3
       clear c3
       by_cases c16:0<=bq
       ·rw[if_pos c16] at H
        have c16b0:decide (0<=bq)=true:=decide_eq_true c16
        clear c16
        by_cases c17:bq<(l0.length:Int)
        ·rw[if_pos c17] at H
         have c17b0:decide (bq<(l0.length:Int))=true:=decide_eq_true c17
         clear c17
         by_cases c18:((bM l0 bq).f0).size+((bM l0 bq).f1).size<=9223372036854775807
         ·rw[if_pos c18] at H
          have Ml:=eq_true c18
          have c18b1:decide (((bM l0 bq).f0).size+((bM l0 bq).f1).size<=9223372036854775807)=true:=decide_eq_true c18
          try have c18b2:(9223372036854775807<((bM l0 bq).f0).size+((bM l0 bq).f1).size)=False:=eq_false (Nat.not_lt.2 c18)
          have H':=ai.mk H
          clear H
          have p414:0<=(bq:Int):=of_decide_eq_true (by first|(with_reducible assumption)|assumption)
          have q414:bq<(l0.length:Int):=of_decide_eq_true (by first|(with_reducible assumption)|assumption)
          obtain⟨ad414,e414,CX,CY⟩:=jm gq.out bq p414 q414
          cases e414
          replace CX:=(HB.out.cell (World.block_lt_of_cell? w _ CX)).trans CX
          replace CY:=(HB.out.cell (World.block_lt_of_cell? w _ CY)).trans CY
          replace p414:=eq_true p414
          replace q414:=eq_true q414
          have p415:0<=(bq:Int):=of_decide_eq_true (by first|(with_reducible assumption)|assumption)
          have q415:bq<(l0.length:Int):=of_decide_eq_true (by first|(with_reducible assumption)|assumption)
          obtain⟨ad415,e415,CZ,Da⟩:=jm gq.out bq p415 q415
          obtain rfl:ad414=ad415:=(by injection e415)
          replace CZ:=(HB.out.cell (World.block_lt_of_cell? w _ CZ)).trans CZ
          replace Da:=(HB.out.cell (World.block_lt_of_cell? w _ Da)).trans Da
          replace p415:=eq_true p415
          replace q415:=eq_true q415
          go_wp2
          repeat(go_quiet (fail);try go_wp2)
          go_loopg [10] k2 (fun kq v10 w'=>∃(gQ:Int),v10= .int .i64 gQ/\ai (aI.l3 kq l0 fB bq (((bM l0 bq).f0)++((bM l0 bq).f1)) gQ=some r)/\ai (kq<=k2)/\ai (Kd.R Kd.string 9 w' w.heap.size (fun _=>True) u3 fB)/\ai (Below w.heap.size w w'))
          case atStart=>exact⟨(0),(by first|rfl|(simp;done)|(simp[*];done)),H',⟨Nat.le_refl _⟩,⟨by(with_reducible repeat(first|apply Kd.aM|apply Kd.aK|apply Kd.aV));exact jg.out⟩,⟨by repeat(first|(with_reducible first|exact HB.out|apply ag|apply af|apply ah)|exact HB.out)⟩⟩
          case round=>
           clear H'
           try clear c1
           try clear c2
           try clear jV
           try clear p2
           try clear c3
           try clear iY
           try clear c4
           try clear iw
           try clear p4
           try clear q4
           try clear hx4
           try clear c5
           try clear iC
           try clear p6
           try clear c7
           try clear jU
           try clear qw
           try clear c8
           try clear qN
           try clear c9
           try clear c11
           try clear kX
           try clear c13
           try clear c15
           try clear c16
           try clear c16b0
           try clear c17
           try clear c17b0
           try clear c18
           try clear Ml
           try clear c18b1
           try clear c18b2
           try clear wR
           try clear wT
           try clear wU
           try clear wV
           try clear hx413_0
           try clear CX
           try clear CY
           try clear CZ
           try clear Da
           try clear p2
           try clear p4
           try clear VQ
           try clear VR
           try clear p413
           try clear p414
           try clear p415
           try clear q4
           try clear VU
           try clear VV
           try clear q413
           try clear q414
           try clear q415
           obtain⟨gQ,rfl,HA,HK3,jg,HB⟩:=hrel
           cases gk with
           |zero=>exact absurd HA.out (by simp[aI.l3])
           |succ k3=>
            have H:=HA.out
            clear HA
            simp only[aI.l3] at H
            by_cases c19:gQ<(fB.length:Int)
            ·rw[if_pos c19] at H
             have c19b0:decide (gQ<(fB.length:Int))=true:=decide_eq_true c19
             clear c19
             by_cases c20:0<=gQ
             ·rw[if_pos c20] at H
              have Mm:decide (0<=gQ)=true:=decide_eq_true c20
              clear c20
              by_cases c21:(dH ByteArray.empty fB gQ).toList=(((bM l0 bq).f0)++((bM l0 bq).f1)).toList
              ·rw[if_pos c21] at H
               have Sv:((dH ByteArray.empty fB gQ).toList==(((bM l0 bq).f0)++((bM l0 bq).f1)).toList)=true:=beq_iff_eq.mpr c21
               have c21b1:((dH ByteArray.empty fB gQ).toList != (((bM l0 bq).f0)++((bM l0 bq).f1)).toList)=false:=bne_eq_false_iff_eq.mpr c21
               clear c21
               obtain rfl:=Option.some.inj H
               obtain⟨Ao22,co22,eo22⟩:=Kd.gL jg.out
               subst eo22
               have QK:0<=(gQ:Int):=of_decide_eq_true (by first|(with_reducible assumption)|assumption)
               have Rl:gQ<(fB.length:Int):=of_decide_eq_true (by first|(with_reducible assumption)|assumption)
               obtain⟨ad416,e416,hx416_0⟩:=Kd.dx (Kd.dP jg.out).2.2 gQ QK Rl
               cases e416
               replace QK:=eq_true QK
               replace Rl:=eq_true Rl
               go_wp2
               repeat(go_quiet (fail);try go_wp2)
               go_ret
               exact⟨by first|rfl|(simp[aC,aD]<;>rfl)|(simp[*,aC,aD]<;>rfl),by repeat(first|(with_reducible first|exact HB.out|apply ag|apply af|apply ah)|exact HB.out)⟩
              ·rw[if_neg c21] at H
               have Sv:((dH ByteArray.empty fB gQ).toList==(((bM l0 bq).f0)++((bM l0 bq).f1)).toList)=false:=beq_eq_false_iff_ne.mpr c21
               have c21b1:((dH ByteArray.empty fB gQ).toList != (((bM l0 bq).f0)++((bM l0 bq).f1)).toList)=true:=bne_iff_ne.mpr c21
               have H':=ai.mk H
               clear H
               obtain⟨Ao23,co23,eo23⟩:=Kd.gL jg.out
               subst eo23
               have QK:0<=(gQ:Int):=of_decide_eq_true (by first|(with_reducible assumption)|assumption)
               have Rl:gQ<(fB.length:Int):=of_decide_eq_true (by first|(with_reducible assumption)|assumption)
               obtain⟨ad416,e416,hx416_0⟩:=Kd.dx (Kd.dP jg.out).2.2 gQ QK Rl
               cases e416
               replace QK:=eq_true QK
               replace Rl:=eq_true Rl
               go_wp2
               repeat(go_quiet (fail);try go_wp2)
               go_roundg k3
               case measure=>have:=gH.out;have:=qB.out;have:=HK3.out;omega
               case rel=>exact⟨(wrap64 (gQ+1)),(by first|rfl|(simp;done)|(simp[*];done)),H',⟨by have:=gH.out;have:=qB.out;have:=HK3.out;omega⟩,⟨by(with_reducible repeat(first|apply Kd.aM|apply Kd.aK|apply Kd.aV));exact jg.out⟩,⟨by repeat(first|(with_reducible first|exact HB.out|apply ag|apply af|apply ah)|exact HB.out)⟩⟩
             ·rw[if_neg c20] at H
              exact absurd H (by simp)
            ·rw[if_neg c19] at H
             have c19b0:decide (gQ<(fB.length:Int))=false:=decide_eq_false c19
             clear c19
             by_cases c24:fB.length<8796093022208
             ·rw[if_pos c24] at H
              have Xw:=ai.mk c24
              clear c24
              obtain⟨y417,MZ⟩:∃y_:List ByteArray,y_=(fB++[(((bM l0 bq).f0)++((bM l0 bq).f1))]):=⟨_,rfl⟩
              replace H:(aI.l0 k3 l0 y417 (wrap64 (bq+1)))=some r:=by first|(rw[MZ];with_reducible exact H)|(have iB:=(Option.bind_some _ _).symm.trans H;rw[MZ];with_reducible exact iB)|(have iB:=(Option.bind_some _ _).symm.trans H;with_reducible exact iB)|with_reducible exact H|(rw[MZ];exact H)|exact H
              have Xz:=ai.mk MZ
              clear MZ
              have H':=ai.mk H
              clear H
              obtain⟨Ao25,co25,eo25⟩:=Kd.gL jg.out
              subst eo25
              go_wp2_with (first|((with_reducible refine bH (b:= .append) (xs:=#[.tmp 77,.tmp 79]) rfl ?_);at_builtin;refine Kd.bT Kd.string (w0:=w) w.heap.size rfl (.tmp 77) (.tmp 79) 54 9 (.string ⟨#[]⟩) 16 rfl Tryz.underlying54 ig rfl (by decide) (by omega) (.slice Ao25 fB.length co25) fB (((bM l0 bq).f0)++((bM l0 bq).f1)) [.string (((bM l0 bq).f0)++((bM l0 bq).f1))] (fun _=>True) (fun _=>False) rfl rfl ?aP (fun _ hk=>hk.elim) ?aF ?aO ?aB ?aS ?aL ?_;(case aP=>exact rfl);(case aB=>exact(by repeat(first|(with_reducible first|exact HB.out|apply ag|apply af|apply ah)|exact HB.out)));(case aF=>exact(fun _ _=>trivial));(case aO=>exact(by(with_reducible repeat(first|apply Kd.aM|apply Kd.aK|apply Kd.aV));exact jg.out));(case aS=>exact(ay (by repeat(first|(with_reducible first|exact HB.out|apply ag|apply af|apply ah)|exact HB.out))));(case aL=>have:=Xw.out;omega);intro v418 w26 ho hb hg hat;rw[<-Xz.out] at ho;have bN:=ai.mk (hb);have bP:=ai.mk (ho);clear HB;clear jg;have HB:=bN;have Xn:=bP;clear bN bP;clear ho hb hg hat))
              repeat(go_quiet (first|((with_reducible refine bH (b:= .append) (xs:=#[.tmp 77,.tmp 79]) rfl ?_);at_builtin;refine Kd.bT Kd.string (w0:=w) w.heap.size rfl (.tmp 77) (.tmp 79) 54 9 (.string ⟨#[]⟩) 16 rfl Tryz.underlying54 ig rfl (by decide) (by omega) (.slice Ao25 fB.length co25) fB (((bM l0 bq).f0)++((bM l0 bq).f1)) [.string (((bM l0 bq).f0)++((bM l0 bq).f1))] (fun _=>True) (fun _=>False) rfl rfl ?aP (fun _ hk=>hk.elim) ?aF ?aO ?aB ?aS ?aL ?_;(case aP=>exact rfl);(case aB=>exact(by repeat(first|(with_reducible first|exact HB.out|apply ag|apply af|apply ah)|exact HB.out)));(case aF=>exact(fun _ _=>trivial));(case aO=>exact(by(with_reducible repeat(first|apply Kd.aM|apply Kd.aK|apply Kd.aV));exact jg.out));(case aS=>exact(ay (by repeat(first|(with_reducible first|exact HB.out|apply ag|apply af|apply ah)|exact HB.out))));(case aL=>have:=Xw.out;omega);intro v418 w26 ho hb hg hat;rw[<-Xz.out] at ho;have bN:=ai.mk (hb);have bP:=ai.mk (ho);clear HB;clear jg;have HB:=bN;have Xn:=bP;clear bN bP;clear ho hb hg hat));try go_wp2_with (first|((with_reducible refine bH (b:= .append) (xs:=#[.tmp 77,.tmp 79]) rfl ?_);at_builtin;refine Kd.bT Kd.string (w0:=w) w.heap.size rfl (.tmp 77) (.tmp 79) 54 9 (.string ⟨#[]⟩) 16 rfl Tryz.underlying54 ig rfl (by decide) (by omega) (.slice Ao25 fB.length co25) fB (((bM l0 bq).f0)++((bM l0 bq).f1)) [.string (((bM l0 bq).f0)++((bM l0 bq).f1))] (fun _=>True) (fun _=>False) rfl rfl ?aP (fun _ hk=>hk.elim) ?aF ?aO ?aB ?aS ?aL ?_;(case aP=>exact rfl);(case aB=>exact(by repeat(first|(with_reducible first|exact HB.out|apply ag|apply af|apply ah)|exact HB.out)));(case aF=>exact(fun _ _=>trivial));(case aO=>exact(by(with_reducible repeat(first|apply Kd.aM|apply Kd.aK|apply Kd.aV));exact jg.out));(case aS=>exact(ay (by repeat(first|(with_reducible first|exact HB.out|apply ag|apply af|apply ah)|exact HB.out))));(case aL=>have:=Xw.out;omega);intro v418 w26 ho hb hg hat;rw[<-Xz.out] at ho;have bN:=ai.mk (hb);have bP:=ai.mk (ho);clear HB;clear jg;have HB:=bN;have Xn:=bP;clear bN bP;clear ho hb hg hat)))
              go_roundg k3
              case measure=>have:=gH.out;have:=qB.out;have:=HK3.out;omega
              case rel=>exact⟨(y417),(wrap64 (bq+1)),(by first|rfl|(simp;done)|(simp[*];done)),H',⟨by have:=gH.out;have:=qB.out;have:=HK3.out;omega⟩,⟨by(with_reducible repeat(first|apply Kd.aM|apply Kd.aK|apply Kd.aV));exact Xn.out⟩,⟨by repeat(first|(with_reducible first|exact HB.out|apply ag|apply af|apply ah)|exact HB.out)⟩⟩
             ·rw[if_neg c24] at H
              exact absurd H (by simp)
         ·rw[if_neg c18] at H
          exact absurd H (by simp)
        ·rw[if_neg c17] at H
         exact absurd H (by simp)
       ·rw[if_neg c16] at H
        exact absurd H (by simp)
   ·rw[if_neg c2] at H
    have jV:decide (bq<(l0.length:Int))=false:=decide_eq_false c2
    clear c2
    obtain rfl:=Option.some.inj H
    go_wp2
    repeat(go_quiet (fail);try go_wp2)
    go_ret
    exact⟨by first|rfl|(simp[aC,aD]<;>rfl)|(simp[*,aC,aD]<;>rfl),by repeat(first|(with_reducible first|exact HB.out|apply ag|apply af|apply ah)|exact HB.out)⟩
end Go.Proofs.YtilpincgjlclpaaGreat.Pr
