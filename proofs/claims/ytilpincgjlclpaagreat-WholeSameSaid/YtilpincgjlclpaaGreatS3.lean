import Derived.Test.YtilpincgjlclpaaGreatS2
set_option linter.unusedVariables false
set_option linter.unusedSimpArgs false
namespace Go.Proofs.YtilpincgjlclpaaGreat.Pr
open Go.RowKit Go.Proofs.ae.au Go.Proofs.ae.aZ Go.Proofs.ae.bE
attribute [local go_sem] bQ min2_int cB min_two max_three min_three max_four min_four
mutual
def bK.l0:Nat->ByteArray->List ByteArray->Int->Int->Option (List ByteArray)
 |0,_,_,_,_=>none
 |k+1,x0,x3,x4,x5=>if x5<=(x0.size:Int) then(if x5=(x0.size:Int) then(bK.j1 k x0 x3 x4 x5 true) else(if 0<=x5 then(if x5<(x0.size:Int) then((jJ.f (bt x0 x5)).bind fun aax=>(bK.j1 k x0 x3 x4 x5 aax)) else(none)) else(none))) else(some x3)
def bK.j1:Nat->ByteArray->List ByteArray->Int->Int->Bool->Option (List ByteArray)
 |0,_,_,_,_,_=>none
 |k+1,x0,x3,x4,x5,x21=>if x21=true then(if x5>x4 then(if 0<=x4 then(if x4<=x5 then(if x5<=(x0.size:Int) then(if x3.length<8796093022208 then(bK.l0 k x0 (x3++[x0.extract (x4:Int).toNat (x5:Int).toNat]) (wrap64 (x5+1)) (wrap64 (x5+1))) else(none)) else(none)) else(none)) else(none)) else(bK.l0 k x0 x3 (wrap64 (x5+1)) (wrap64 (x5+1)))) else(bK.l0 k x0 x3 x4 (wrap64 (x5+1)))
end
def bK.f (k:Nat) (a0:ByteArray):Option (List ByteArray):=bK.l0 k a0 ([]:List ByteArray) 0 0
set_option maxHeartbeats 8000000 in
set_option maxRecDepth 100000 in
theorem bK.calls (k:Nat) (a0:ByteArray) (r:List ByteArray) (w:World) (h:bK.f k a0=some r):
  Calls Tryz.prog 22 #[.string a0] w fun e w'=>∃rU:Value,e= .returned (rU)/\Kd.R Kd.string 9 w' w.heap.size (fun _=>True) rU r/\Below w.heap.size w w':=by
 have HB:=ai.mk (Below.refl w.heap.size w)
 have H:(bK.l0 k a0 ([]:List ByteArray) 0 0)=some r:=h
 clear h
 have H':=ai.mk H
 clear H
 go_enter Tryz.func22,Tryz.ntmps22
 go_wp2
 go_loopg [3,4,5] k (fun kq v3 v4 v5 w'=>∃(fB:List ByteArray) (bq:Int) (aT:Int),v4= .int .i64 bq/\v5= .int .i64 aT/\ai (bK.l0 kq a0 fB bq aT=some r)/\ai (kq<=k)/\ai (Kd.R Kd.string 9 w' w.heap.size (fun _=>True) v3 fB)/\ai (Below w.heap.size w w'))
 case atStart=>exact⟨(([]:List ByteArray)),(0),(0),(by first|rfl|(simp;done)|(simp[*];done)),(by first|rfl|(simp;done)|(simp[*];done)),H',⟨Nat.le_refl _⟩,⟨by first|exact Kd.jM _ _ _ _ _|exact Kd.kQ _ _ _ _ _|exact Kd.kS _ _ _ _ _|exact Kd.kR _ _ _ _ _|exact Kd.kg _ _ _ _ _⟩,⟨by repeat(first|(with_reducible first|exact HB.out|apply ag|apply af|apply ah)|exact HB.out)⟩⟩
 case round=>
  clear H'
  obtain⟨fB,bq,aT,rfl,rfl,HA,gH,jg,HB⟩:=hrel
  cases gk with
  |zero=>exact absurd HA.out (by simp[bK.l0])
  |succ k1=>
   have H:=HA.out
   clear HA
   simp only[bK.l0] at H
   by_cases c2:aT<=(a0.size:Int)
   ·rw[if_pos c2] at H
    have jV:decide (aT<=(a0.size:Int))=true:=decide_eq_true c2
    clear c2
    have Ci:=ai.mk H
    clear H
    go_upto_region 6 with(fail)
    go_cut [21] (fun v21 wc=>∃(kq:Nat) (UJ:Bool),v21= .bool UJ/\ai (bK.j1 kq a0 fB bq aT UJ=some r)/\ai (kq<=k1)/\ai (Kd.R Kd.string 9 wc w.heap.size (fun _=>True) u3 fB)/\ai (Below w.heap.size w wc))
    case first=>
     have H:=Ci.out
     clear Ci
     by_cases c4:aT=(a0.size:Int)
     ·rw[if_pos c4] at H
      have iw:(aT==(a0.size:Int))=true:=beq_iff_eq.mpr c4
      have ve:(aT != (a0.size:Int))=false:=bne_eq_false_iff_eq.mpr c4
      clear c4
      (first|rw[iw]|(simp only[jY,lV];rw[iw])|skip)
      have H':=ai.mk H
      clear H
      go_wp2
      go_meet
      case rel=>exact⟨_,(true),(by first|rfl|(simp;done)|(simp[*];done)),H',⟨by have:=gH.out;first|omega|exact Nat.le_refl _⟩,⟨by(with_reducible repeat(first|apply Kd.aM|apply Kd.aK|apply Kd.aV));exact jg.out⟩,⟨by repeat(first|(with_reducible first|exact HB.out|apply ag|apply af|apply ah)|exact HB.out)⟩⟩
     ·rw[if_neg c4] at H
      have iw:(aT==(a0.size:Int))=false:=beq_eq_false_iff_ne.mpr c4
      have ve:(aT != (a0.size:Int))=true:=bne_iff_ne.mpr c4
      (first|rw[iw]|(simp only[jY,lV];rw[iw])|skip)
      by_cases c5:0<=aT
      ·rw[if_pos c5] at H
       have iC:decide (0<=aT)=true:=decide_eq_true c5
       clear c5
       by_cases c6:aT<(a0.size:Int)
       ·rw[if_pos c6] at H
        have yR:decide (aT<(a0.size:Int))=true:=decide_eq_true c6
        clear c6
        replace H:=Option.bind_eq_some_iff.mp H
        obtain⟨aax,Xa,H⟩:=H
        replace H:(bK.j1 k1 a0 fB bq aT aax)=some r:=H
        have A8:=ai.mk Xa
        clear Xa
        have H':=ai.mk H
        clear H
        have p7:0<=(aT:Int):=of_decide_eq_true (by first|(with_reducible assumption)|assumption)
        have q7:aT<(a0.size:Int):=of_decide_eq_true (by first|(with_reducible assumption)|assumption)
        have hx7:=bt_at a0 aT
        replace p7:=eq_true p7
        replace q7:=eq_true q7
        go_wp2_with (first|(go_at_call 56;(with_reducible refine(jJ.calls (bt a0 aT) aax _ A8.out).mono ?_);rintro e w' ⟨rfl,⟨nd,rfl⟩⟩))
        go_meet
        case rel=>exact⟨_,(aax),(by first|rfl|(simp;done)|(simp[*];done)),H',⟨by have:=gH.out;first|omega|exact Nat.le_refl _⟩,⟨by(with_reducible repeat(first|apply Kd.aM|apply Kd.aK|apply Kd.aV));exact jg.out⟩,⟨by repeat(first|(with_reducible first|exact HB.out|apply ag|apply af|apply ah)|exact HB.out)⟩⟩
       ·rw[if_neg c6] at H
        exact absurd H (by simp)
      ·rw[if_neg c5] at H
       exact absurd H (by simp)
    case rest=>
     clear Ci
     try clear c2
     try clear jV
     try clear p2
     try clear c4
     try clear iw
     try clear ve
     try clear c5
     try clear iC
     try clear c6
     try clear yR
     try clear p7
     try clear q7
     try clear hx7
     try clear p7
     try clear q7
     obtain⟨kq,UJ,rfl,HA,HJ2,jg,HB⟩:=hcut
     cases kq with
     |zero=>exact absurd HA.out (by simp[bK.j1])
     |succ Nq=>
      have H:=HA.out
      clear HA
      simp only[bK.j1] at H
      by_cases c9:UJ=true
      ·subst c9
       have H1:(if aT>bq then(if 0<=bq then(if bq<=aT then(if aT<=(a0.size:Int) then(if fB.length<8796093022208 then(bK.l0 Nq a0 (fB++[a0.extract (bq:Int).toNat (aT:Int).toNat]) (wrap64 (aT+1)) (wrap64 (aT+1))) else(none)) else(none)) else(none)) else(none)) else(bK.l0 Nq a0 fB (wrap64 (aT+1)) (wrap64 (aT+1))))=some r:=by rw[if_pos rfl] at H;exact H
       clear H
       have H:=H1
       clear H1
       by_cases c10:aT>bq
       ·rw[if_pos c10] at H
        have lU:decide (bq<aT)=true:=decide_eq_true c10
        clear c10
        by_cases c11:0<=bq
        ·rw[if_pos c11] at H
         have kX:=eq_true c11
         have Sr:decide (0<=bq)=true:=decide_eq_true c11
         clear c11
         by_cases c12:bq<=aT
         ·rw[if_pos c12] at H
          have GQ:=eq_true c12
          have c12b1:decide (bq<=aT)=true:=decide_eq_true c12
          clear c12
          by_cases c13:aT<=(a0.size:Int)
          ·rw[if_pos c13] at H
           have Su:=eq_true c13
           have c13b1:decide (aT<=(a0.size:Int))=true:=decide_eq_true c13
           clear c13
           by_cases c14:fB.length<8796093022208
           ·rw[if_pos c14] at H
            have LMc14:=ai.mk c14
            clear c14
            obtain⟨y445,Nc⟩:∃y_:List ByteArray,y_=(fB++[a0.extract (bq:Int).toNat (aT:Int).toNat]):=⟨_,rfl⟩
            replace H:(bK.l0 Nq a0 y445 (wrap64 (aT+1)) (wrap64 (aT+1)))=some r:=by first|(rw[Nc];with_reducible exact H)|(have iB:=(Option.bind_some _ _).symm.trans H;rw[Nc];with_reducible exact iB)|(have iB:=(Option.bind_some _ _).symm.trans H;with_reducible exact iB)|with_reducible exact H|(rw[Nc];exact H)|exact H
            have Ny445:=ai.mk Nc
            clear Nc
            have H':=ai.mk H
            clear H
            go_wp2_with (first|((with_reducible refine bH (b:= .append) (xs:=#[.tmp 25,.tmp 30]) rfl ?_);at_builtin;refine Kd.bT Kd.string (w0:=w) w.heap.size rfl (.tmp 25) (.tmp 30) 54 9 (.string ⟨#[]⟩) 16 rfl Tryz.underlying54 ig rfl (by decide) (by omega) u3 fB (a0.extract (bq:Int).toNat (aT:Int).toNat) [.string (a0.extract (bq:Int).toNat (aT:Int).toNat)] (fun _=>True) (fun _=>False) rfl rfl ?aP (fun _ hk=>hk.elim) ?aF ?aO ?aB ?aS ?aL ?_;(case aP=>exact rfl);(case aB=>exact(by repeat(first|(with_reducible first|exact HB.out|apply ag|apply af|apply ah)|exact HB.out)));(case aF=>exact(fun _ _=>trivial));(case aO=>exact(by(with_reducible repeat(first|apply Kd.aM|apply Kd.aK|apply Kd.aV));exact jg.out));(case aS=>exact(ay (by repeat(first|(with_reducible first|exact HB.out|apply ag|apply af|apply ah)|exact HB.out))));(case aL=>have:=LMc14.out;omega);intro v446 OY ho hb hg hat;rw[<-Ny445.out] at ho;have bN:=ai.mk (hb);have bP:=ai.mk (ho);clear HB;clear jg;have HB:=bN;have HO447:=bP;clear bN bP;clear ho hb hg hat))
            go_roundg Nq
            case measure=>have:=gH.out;have:=HJ2.out;omega
            case rel=>exact⟨(y445),(wrap64 (aT+1)),(wrap64 (aT+1)),(by first|rfl|(simp;done)|(simp[*];done)),(by first|rfl|(simp;done)|(simp[*];done)),H',⟨by have:=gH.out;have:=HJ2.out;omega⟩,⟨by(with_reducible repeat(first|apply Kd.aM|apply Kd.aK|apply Kd.aV));exact HO447.out⟩,⟨by repeat(first|(with_reducible first|exact HB.out|apply ag|apply af|apply ah)|exact HB.out)⟩⟩
           ·rw[if_neg c14] at H
            exact absurd H (by simp)
          ·rw[if_neg c13] at H
           exact absurd H (by simp)
         ·rw[if_neg c12] at H
          exact absurd H (by simp)
        ·rw[if_neg c11] at H
         exact absurd H (by simp)
       ·rw[if_neg c10] at H
        have lU:decide (bq<aT)=false:=decide_eq_false c10
        clear c10
        have H':=ai.mk H
        clear H
        go_wp2
        go_roundg Nq
        case measure=>have:=gH.out;have:=HJ2.out;omega
        case rel=>exact⟨(fB),(wrap64 (aT+1)),(wrap64 (aT+1)),(by first|rfl|(simp;done)|(simp[*];done)),(by first|rfl|(simp;done)|(simp[*];done)),H',⟨by have:=gH.out;have:=HJ2.out;omega⟩,⟨by(with_reducible repeat(first|apply Kd.aM|apply Kd.aK|apply Kd.aV));exact jg.out⟩,⟨by repeat(first|(with_reducible first|exact HB.out|apply ag|apply af|apply ah)|exact HB.out)⟩⟩
      ·replace c9:=Bool.eq_false_iff.mpr c9
       subst c9
       have H1:(bK.l0 Nq a0 fB bq (wrap64 (aT+1)))=some r:=by rw[if_neg (show¬(false=true) by decide)] at H;exact H
       clear H
       have H:=H1
       clear H1
       have H':=ai.mk H
       clear H
       go_wp2
       go_roundg Nq
       case measure=>have:=gH.out;have:=HJ2.out;omega
       case rel=>exact⟨(fB),(bq),(wrap64 (aT+1)),(by first|rfl|(simp;done)|(simp[*];done)),(by first|rfl|(simp;done)|(simp[*];done)),H',⟨by have:=gH.out;have:=HJ2.out;omega⟩,⟨by(with_reducible repeat(first|apply Kd.aM|apply Kd.aK|apply Kd.aV));exact jg.out⟩,⟨by repeat(first|(with_reducible first|exact HB.out|apply ag|apply af|apply ah)|exact HB.out)⟩⟩
   ·rw[if_neg c2] at H
    have jV:decide (aT<=(a0.size:Int))=false:=decide_eq_false c2
    clear c2
    obtain rfl:=Option.some.inj H
    go_wp2
    go_ret
    exact⟨_,by first|rfl|(simp[aC,aD]<;>rfl)|(simp[*,aC,aD]<;>rfl),by(with_reducible repeat(first|apply Kd.aM|apply Kd.aK|apply Kd.aV));exact jg.out,by repeat(first|(with_reducible first|exact HB.out|apply ag|apply af|apply ah)|exact HB.out)⟩
end Go.Proofs.YtilpincgjlclpaaGreat.Pr
