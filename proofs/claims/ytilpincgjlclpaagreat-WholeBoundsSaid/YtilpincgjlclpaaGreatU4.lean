import Derived.Test.YtilpincgjlclpaaGreatB10
import Derived.Test.YtilpincgjlclpaaGreatU2
set_option linter.unusedVariables false
set_option linter.unusedSimpArgs false
section
namespace Go.Proofs.YtilpincgjlclpaaGreat.Pr
open Go.RowKit Go.Proofs.ae.au Go.Proofs.ae.aZ Go.Proofs.ae.bE
attribute [local go_sem] bQ min2_int cB min_two max_three min_three max_four min_four
set_option maxHeartbeats 8000000 in
set_option maxRecDepth 100000 in
theorem aR.calls (k:Nat) (a0:ByteArray) (r:List ByteArray) (w:World) (h:aR.f k a0=some r):
  Calls Tryz.prog 51 #[.string a0] w fun e w'=>∃rU:Value,e= .returned (rU)/\Kd.R Kd.string 9 w' w.heap.size (fun _=>True) rU r/\Below w.heap.size w w':=by
 have HB:=ai.mk (Below.refl w.heap.size w)
 have H:(aR.l0 k a0 ([]:List ByteArray) 0)=some r:=h
 clear h
 have H':=ai.mk H
 clear H
 go_enter Tryz.func51,Tryz.ntmps51
 go_wp2
 go_loopg [3,4] k (fun kq v3 v4 w'=>∃(fB:List ByteArray) (bq:Int),v4= .int .i64 bq/\ai (aR.l0 kq a0 fB bq=some r)/\ai (kq<=k)/\ai (Kd.R Kd.string 9 w' w.heap.size (fun _=>True) v3 fB)/\ai (Below w.heap.size w w'))
 case atStart=>exact⟨(([]:List ByteArray)),(0),(by first|rfl|(simp;done)|(simp[*];done)),H',⟨Nat.le_refl _⟩,⟨by first|exact Kd.jM _ _ _ _ _|exact Kd.kQ _ _ _ _ _|exact Kd.kS _ _ _ _ _|exact Kd.kR _ _ _ _ _|exact Kd.kg _ _ _ _ _⟩,⟨by repeat(first|(with_reducible first|exact HB.out|apply ag|apply af|apply ah)|exact HB.out)⟩⟩
 case round=>
  clear H'
  obtain⟨fB,bq,rfl,HA,gH,jg,HB⟩:=hrel
  cases gk with
  |zero=>exact absurd HA.out (by simp[aR.l0])
  |succ k1=>
   have H:=HA.out
   clear HA
   simp only[aR.l0] at H
   by_cases c2:bq<(a0.size:Int)
   ·rw[if_pos c2] at H
    have jV:decide (bq<(a0.size:Int))=true:=decide_eq_true c2
    clear c2
    by_cases c3:0<=bq
    ·rw[if_pos c3] at H
     have iY:=eq_true c3
     have qp:decide (0<=bq)=true:=decide_eq_true c3
     clear c3
     by_cases c4:bq<=(wrap64 (bq+1))
     ·rw[if_pos c4] at H
      have iw:=eq_true c4
      have ve:decide (bq<=(wrap64 (bq+1)))=true:=decide_eq_true c4
      by_cases c5:(wrap64 (bq+1))<=(a0.size:Int)
      ·rw[if_pos c5] at H
       have iC:=eq_true c5
       have oD:decide ((wrap64 (bq+1))<=(a0.size:Int))=true:=decide_eq_true c5
       by_cases c6:fB.length<8796093022208
       ·rw[if_pos c6] at H
        have Xx:=ai.mk c6
        clear c6
        obtain⟨OM,nX⟩:∃y_:List ByteArray,y_=(fB++[a0.extract (bq:Int).toNat ((wrap64 (bq+1)):Int).toNat]):=⟨_,rfl⟩
        replace H:(aR.l0 k1 a0 OM (wrap64 (bq+1)))=some r:=by first|(rw[nX];with_reducible exact H)|(have iB:=(Option.bind_some _ _).symm.trans H;rw[nX];with_reducible exact iB)|(have iB:=(Option.bind_some _ _).symm.trans H;with_reducible exact iB)|with_reducible exact H|(rw[nX];exact H)|exact H
        have LG:=ai.mk nX
        clear nX
        have H':=ai.mk H
        clear H
        go_wp2_with (first|((with_reducible refine bH (b:= .append) (xs:=#[.tmp 11,.tmp 17]) rfl ?_);at_builtin;refine Kd.bT Kd.string (w0:=w) w.heap.size rfl (.tmp 11) (.tmp 17) 54 9 (.string ⟨#[]⟩) 16 rfl Tryz.underlying54 ig rfl (by decide) (by omega) u3 fB (a0.extract (bq:Int).toNat ((wrap64 (bq+1)):Int).toNat) [.string (a0.extract (bq:Int).toNat ((wrap64 (bq+1)):Int).toNat)] (fun _=>True) (fun _=>False) rfl rfl ?aP (fun _ hk=>hk.elim) ?aF ?aO ?aB ?aS ?aL ?_;(case aP=>exact rfl);(case aB=>exact(by repeat(first|(with_reducible first|exact HB.out|apply ag|apply af|apply ah)|exact HB.out)));(case aF=>exact(fun _ _=>trivial));(case aO=>exact(by(with_reducible repeat(first|apply Kd.aM|apply Kd.aK|apply Kd.aV));exact jg.out));(case aS=>exact(ay (by repeat(first|(with_reducible first|exact HB.out|apply ag|apply af|apply ah)|exact HB.out))));(case aL=>have:=Xx.out;omega);intro v123 w7 ho hb hg hat;rw[<-LG.out] at ho;have bN:=ai.mk (hb);have bP:=ai.mk (ho);clear HB;clear jg;have HB:=bN;have LA:=bP;clear bN bP;clear ho hb hg hat))
        go_roundg k1
        case measure=>have:=gH.out;omega
        case rel=>exact⟨(OM),(wrap64 (bq+1)),(by first|rfl|(simp;done)|(simp[*];done)),H',⟨by have:=gH.out;omega⟩,⟨by(with_reducible repeat(first|apply Kd.aM|apply Kd.aK|apply Kd.aV));exact LA.out⟩,⟨by repeat(first|(with_reducible first|exact HB.out|apply ag|apply af|apply ah)|exact HB.out)⟩⟩
       ·rw[if_neg c6] at H
        exact absurd H (by simp)
      ·rw[if_neg c5] at H
       exact absurd H (by simp)
     ·rw[if_neg c4] at H
      exact absurd H (by simp)
    ·rw[if_neg c3] at H
     exact absurd H (by simp)
   ·rw[if_neg c2] at H
    have jV:decide (bq<(a0.size:Int))=false:=decide_eq_false c2
    clear c2
    obtain rfl:=Option.some.inj H
    go_wp2
    go_ret
    exact⟨_,by first|rfl|(simp[aC,aD]<;>rfl)|(simp[*,aC,aD]<;>rfl),by(with_reducible repeat(first|apply Kd.aM|apply Kd.aK|apply Kd.aV));exact jg.out,by repeat(first|(with_reducible first|exact HB.out|apply ag|apply af|apply ah)|exact HB.out)⟩
end Go.Proofs.YtilpincgjlclpaaGreat.Pr
end
section
namespace Go.Proofs.YtilpincgjlclpaaGreat.Pr
open Go.RowKit Go.Proofs.ae.au Go.Proofs.ae.aZ Go.Proofs.ae.bE
attribute [local go_sem] bQ min2_int cB min_two max_three min_three max_four min_four
def aQ.l0:Nat->List (dN)->Int->Int->Option (Bool)
 |0,_,_,_=>none
 |k+1,x0,x1,x5=>if x5<(x0.length:Int) then(if 0<=x5 then(if(((aU x0 x5).f0).size:Int)>100 then(some true) else(aQ.l0 k x0 x1 (wrap64 (x5+1)))) else(none)) else(some (decide ((x0.length:Int)>x1)))
def aQ.f (k:Nat) (l0:List (dN)) (a1:Int):Option (Bool):=aQ.l0 k l0 a1 0
set_option maxHeartbeats 8000000 in
set_option maxRecDepth 100000 in
theorem aQ.calls (k:Nat) (A0:Option Addr) (c0:Nat) (l0:List (dN)) (a1:Int) (r:Bool) (w:World) (hr0:Kd.C lQ w A0 l0.length l0) (hc0:l0.length<=c0) (h:aQ.f k l0 a1=some r):
  Calls Tryz.prog 36 #[.slice A0 l0.length c0,.int .i64 a1] w fun e w'=>e= .returned (.bool r)/\aJ w w':=by
 have gq:=ai.mk hr0
 have lC:=ai.mk hc0
 clear hr0 hc0
 have H:(aQ.l0 k l0 a1 0)=some r:=h
 clear h
 have H':=ai.mk H
 clear H
 go_enter Tryz.func36,Tryz.ntmps36
 go_wp2
 go_loopg [5] k (fun kq v5 w'=>∃(aT:Int),v5= .int .i64 aT/\ai (aQ.l0 kq l0 a1 aT=some r)/\ai (kq<=k)/\aJ w w')
 case atStart=>exact⟨(0),(by first|rfl|(simp;done)|(simp[*];done)),H',⟨Nat.le_refl _⟩,by repeat(first|exact aJ.refl _|apply aJ.step)⟩
 case round=>
  clear H'
  try clear p2
  obtain⟨aT,rfl,HA,gH,⟨m1,rfl⟩⟩:=hrel
  cases gk with
  |zero=>exact absurd HA.out (by simp[aQ.l0])
  |succ k1=>
   have H:=HA.out
   clear HA
   simp only[aQ.l0] at H
   by_cases c3:aT<(l0.length:Int)
   ·rw[if_pos c3] at H
    have iY:decide (aT<(l0.length:Int))=true:=decide_eq_true c3
    clear c3
    by_cases c4:0<=aT
    ·rw[if_pos c4] at H
     have iw:decide (0<=aT)=true:=decide_eq_true c4
     clear c4
     by_cases c5:(((aU l0 aT).f0).size:Int)>100
     ·rw[if_pos c5] at H
      have iC:decide (100<(((aU l0 aT).f0).size:Int))=true:=decide_eq_true c5
      have oD:decide (100<((aU l0 aT).f0).size)=true:=decide_eq_true (by omega)
      clear c5
      obtain rfl:=Option.some.inj H
      have pU:0<=(aT:Int):=of_decide_eq_true (by first|(with_reducible assumption)|assumption)
      have pW:aT<(l0.length:Int):=of_decide_eq_true (by first|(with_reducible assumption)|assumption)
      obtain⟨LP,DX,zo,zq⟩:=eP gq.out aT pU pW
      cases DX
      replace pU:=eq_true pU
      replace pW:=eq_true pW
      go_wp2
      go_ret
      exact⟨by first|rfl|(simp;done)|(simp[*];done),by repeat(first|exact aJ.refl _|apply aJ.step)⟩
     ·rw[if_neg c5] at H
      have iC:decide (100<(((aU l0 aT).f0).size:Int))=false:=decide_eq_false c5
      have oD:decide (100<((aU l0 aT).f0).size)=false:=decide_eq_false (by omega)
      clear c5
      have H':=ai.mk H
      clear H
      have pU:0<=(aT:Int):=of_decide_eq_true (by first|(with_reducible assumption)|assumption)
      have pW:aT<(l0.length:Int):=of_decide_eq_true (by first|(with_reducible assumption)|assumption)
      obtain⟨LP,DX,zo,zq⟩:=eP gq.out aT pU pW
      cases DX
      replace pU:=eq_true pU
      replace pW:=eq_true pW
      go_wp2
      go_roundg k1
      case measure=>have:=gH.out;omega
      case rel=>exact⟨(wrap64 (aT+1)),(by first|rfl|(simp;done)|(simp[*];done)),H',⟨by have:=gH.out;omega⟩,by repeat(first|exact aJ.refl _|apply aJ.step)⟩
    ·rw[if_neg c4] at H
     exact absurd H (by simp)
   ·rw[if_neg c3] at H
    have iY:decide (aT<(l0.length:Int))=false:=decide_eq_false c3
    clear c3
    obtain rfl:=Option.some.inj H
    go_wp2
    go_ret
    exact⟨by first|rfl|(simp;done)|(simp[*];done),by repeat(first|exact aJ.refl _|apply aJ.step)⟩
end Go.Proofs.YtilpincgjlclpaaGreat.Pr
end
