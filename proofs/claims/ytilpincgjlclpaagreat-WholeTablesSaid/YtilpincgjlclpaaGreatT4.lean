import Derived.Test.YtilpincgjlclpaaGreatB10
import Derived.Test.YtilpincgjlclpaaGreatT2
set_option linter.unusedVariables false
set_option linter.unusedSimpArgs false
section
namespace Go.Proofs.YtilpincgjlclpaaGreat.Pr
open Go.RowKit Go.Proofs.ae.au Go.Proofs.ae.aZ Go.Proofs.ae.bE
attribute [local go_sem] bQ min2_int cB min_two max_three min_three max_four min_four
set_option maxHeartbeats 8000000 in
set_option maxRecDepth 100000 in
theorem aR.calls (k:Nat) (a0:ByteArray) (r:List ByteArray) (w:World) (h:aR.f k a0=some r):
  Calls Tryz.prog 51 #[.string a0] w fun e w'=>∃rU:Value,e= .returned (rU)/\Kd.R Kd.string 9 w' w.heap.size (fun _=>True) rU r/\Below w.heap.size w w':=by
 have HB:=ai.mk (Below.refl w.heap.size w)
 have H:(aR.l0 k a0 ([]:List ByteArray) 0)=some r:=h
 clear h
 have H':=ai.mk H
 clear H
 go_enter Tryz.func51,Tryz.ntmps51
 go_wp2
 go_loopg [3,4] k (fun kq v3 v4 w'=>∃(fB:List ByteArray) (bq:Int),v4= .int .i64 bq/\ai (aR.l0 kq a0 fB bq=some r)/\ai (kq<=k)/\ai (Kd.R Kd.string 9 w' w.heap.size (fun _=>True) v3 fB)/\ai (Below w.heap.size w w'))
 case atStart=>exact⟨(([]:List ByteArray)),(0),(by first|rfl|(simp;done)|(simp[*];done)),H',⟨Nat.le_refl _⟩,⟨by first|exact Kd.jM _ _ _ _ _|exact Kd.kQ _ _ _ _ _|exact Kd.kS _ _ _ _ _|exact Kd.kR _ _ _ _ _|exact Kd.kg _ _ _ _ _⟩,⟨by repeat(first|(with_reducible first|exact HB.out|apply ag|apply af|apply ah)|exact HB.out)⟩⟩
 case round=>
  clear H'
  obtain⟨fB,bq,rfl,HA,gH,jg,HB⟩:=hrel
  cases gk with
  |zero=>exact absurd HA.out (by simp[aR.l0])
  |succ k1=>
   have H:=HA.out
   clear HA
   simp only[aR.l0] at H
   by_cases c2:bq<(a0.size:Int)
   ·rw[if_pos c2] at H
    have jV:decide (bq<(a0.size:Int))=true:=decide_eq_true c2
    clear c2
    by_cases c3:0<=bq
    ·rw[if_pos c3] at H
     have iY:=eq_true c3
     have qp:decide (0<=bq)=true:=decide_eq_true c3
     clear c3
     by_cases c4:bq<=(wrap64 (bq+1))
     ·rw[if_pos c4] at H
      have iw:=eq_true c4
      have ve:decide (bq<=(wrap64 (bq+1)))=true:=decide_eq_true c4
      by_cases c5:(wrap64 (bq+1))<=(a0.size:Int)
      ·rw[if_pos c5] at H
       have iC:=eq_true c5
       have oD:decide ((wrap64 (bq+1))<=(a0.size:Int))=true:=decide_eq_true c5
       by_cases c6:fB.length<8796093022208
       ·rw[if_pos c6] at H
        have Xx:=ai.mk c6
        clear c6
        obtain⟨OM,nX⟩:∃y_:List ByteArray,y_=(fB++[a0.extract (bq:Int).toNat ((wrap64 (bq+1)):Int).toNat]):=⟨_,rfl⟩
        replace H:(aR.l0 k1 a0 OM (wrap64 (bq+1)))=some r:=by first|(rw[nX];with_reducible exact H)|(have iB:=(Option.bind_some _ _).symm.trans H;rw[nX];with_reducible exact iB)|(have iB:=(Option.bind_some _ _).symm.trans H;with_reducible exact iB)|with_reducible exact H|(rw[nX];exact H)|exact H
        have LG:=ai.mk nX
        clear nX
        have H':=ai.mk H
        clear H
        go_wp2_with (first|((with_reducible refine bH (b:= .append) (xs:=#[.tmp 11,.tmp 17]) rfl ?_);at_builtin;refine Kd.bT Kd.string (w0:=w) w.heap.size rfl (.tmp 11) (.tmp 17) 54 9 (.string ⟨#[]⟩) 16 rfl Tryz.underlying54 ig rfl (by decide) (by omega) u3 fB (a0.extract (bq:Int).toNat ((wrap64 (bq+1)):Int).toNat) [.string (a0.extract (bq:Int).toNat ((wrap64 (bq+1)):Int).toNat)] (fun _=>True) (fun _=>False) rfl rfl ?aP (fun _ hk=>hk.elim) ?aF ?aO ?aB ?aS ?aL ?_;(case aP=>exact rfl);(case aB=>exact(by repeat(first|(with_reducible first|exact HB.out|apply ag|apply af|apply ah)|exact HB.out)));(case aF=>exact(fun _ _=>trivial));(case aO=>exact(by(with_reducible repeat(first|apply Kd.aM|apply Kd.aK|apply Kd.aV));exact jg.out));(case aS=>exact(ay (by repeat(first|(with_reducible first|exact HB.out|apply ag|apply af|apply ah)|exact HB.out))));(case aL=>have:=Xx.out;omega);intro v123 w7 ho hb hg hat;rw[<-LG.out] at ho;have bN:=ai.mk (hb);have bP:=ai.mk (ho);clear HB;clear jg;have HB:=bN;have LA:=bP;clear bN bP;clear ho hb hg hat))
        go_roundg k1
        case measure=>have:=gH.out;omega
        case rel=>exact⟨(OM),(wrap64 (bq+1)),(by first|rfl|(simp;done)|(simp[*];done)),H',⟨by have:=gH.out;omega⟩,⟨by(with_reducible repeat(first|apply Kd.aM|apply Kd.aK|apply Kd.aV));exact LA.out⟩,⟨by repeat(first|(with_reducible first|exact HB.out|apply ag|apply af|apply ah)|exact HB.out)⟩⟩
       ·rw[if_neg c6] at H
        exact absurd H (by simp)
      ·rw[if_neg c5] at H
       exact absurd H (by simp)
     ·rw[if_neg c4] at H
      exact absurd H (by simp)
    ·rw[if_neg c3] at H
     exact absurd H (by simp)
   ·rw[if_neg c2] at H
    have jV:decide (bq<(a0.size:Int))=false:=decide_eq_false c2
    clear c2
    obtain rfl:=Option.some.inj H
    go_wp2
    go_ret
    exact⟨_,by first|rfl|(simp[aC,aD]<;>rfl)|(simp[*,aC,aD]<;>rfl),by(with_reducible repeat(first|apply Kd.aM|apply Kd.aK|apply Kd.aV));exact jg.out,by repeat(first|(with_reducible first|exact HB.out|apply ag|apply af|apply ah)|exact HB.out)⟩
end Go.Proofs.YtilpincgjlclpaaGreat.Pr
end
section
namespace Go.Proofs.YtilpincgjlclpaaGreat.Pr
open Go.RowKit Go.Proofs.ae.au Go.Proofs.ae.aZ Go.Proofs.ae.bE
attribute [local go_sem] bQ min2_int cB min_two max_three min_three max_four min_four
set_option maxHeartbeats 8000000 in
set_option maxRecDepth 100000 in
theorem cK.calls (a0:Int) (a1:Int) (r1:Int) (r2:Bool) (w:World) (h:cK.f a0 a1=some (r1,r2)):
  Calls Tryz.prog 97 #[.int .i64 a0,.int .i64 a1] w fun e w'=>e= .returned (.tuple #[.int .i64 r1,.bool r2])/\aJ w w':=by
 have H:(if a0<0 then(some (0,false)) else(if a1<0 then(some (0,false)) else(if(wrap64 (a0+a1))<0 then(some (0,false)) else(some (wrap64 (a0+a1),true)))))=some (r1,r2):=h
 clear h
 by_cases c3:a0<0
 ·rw[if_pos c3] at H
  have iY:decide (a0<0)=true:=decide_eq_true c3
  clear c3
  simp only[Option.some.injEq,Prod.mk.injEq] at H
  obtain⟨rfl,rfl⟩:=H
  go_enter Tryz.func97,Tryz.ntmps97
  go_wp2
  go_ret2
  exact⟨by first|rfl|(simp;done)|(simp[*];done),by repeat(first|exact aJ.refl _|apply aJ.step)⟩
 ·rw[if_neg c3] at H
  have iY:decide (a0<0)=false:=decide_eq_false c3
  clear c3
  by_cases c4:a1<0
  ·rw[if_pos c4] at H
   have iw:decide (a1<0)=true:=decide_eq_true c4
   clear c4
   simp only[Option.some.injEq,Prod.mk.injEq] at H
   obtain⟨rfl,rfl⟩:=H
   go_enter Tryz.func97,Tryz.ntmps97
   go_wp2
   go_ret2
   exact⟨by first|rfl|(simp;done)|(simp[*];done),by repeat(first|exact aJ.refl _|apply aJ.step)⟩
  ·rw[if_neg c4] at H
   have iw:decide (a1<0)=false:=decide_eq_false c4
   clear c4
   by_cases c5:(wrap64 (a0+a1))<0
   ·rw[if_pos c5] at H
    have iC:decide ((wrap64 (a0+a1))<0)=true:=decide_eq_true c5
    clear c5
    simp only[Option.some.injEq,Prod.mk.injEq] at H
    obtain⟨rfl,rfl⟩:=H
    go_enter Tryz.func97,Tryz.ntmps97
    go_wp2
    go_ret2
    exact⟨by first|rfl|(simp;done)|(simp[*];done),by repeat(first|exact aJ.refl _|apply aJ.step)⟩
   ·rw[if_neg c5] at H
    have iC:decide ((wrap64 (a0+a1))<0)=false:=decide_eq_false c5
    clear c5
    simp only[Option.some.injEq,Prod.mk.injEq] at H
    obtain⟨rfl,rfl⟩:=H
    go_enter Tryz.func97,Tryz.ntmps97
    go_wp2
    go_ret2
    exact⟨by first|rfl|(simp;done)|(simp[*];done),by repeat(first|exact aJ.refl _|apply aJ.step)⟩
end Go.Proofs.YtilpincgjlclpaaGreat.Pr
end
section
namespace Go.Proofs.YtilpincgjlclpaaGreat.Pr
open Go.RowKit Go.Proofs.ae.au Go.Proofs.ae.aZ Go.Proofs.ae.bE
theorem dY.calls (a0:Int) (a1:Int) (r1:Int) (r2:Bool) (w:World) (h:dY.f a0 a1=some (r1,r2)):
  Calls Tryz.prog 141 #[.int .i64 a0,.int .i64 a1] w fun e w'=>e= .returned (.tuple #[.int .i64 r1,.bool r2])/\aJ w w':=by
 unfold dY.f at h
 by_cases c1:a0<0
 ·rw[if_pos c1] at h
  cases h
  have d1:decide (a0<0)=true:=decide_eq_true c1
  go_enter Tryz.func141,Tryz.ntmps141
  go_wp2
  go_ret2
  exact⟨rfl,aJ.refl _⟩
 rw[if_neg c1] at h
 have d1:decide (a0<0)=false:=decide_eq_false c1
 by_cases c2:a1<0
 ·rw[if_pos c2] at h
  cases h
  have d2:decide (a1<0)=true:=decide_eq_true c2
  go_enter Tryz.func141,Tryz.ntmps141
  go_wp2
  go_ret2
  exact⟨rfl,aJ.refl _⟩
 rw[if_neg c2] at h
 have d2:decide (a1<0)=false:=decide_eq_false c2
 by_cases c3:0<a1
 ·have hq:(9223372036854775807:Int)/a1<=9223372036854775807:=Int.ediv_le_self _ (by omega)
  have hq0:0<=(9223372036854775807:Int)/a1:=Int.ediv_nonneg (by omega) (by omega)
  by_cases c4:9223372036854775807/a1<a0
  ·rw[if_pos ⟨c3,c4⟩] at h
   cases h
   go_enter Tryz.func141,Tryz.ntmps141
   go_wp2
   go_ret2
   exact⟨rfl,aJ.refl _⟩
  ·rw[if_neg (fun z=>c4 z.2)] at h
   cases h
   have d4:decide (9223372036854775807/a1<a0)=false:=decide_eq_false c4
   go_enter Tryz.func141,Tryz.ntmps141
   go_wp2
   go_ret2
   exact⟨rfl,aJ.refl _⟩
 ·rw[if_neg (fun z=>c3 z.1)] at h
  cases h
  have d3:decide (0<a1)=false:=decide_eq_false c3
  go_enter Tryz.func141,Tryz.ntmps141
  go_wp2
  go_ret2
  exact⟨rfl,aJ.refl _⟩
end Go.Proofs.YtilpincgjlclpaaGreat.Pr
end
