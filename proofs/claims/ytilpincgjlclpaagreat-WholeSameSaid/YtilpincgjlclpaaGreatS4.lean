import Derived.Test.YtilpincgjlclpaaGreatS1
set_option linter.unusedVariables false
set_option linter.unusedSimpArgs false
namespace Go.Proofs.YtilpincgjlclpaaGreat.Pr
open Go.RowKit Go.Proofs.ae.au Go.Proofs.ae.aZ Go.Proofs.ae.bE
attribute [local go_sem] bQ min2_int cB min_two max_three min_three max_four min_four
def eF.l0:Nat->ByteArray->List Int->List ByteArray->Int->Int->Option (List ByteArray)
 |0,_,_,_,_,_=>none
 |k+1,x0,x1,x5,x6,x7=>if x6<(x0.size:Int) then(if x7<(x1.length:Int) then(if 0<=x7 then(if(wrap64 ((x0.size:Int)-x6))=0 then(none) else(if 0<=x6 then(if x6<=(wrap64 ((wrap64 (x6+1))+(Int.tmod (wrap64 (rd x1 x7)) (wrap64 ((x0.size:Int)-x6))))) then(if(wrap64 ((wrap64 (x6+1))+(Int.tmod (wrap64 (rd x1 x7)) (wrap64 ((x0.size:Int)-x6)))))<=(x0.size:Int) then(if x5.length<8796093022208 then(eF.l0 k x0 x1 (x5++[x0.extract (x6:Int).toNat ((wrap64 ((wrap64 (x6+1))+(Int.tmod (wrap64 (rd x1 x7)) (wrap64 ((x0.size:Int)-x6))))):Int).toNat]) (wrap64 ((wrap64 (x6+1))+(Int.tmod (wrap64 (rd x1 x7)) (wrap64 ((x0.size:Int)-x6))))) (wrap64 (x7+1))) else(none)) else(none)) else(none)) else(none))) else(none)) else(if 0<=x6 then(if x6<=(x0.size:Int) then(if(x0.size:Int)<=(x0.size:Int) then(if x5.length<8796093022208 then(eF.l0 k x0 x1 (x5++[x0.extract (x6:Int).toNat ((x0.size:Int):Int).toNat]) (x0.size:Int) (wrap64 (x7+1))) else(none)) else(none)) else(none)) else(none))) else(some x5)
def eF.f (k:Nat) (a0:ByteArray) (l1:List Int):Option (List ByteArray):=eF.l0 k a0 l1 ([]:List ByteArray) 0 0
set_option maxHeartbeats 8000000 in
set_option maxRecDepth 100000 in
theorem eF.calls (k:Nat) (a0:ByteArray) (A1:Option Addr) (c1:Nat) (l1:List Int) (r:List ByteArray) (w:World) (hr1:Kd.C (Kd.int .u16) w A1 l1.length l1) (hc1:l1.length<=c1) (h:eF.f k a0 l1=some r):
  Calls Tryz.prog 20 #[.string a0,.slice A1 l1.length c1] w fun e w'=>∃rU:Value,e= .returned (rU)/\Kd.R Kd.string 9 w' w.heap.size (fun _=>True) rU r/\Below w.heap.size w w':=by
 have HR1:=ai.mk hr1
 have Ch:=ai.mk hc1
 clear hr1 hc1
 have HB:=ai.mk (Below.refl w.heap.size w)
 have H:(eF.l0 k a0 l1 ([]:List ByteArray) 0 0)=some r:=h
 clear h
 have H':=ai.mk H
 clear H
 go_enter Tryz.func20,Tryz.ntmps20
 go_wp2
 go_loopg [5,6,7] k (fun kq v5 v6 v7 w'=>∃(aT:List ByteArray) (bB:Int) (gN:Int),v6= .int .i64 bB/\v7= .int .i64 gN/\ai (eF.l0 kq a0 l1 aT bB gN=some r)/\ai (kq<=k)/\ai (Kd.R Kd.string 9 w' w.heap.size (fun _=>True) v5 aT)/\ai (Below w.heap.size w w'))
 case atStart=>exact⟨(([]:List ByteArray)),(0),(0),(by first|rfl|(simp;done)|(simp[*];done)),(by first|rfl|(simp;done)|(simp[*];done)),H',⟨Nat.le_refl _⟩,⟨by first|exact Kd.jM _ _ _ _ _|exact Kd.kQ _ _ _ _ _|exact Kd.kS _ _ _ _ _|exact Kd.kR _ _ _ _ _|exact Kd.kg _ _ _ _ _⟩,⟨by repeat(first|(with_reducible first|exact HB.out|apply ag|apply af|apply ah)|exact HB.out)⟩⟩
 case round=>
  clear H'
  try clear c1
  try clear c2
  try clear p2
  obtain⟨aT,bB,gN,rfl,rfl,HA,gH,cO,HB⟩:=hrel
  cases gk with
  |zero=>exact absurd HA.out (by simp[eF.l0])
  |succ k1=>
   have H:=HA.out
   clear HA
   simp only[eF.l0] at H
   by_cases c3:bB<(a0.size:Int)
   ·rw[if_pos c3] at H
    have iY:decide (bB<(a0.size:Int))=true:=decide_eq_true c3
    clear c3
    by_cases c4:gN<(l1.length:Int)
    ·rw[if_pos c4] at H
     have iw:decide (gN<(l1.length:Int))=true:=decide_eq_true c4
     clear c4
     by_cases c5:0<=gN
     ·rw[if_pos c5] at H
      have iC:decide (0<=gN)=true:=decide_eq_true c5
      clear c5
      by_cases c6:(wrap64 ((a0.size:Int)-bB))=0
      ·rw[if_pos c6] at H
       exact absurd H (by simp)
      ·rw[if_neg c6] at H
       have yR:((wrap64 ((a0.size:Int)-bB))==0)=false:=beq_eq_false_iff_ne.mpr c6
       have c6b1:((wrap64 ((a0.size:Int)-bB)) != 0)=true:=bne_iff_ne.mpr c6
       by_cases c7:0<=bB
       ·rw[if_pos c7] at H
        have jU:=eq_true c7
        have qw:decide (0<=bB)=true:=decide_eq_true c7
        clear c7
        by_cases c8:bB<=(wrap64 ((wrap64 (bB+1))+(Int.tmod (wrap64 (rd l1 gN)) (wrap64 ((a0.size:Int)-bB)))))
        ·rw[if_pos c8] at H
         have qN:=eq_true c8
         have c8b1:decide (bB<=(wrap64 ((wrap64 (bB+1))+(Int.tmod (wrap64 (rd l1 gN)) (wrap64 ((a0.size:Int)-bB))))))=true:=decide_eq_true c8
         by_cases c9:(wrap64 ((wrap64 (bB+1))+(Int.tmod (wrap64 (rd l1 gN)) (wrap64 ((a0.size:Int)-bB)))))<=(a0.size:Int)
         ·rw[if_pos c9] at H
          have qx:=eq_true c9
          have Ve:decide ((wrap64 ((wrap64 (bB+1))+(Int.tmod (wrap64 (rd l1 gN)) (wrap64 ((a0.size:Int)-bB)))))<=(a0.size:Int))=true:=decide_eq_true c9
          by_cases c10:aT.length<8796093022208
          ·rw[if_pos c10] at H
           have LF:=ai.mk c10
           clear c10
           obtain⟨y436,Na⟩:∃y_:List ByteArray,y_=(aT++[a0.extract (bB:Int).toNat ((wrap64 ((wrap64 (bB+1))+(Int.tmod (wrap64 (rd l1 gN)) (wrap64 ((a0.size:Int)-bB))))):Int).toNat]):=⟨_,rfl⟩
           replace H:(eF.l0 k1 a0 l1 y436 (wrap64 ((wrap64 (bB+1))+(Int.tmod (wrap64 (rd l1 gN)) (wrap64 ((a0.size:Int)-bB))))) (wrap64 (gN+1)))=some r:=by first|(rw[Na];with_reducible exact H)|(have iB:=(Option.bind_some _ _).symm.trans H;rw[Na];with_reducible exact iB)|(have iB:=(Option.bind_some _ _).symm.trans H;with_reducible exact iB)|with_reducible exact H|(rw[Na];exact H)|exact H
           have Ny436:=ai.mk Na
           clear Na
           have H':=ai.mk H
           clear H
           have p435:0<=(gN:Int):=of_decide_eq_true (by first|(with_reducible assumption)|assumption)
           have q435:gN<(l1.length:Int):=of_decide_eq_true (by first|(with_reducible assumption)|assumption)
           obtain⟨ad435,e435,Kb⟩:=Kd.kW HR1.out gN p435 q435
           cases e435
           replace Kb:=(HB.out.cell (World.block_lt_of_cell? w _ Kb)).trans Kb
           replace p435:=eq_true p435
           replace q435:=eq_true q435
           go_wp2_with (first|((with_reducible refine bH (b:= .append) (xs:=#[.tmp 34,.tmp 39]) rfl ?_);at_builtin;refine Kd.bT Kd.string (w0:=w) w.heap.size rfl (.tmp 34) (.tmp 39) 54 9 (.string ⟨#[]⟩) 16 rfl Tryz.underlying54 ig rfl (by decide) (by omega) u5 aT (a0.extract (bB:Int).toNat ((wrap64 ((wrap64 (bB+1))+(Int.tmod (wrap64 (rd l1 gN)) (wrap64 ((a0.size:Int)-bB))))):Int).toNat) [.string (a0.extract (bB:Int).toNat ((wrap64 ((wrap64 (bB+1))+(Int.tmod (wrap64 (rd l1 gN)) (wrap64 ((a0.size:Int)-bB))))):Int).toNat)] (fun _=>True) (fun _=>False) rfl rfl ?aP (fun _ hk=>hk.elim) ?aF ?aO ?aB ?aS ?aL ?_;(case aP=>exact rfl);(case aB=>exact(by repeat(first|(with_reducible first|exact HB.out|apply ag|apply af|apply ah)|exact HB.out)));(case aF=>exact(fun _ _=>trivial));(case aO=>exact(by(with_reducible repeat(first|apply Kd.aM|apply Kd.aK|apply Kd.aV));exact cO.out));(case aS=>exact(ay (by repeat(first|(with_reducible first|exact HB.out|apply ag|apply af|apply ah)|exact HB.out))));(case aL=>have:=LF.out;omega);intro v437 w11 ho hb hg hat;rw[<-Ny436.out] at ho;have bN:=ai.mk (hb);have bP:=ai.mk (ho);clear HB;clear cO;have HB:=bN;have HO438:=bP;clear bN bP;clear ho hb hg hat))
           go_roundg k1
           case measure=>have:=gH.out;omega
           case rel=>exact⟨(y436),(wrap64 ((wrap64 (bB+1))+(Int.tmod (wrap64 (rd l1 gN)) (wrap64 ((a0.size:Int)-bB))))),(wrap64 (gN+1)),(by first|rfl|(simp;done)|(simp[*];done)),(by first|rfl|(simp;done)|(simp[*];done)),H',⟨by have:=gH.out;omega⟩,⟨by(with_reducible repeat(first|apply Kd.aM|apply Kd.aK|apply Kd.aV));exact HO438.out⟩,⟨by repeat(first|(with_reducible first|exact HB.out|apply ag|apply af|apply ah)|exact HB.out)⟩⟩
          ·rw[if_neg c10] at H
           exact absurd H (by simp)
         ·rw[if_neg c9] at H
          exact absurd H (by simp)
        ·rw[if_neg c8] at H
         exact absurd H (by simp)
       ·rw[if_neg c7] at H
        exact absurd H (by simp)
     ·rw[if_neg c5] at H
      exact absurd H (by simp)
    ·rw[if_neg c4] at H
     have iw:decide (gN<(l1.length:Int))=false:=decide_eq_false c4
     clear c4
     by_cases c12:0<=bB
     ·rw[if_pos c12] at H
      have GQ:=eq_true c12
      have c12b1:decide (0<=bB)=true:=decide_eq_true c12
      clear c12
      by_cases c13:bB<=(a0.size:Int)
      ·rw[if_pos c13] at H
       have Su:=eq_true c13
       have c13b1:decide (bB<=(a0.size:Int))=true:=decide_eq_true c13
       clear c13
       by_cases c14:(a0.size:Int)<=(a0.size:Int)
       ·rw[if_pos c14] at H
        have uj:=eq_true c14
        have c14b1:decide ((a0.size:Int)<=(a0.size:Int))=true:=decide_eq_true c14
        clear c14
        by_cases c15:aT.length<8796093022208
        ·rw[if_pos c15] at H
         have qV:=ai.mk c15
         clear c15
         obtain⟨y439,Nb⟩:∃y_:List ByteArray,y_=(aT++[a0.extract (bB:Int).toNat ((a0.size:Int):Int).toNat]):=⟨_,rfl⟩
         replace H:(eF.l0 k1 a0 l1 y439 (a0.size:Int) (wrap64 (gN+1)))=some r:=by first|(rw[Nb];with_reducible exact H)|(have iB:=(Option.bind_some _ _).symm.trans H;rw[Nb];with_reducible exact iB)|(have iB:=(Option.bind_some _ _).symm.trans H;with_reducible exact iB)|with_reducible exact H|(rw[Nb];exact H)|exact H
         have Ny439:=ai.mk Nb
         clear Nb
         have H':=ai.mk H
         clear H
         go_wp2_with (first|((with_reducible refine bH (b:= .append) (xs:=#[.tmp 34,.tmp 39]) rfl ?_);at_builtin;refine Kd.bT Kd.string (w0:=w) w.heap.size rfl (.tmp 34) (.tmp 39) 54 9 (.string ⟨#[]⟩) 16 rfl Tryz.underlying54 ig rfl (by decide) (by omega) u5 aT (a0.extract (bB:Int).toNat ((a0.size:Int):Int).toNat) [.string (a0.extract (bB:Int).toNat ((a0.size:Int):Int).toNat)] (fun _=>True) (fun _=>False) rfl rfl ?aP (fun _ hk=>hk.elim) ?aF ?aO ?aB ?aS ?aL ?_;(case aP=>exact rfl);(case aB=>exact(by repeat(first|(with_reducible first|exact HB.out|apply ag|apply af|apply ah)|exact HB.out)));(case aF=>exact(fun _ _=>trivial));(case aO=>exact(by(with_reducible repeat(first|apply Kd.aM|apply Kd.aK|apply Kd.aV));exact cO.out));(case aS=>exact(ay (by repeat(first|(with_reducible first|exact HB.out|apply ag|apply af|apply ah)|exact HB.out))));(case aL=>have:=qV.out;omega);intro v440 w16 ho hb hg hat;rw[<-Ny439.out] at ho;have bN:=ai.mk (hb);have bP:=ai.mk (ho);clear HB;clear cO;have HB:=bN;have HO441:=bP;clear bN bP;clear ho hb hg hat))
         go_roundg k1
         case measure=>have:=gH.out;omega
         case rel=>exact⟨(y439),((a0.size:Int)),(wrap64 (gN+1)),(by first|rfl|(simp;done)|(simp[*];done)),(by first|rfl|(simp;done)|(simp[*];done)),H',⟨by have:=gH.out;omega⟩,⟨by(with_reducible repeat(first|apply Kd.aM|apply Kd.aK|apply Kd.aV));exact HO441.out⟩,⟨by repeat(first|(with_reducible first|exact HB.out|apply ag|apply af|apply ah)|exact HB.out)⟩⟩
        ·rw[if_neg c15] at H
         exact absurd H (by simp)
       ·rw[if_neg c14] at H
        exact absurd H (by simp)
      ·rw[if_neg c13] at H
       exact absurd H (by simp)
     ·rw[if_neg c12] at H
      exact absurd H (by simp)
   ·rw[if_neg c3] at H
    have iY:decide (bB<(a0.size:Int))=false:=decide_eq_false c3
    clear c3
    obtain rfl:=Option.some.inj H
    go_wp2
    go_ret
    exact⟨_,by first|rfl|(simp[aC,aD]<;>rfl)|(simp[*,aC,aD]<;>rfl),by(with_reducible repeat(first|apply Kd.aM|apply Kd.aK|apply Kd.aV));exact cO.out,by repeat(first|(with_reducible first|exact HB.out|apply ag|apply af|apply ah)|exact HB.out)⟩
end Go.Proofs.YtilpincgjlclpaaGreat.Pr
