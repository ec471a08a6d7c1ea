import Derived.Test.YtilpincgjlclpaaGreatB10
import Derived.Test.YtilpincgjlclpaaGreatT2
set_option linter.unusedVariables false
set_option linter.unusedSimpArgs false
namespace Go.Proofs.YtilpincgjlclpaaGreat.Pr
open Go.RowKit Go.Proofs.ae.au Go.Proofs.ae.aZ Go.Proofs.ae.bE
attribute [local go_sem] bQ min2_int cB min_two max_three min_three max_four min_four
set_option maxHeartbeats 8000000 in
set_option maxRecDepth 100000 in
theorem aG.calls (k:Nat) (A0:Option Addr) (c0:Nat) (l0:List ByteArray) (bz:ByteArray) (bD:ByteArray) (r:List ByteArray) (w:World) (hr0:Kd.C Kd.string w A0 l0.length l0) (hc0:l0.length<=c0) (h:aG.f k l0 bz bD=some r):
  Calls Tryz.prog 52 #[.slice A0 l0.length c0,.agg #[.string bz,.string bD]] w fun e w'=>∃rU:Value,e= .returned (rU)/\Kd.R Kd.string 9 w' w.heap.size (fun _=>True) rU r/\Below w.heap.size w w':=by
 have VF:=Tryz.underlying47
 have gq:=ai.mk hr0
 have lC:=ai.mk hc0
 clear hr0 hc0
 have HB:=ai.mk (Below.refl w.heap.size w)
 have H:(aG.l0 k l0 ([]:List ByteArray) 0 bz bD)=some r:=h
 clear h
 have H':=ai.mk H
 clear H
 go_enter Tryz.func52,Tryz.ntmps52
 go_wp2_with (first|((with_reducible refine di (N:=3) rfl ?_);refine bW ?hg (N:=3) ?hd (cs:=#[.string bz,.string bD]) (t:=47) ?hr ?_;(case hd=>rfl);(case hg=>rfl);(case hr=>first|(go_simp;done)|(go_simp;rfl));intro dQ hg w3 dm hb;have bN:=ai.mk (bn (by repeat(first|(with_reducible first|exact HB.out|apply ag|apply af|apply ah)|exact HB.out)) hb);have bP:=ai.mk (dm);have cz:=ai.mk ((by rw[hg];exact(ay (by repeat(first|(with_reducible first|exact HB.out|apply ag|apply af|apply ah)|exact HB.out))):w.heap.size<=dQ));have fC:=ai.mk ((by rw[hg];exact(ay (by repeat(first|(with_reducible first|exact HB.out|apply ag|apply af|apply ah)|exact HB.out))):w.heap.size<=dQ));clear HB;have HB:=bN;have bF:=bP;have BD:=cz;have dC:=fC;clear bN bP cz fC;clear hb dm hg))
 go_loopg [5,6] k (fun kq v5 v6 w'=>∃(aT:List ByteArray) (bB:Int),v6= .int .i64 bB/\ai (aG.l0 kq l0 aT bB bz bD=some r)/\ai (kq<=k)/\ai (Kd.R Kd.string 9 w' w.heap.size (fun _=>True) v5 aT)/\ai (w'.heap[dQ]?=some (.cells #[.string bz,.string bD] 47 (0,0)))/\ai (Below w.heap.size w w'))
 case atStart=>exact⟨(([]:List ByteArray)),(0),(by simp[*]),H',⟨Nat.le_refl _⟩,⟨by first|exact Kd.jM _ _ _ _ _|exact Kd.kQ _ _ _ _ _|exact Kd.kS _ _ _ _ _|exact Kd.kR _ _ _ _ _|exact Kd.kg _ _ _ _ _⟩,⟨by(with_reducible repeat(first|refine aW ?_ _|refine bC ?_|refine bf ?_ _));exact bF.out⟩,⟨by repeat(first|(with_reducible first|exact HB.out|apply ag|apply af|apply ah|refine az ?_ dC.out)|exact HB.out)⟩⟩
 case round=>
  clear H'
  obtain⟨aT,bB,rfl,HA,gH,cO,bF,HB⟩:=hrel
  cases gk with
  |zero=>exact absurd HA.out (by simp[aG.l0])
  |succ k1=>
   have H:=HA.out
   clear HA
   simp only[aG.l0] at H
   by_cases c4:bB<(l0.length:Int)
   ·rw[if_pos c4] at H
    have iw:decide (bB<(l0.length:Int))=true:=decide_eq_true c4
    clear c4
    by_cases c5:(wrap64 (bB+1))<(l0.length:Int)
    ·rw[if_pos c5] at H
     have iC:decide ((wrap64 (bB+1))<(l0.length:Int))=true:=decide_eq_true c5
     clear c5
     by_cases c6:0<=bB
     ·rw[if_pos c6] at H
      have yR:decide (0<=bB)=true:=decide_eq_true c6
      clear c6
      by_cases c7:(dH ByteArray.empty l0 bB).toList=bz.toList
      ·rw[if_pos c7] at H
       have jU:((dH ByteArray.empty l0 bB).toList==bz.toList)=true:=beq_iff_eq.mpr c7
       clear c7
       obtain⟨nz,vI⟩:∃j_:Int,(wrap64 (bB+1))=j_:=⟨_,rfl⟩
       replace H:(if 0<=(nz) then(if(dH ByteArray.empty l0 (nz)).toList=bD.toList then(if bz.size+bD.size<=9223372036854775807 then(if aT.length<8796093022208 then(aG.l0 k1 l0 (aT++[bz++bD]) (wrap64 (bB+2)) bz bD) else(none)) else(none)) else(if aT.length<8796093022208 then(aG.l0 k1 l0 (aT++[dH ByteArray.empty l0 bB]) nz bz bD) else(none))) else(none))=some r:=by first|(rw[vI] at H;exact H)|(simp only[vI] at H ⊢;exact H)
       (try rw[vI] at iC)
       have hji8w:(IntKind.i64.wrap (bB+1))=nz:=(jY _).trans vI
       by_cases c9:0<=(nz)
       ·rw[if_pos c9] at H
        have qx:decide (0<=(nz))=true:=decide_eq_true c9
        clear c9
        by_cases c10:(dH ByteArray.empty l0 (nz)).toList=bD.toList
        ·rw[if_pos c10] at H
         have lU:((dH ByteArray.empty l0 (nz)).toList==bD.toList)=true:=beq_iff_eq.mpr c10
         clear c10
         by_cases c11:bz.size+bD.size<=9223372036854775807
         ·rw[if_pos c11] at H
          by_cases c12:aT.length<8796093022208
          ·rw[if_pos c12] at H
           have nV:=ai.mk c12
           clear c12
           obtain⟨OO,hy128⟩:∃y_:List ByteArray,y_=(aT++[bz++bD]):=⟨_,rfl⟩
           replace H:(aG.l0 k1 l0 OO (wrap64 (bB+2)) bz bD)=some r:=by first|(rw[hy128];with_reducible exact H)|(have iB:=(Option.bind_some _ _).symm.trans H;rw[hy128];with_reducible exact iB)|(have iB:=(Option.bind_some _ _).symm.trans H;with_reducible exact iB)|with_reducible exact H|(rw[hy128];exact H)|exact H
           have uP:=ai.mk hy128
           clear hy128
           have H':=ai.mk H
           clear H
           have kZ:0<=(bB:Int):=of_decide_eq_true (by first|(with_reducible assumption)|assumption)
           have lg:bB<(l0.length:Int):=of_decide_eq_true (by first|(with_reducible assumption)|assumption)
           obtain⟨mq,e126,fU⟩:=Kd.dx gq.out bB kZ lg
           cases e126
           replace fU:=(HB.out.cell (World.block_lt_of_cell? w _ fU)).trans fU
           replace kZ:=eq_true kZ
           replace lg:=eq_true lg
           have zi:wr.cell? ⟨dQ,0,none⟩=some (.string bz):=(ax bF.out 0).trans rfl
           have zk:wr.cell? ⟨dQ,1,none⟩=some (.string bD):=(ax bF.out 1).trans rfl
           have zl:=ak bF.out 0
           have zm:=ak bF.out 1
           have pV:0<=((nz):Int):=of_decide_eq_true (by first|(with_reducible assumption)|assumption)
           have pX:(nz)<(l0.length:Int):=of_decide_eq_true (by first|(with_reducible assumption)|assumption)
           obtain⟨uV,e127,iT⟩:=Kd.dx gq.out (nz) pV pX
           obtain rfl:mq=uV:=(by injection e127)
           replace iT:=(HB.out.cell (World.block_lt_of_cell? w _ iT)).trans iT
           replace pV:=eq_true pV
           replace pX:=eq_true pX
           go_wp2_with fail
           repeat(go_quiet (first|((with_reducible refine bH (b:= .append) (xs:=#[.tmp 35,.tmp 41]) rfl ?_);at_builtin;refine Kd.bT Kd.string (w0:=w) w.heap.size rfl (.tmp 35) (.tmp 41) 54 9 (.string ⟨#[]⟩) 16 rfl Tryz.underlying54 ig rfl (by decide) (by omega) u5 aT (bz++bD) [.string (bz++bD)] (fun _=>True) (fun _=>False) rfl rfl ?aP (fun _ hk=>hk.elim) ?aF ?aO ?aB ?aS ?aL ?_;(case aP=>exact rfl);(case aB=>exact(by repeat(first|(with_reducible first|exact HB.out|apply ag|apply af|apply ah|refine az ?_ dC.out)|exact HB.out)));(case aF=>exact(fun _ _=>trivial));(case aO=>exact(by(with_reducible repeat(first|apply Kd.aM|apply Kd.aK|apply Kd.aV));exact cO.out));(case aS=>exact(ay (by repeat(first|(with_reducible first|exact HB.out|apply ag|apply af|apply ah|refine az ?_ dC.out)|exact HB.out))));(case aL=>have:=nV.out;omega);intro OA w14 ho hb hg hat;rw[<-uP.out] at ho;have bN:=ai.mk (dF (g:=dQ) (o:= .cells #[.string bz,.string bD] 47 (0,0)) (by(with_reducible repeat(first|refine aW ?_ _|refine bC ?_|refine bf ?_ _));exact bF.out) hg (Kd.kC cO.out bF.out (by decide)));have bP:=ai.mk (hb);have cz:=ai.mk (ho);clear bF;clear HB;clear cO;have bF:=bN;have HB:=bP;have uH:=cz;clear bN bP cz;clear ho hb hg hat));try go_wp2_with (first|((with_reducible refine bH (b:= .append) (xs:=#[.tmp 35,.tmp 41]) rfl ?_);at_builtin;refine Kd.bT Kd.string (w0:=w) w.heap.size rfl (.tmp 35) (.tmp 41) 54 9 (.string ⟨#[]⟩) 16 rfl Tryz.underlying54 ig rfl (by decide) (by omega) u5 aT (bz++bD) [.string (bz++bD)] (fun _=>True) (fun _=>False) rfl rfl ?aP (fun _ hk=>hk.elim) ?aF ?aO ?aB ?aS ?aL ?_;(case aP=>exact rfl);(case aB=>exact(by repeat(first|(with_reducible first|exact HB.out|apply ag|apply af|apply ah|refine az ?_ dC.out)|exact HB.out)));(case aF=>exact(fun _ _=>trivial));(case aO=>exact(by(with_reducible repeat(first|apply Kd.aM|apply Kd.aK|apply Kd.aV));exact cO.out));(case aS=>exact(ay (by repeat(first|(with_reducible first|exact HB.out|apply ag|apply af|apply ah|refine az ?_ dC.out)|exact HB.out))));(case aL=>have:=nV.out;omega);intro OA w14 ho hb hg hat;rw[<-uP.out] at ho;have bN:=ai.mk (dF (g:=dQ) (o:= .cells #[.string bz,.string bD] 47 (0,0)) (by(with_reducible repeat(first|refine aW ?_ _|refine bC ?_|refine bf ?_ _));exact bF.out) hg (Kd.kC cO.out bF.out (by decide)));have bP:=ai.mk (hb);have cz:=ai.mk (ho);clear bF;clear HB;clear cO;have bF:=bN;have HB:=bP;have uH:=cz;clear bN bP cz;clear ho hb hg hat)))
           go_roundg k1
           case measure=>have:=gH.out;omega
           case rel=>exact⟨(OO),(wrap64 (bB+2)),(by simp[*]),H',⟨by have:=gH.out;omega⟩,⟨by(with_reducible repeat(first|apply Kd.aM|apply Kd.aK|apply Kd.aV));exact uH.out⟩,⟨by(with_reducible repeat(first|refine aW ?_ _|refine bC ?_|refine bf ?_ _));exact bF.out⟩,⟨by repeat(first|(with_reducible first|exact HB.out|apply ag|apply af|apply ah|refine az ?_ dC.out)|exact HB.out)⟩⟩
          ·rw[if_neg c12] at H
           exact absurd H (by simp)
         ·rw[if_neg c11] at H
          exact absurd H (by simp)
        ·rw[if_neg c10] at H
         have lU:((dH ByteArray.empty l0 (nz)).toList==bD.toList)=false:=beq_eq_false_iff_ne.mpr c10
         by_cases c15:aT.length<8796093022208
         ·rw[if_pos c15] at H
          have qV:=ai.mk c15
          clear c15
          obtain⟨OP,nY⟩:∃y_:List ByteArray,y_=(aT++[dH ByteArray.empty l0 bB]):=⟨_,rfl⟩
          replace H:(aG.l0 k1 l0 OP nz bz bD)=some r:=by first|(rw[nY];with_reducible exact H)|(have iB:=(Option.bind_some _ _).symm.trans H;rw[nY];with_reducible exact iB)|(have iB:=(Option.bind_some _ _).symm.trans H;with_reducible exact iB)|with_reducible exact H|(rw[nY];exact H)|exact H
          have uQ:=ai.mk nY
          clear nY
          have H':=ai.mk H
          clear H
          have kZ:0<=(bB:Int):=of_decide_eq_true (by first|(with_reducible assumption)|assumption)
          have lg:bB<(l0.length:Int):=of_decide_eq_true (by first|(with_reducible assumption)|assumption)
          obtain⟨mq,e126,fU⟩:=Kd.dx gq.out bB kZ lg
          cases e126
          replace fU:=(HB.out.cell (World.block_lt_of_cell? w _ fU)).trans fU
          replace kZ:=eq_true kZ
          replace lg:=eq_true lg
          have wM:wr.cell? ⟨dQ,0,none⟩=some (.string bz):=(ax bF.out 0).trans rfl
          have wN:wr.cell? ⟨dQ,1,none⟩=some (.string bD):=(ax bF.out 1).trans rfl
          have wO:=ak bF.out 0
          have wP:=ak bF.out 1
          have pV:0<=((nz):Int):=of_decide_eq_true (by first|(with_reducible assumption)|assumption)
          have pX:(nz)<(l0.length:Int):=of_decide_eq_true (by first|(with_reducible assumption)|assumption)
          obtain⟨uV,e127,iT⟩:=Kd.dx gq.out (nz) pV pX
          obtain rfl:mq=uV:=(by injection e127)
          replace iT:=(HB.out.cell (World.block_lt_of_cell? w _ iT)).trans iT
          replace pV:=eq_true pV
          replace pX:=eq_true pX
          have EI:0<=(bB:Int):=of_decide_eq_true (by first|(with_reducible assumption)|assumption)
          have Fa:bB<(l0.length:Int):=of_decide_eq_true (by first|(with_reducible assumption)|assumption)
          obtain⟨LV,Yk,nk⟩:=Kd.dx gq.out bB EI Fa
          obtain rfl:mq=LV:=(by injection Yk)
          replace nk:=(HB.out.cell (World.block_lt_of_cell? w _ nk)).trans nk
          replace EI:=eq_true EI
          replace Fa:=eq_true Fa
          go_wp2_with fail
          repeat(go_quiet (first|((with_reducible refine bH (b:= .append) (xs:=#[.tmp 45,.tmp 50]) rfl ?_);at_builtin;refine Kd.bT Kd.string (w0:=w) w.heap.size rfl (.tmp 45) (.tmp 50) 54 9 (.string ⟨#[]⟩) 16 rfl Tryz.underlying54 ig rfl (by decide) (by omega) u5 aT (dH ByteArray.empty l0 bB) [.string (dH ByteArray.empty l0 bB)] (fun _=>True) (fun _=>False) rfl rfl ?aP (fun _ hk=>hk.elim) ?aF ?aO ?aB ?aS ?aL ?_;(case aP=>exact rfl);(case aB=>exact(by repeat(first|(with_reducible first|exact HB.out|apply ag|apply af|apply ah|refine az ?_ dC.out)|exact HB.out)));(case aF=>exact(fun _ _=>trivial));(case aO=>exact(by(with_reducible repeat(first|apply Kd.aM|apply Kd.aK|apply Kd.aV));exact cO.out));(case aS=>exact(ay (by repeat(first|(with_reducible first|exact HB.out|apply ag|apply af|apply ah|refine az ?_ dC.out)|exact HB.out))));(case aL=>have:=qV.out;omega);intro OB Cv ho hb hg hat;rw[<-uQ.out] at ho;have bN:=ai.mk (dF (g:=dQ) (o:= .cells #[.string bz,.string bD] 47 (0,0)) (by(with_reducible repeat(first|refine aW ?_ _|refine bC ?_|refine bf ?_ _));exact bF.out) hg (Kd.kC cO.out bF.out (by decide)));have bP:=ai.mk (hb);have cz:=ai.mk (ho);clear bF;clear HB;clear cO;have bF:=bN;have HB:=bP;have uI:=cz;clear bN bP cz;clear ho hb hg hat));try go_wp2_with (first|((with_reducible refine bH (b:= .append) (xs:=#[.tmp 45,.tmp 50]) rfl ?_);at_builtin;refine Kd.bT Kd.string (w0:=w) w.heap.size rfl (.tmp 45) (.tmp 50) 54 9 (.string ⟨#[]⟩) 16 rfl Tryz.underlying54 ig rfl (by decide) (by omega) u5 aT (dH ByteArray.empty l0 bB) [.string (dH ByteArray.empty l0 bB)] (fun _=>True) (fun _=>False) rfl rfl ?aP (fun _ hk=>hk.elim) ?aF ?aO ?aB ?aS ?aL ?_;(case aP=>exact rfl);(case aB=>exact(by repeat(first|(with_reducible first|exact HB.out|apply ag|apply af|apply ah|refine az ?_ dC.out)|exact HB.out)));(case aF=>exact(fun _ _=>trivial));(case aO=>exact(by(with_reducible repeat(first|apply Kd.aM|apply Kd.aK|apply Kd.aV));exact cO.out));(case aS=>exact(ay (by repeat(first|(with_reducible first|exact HB.out|apply ag|apply af|apply ah|refine az ?_ dC.out)|exact HB.out))));(case aL=>have:=qV.out;omega);intro OB Cv ho hb hg hat;rw[<-uQ.out] at ho;have bN:=ai.mk (dF (g:=dQ) (o:= .cells #[.string bz,.string bD] 47 (0,0)) (by(with_reducible repeat(first|refine aW ?_ _|refine bC ?_|refine bf ?_ _));exact bF.out) hg (Kd.kC cO.out bF.out (by decide)));have bP:=ai.mk (hb);have cz:=ai.mk (ho);clear bF;clear HB;clear cO;have bF:=bN;have HB:=bP;have uI:=cz;clear bN bP cz;clear ho hb hg hat)))
          go_roundg k1
          case measure=>have:=gH.out;omega
          case rel=>exact⟨(OP),(nz),(by first|rfl|(simp;done)|(simp only[<-vI]<;>(first|rfl|simp))|(simp[*];done)),H',⟨by have:=gH.out;omega⟩,⟨by(with_reducible repeat(first|apply Kd.aM|apply Kd.aK|apply Kd.aV));exact uI.out⟩,⟨by(with_reducible repeat(first|refine aW ?_ _|refine bC ?_|refine bf ?_ _));exact bF.out⟩,⟨by repeat(first|(with_reducible first|exact HB.out|apply ag|apply af|apply ah|refine az ?_ dC.out)|exact HB.out)⟩⟩
         ·rw[if_neg c15] at H
          exact absurd H (by simp)
       ·rw[if_neg c9] at H
        exact absurd H (by simp)
      ·rw[if_neg c7] at H
       have jU:((dH ByteArray.empty l0 bB).toList==bz.toList)=false:=beq_eq_false_iff_ne.mpr c7
       by_cases c18:aT.length<8796093022208
       ·rw[if_pos c18] at H
        have uM:=ai.mk c18
        clear c18
        obtain⟨OQ,nZ⟩:∃y_:List ByteArray,y_=(aT++[dH ByteArray.empty l0 bB]):=⟨_,rfl⟩
        replace H:(aG.l0 k1 l0 OQ (wrap64 (bB+1)) bz bD)=some r:=by first|(rw[nZ];with_reducible exact H)|(have iB:=(Option.bind_some _ _).symm.trans H;rw[nZ];with_reducible exact iB)|(have iB:=(Option.bind_some _ _).symm.trans H;with_reducible exact iB)|with_reducible exact H|(rw[nZ];exact H)|exact H
        have uR:=ai.mk nZ
        clear nZ
        have H':=ai.mk H
        clear H
        have kZ:0<=(bB:Int):=of_decide_eq_true (by first|(with_reducible assumption)|assumption)
        have lg:bB<(l0.length:Int):=of_decide_eq_true (by first|(with_reducible assumption)|assumption)
        obtain⟨mq,e126,fU⟩:=Kd.dx gq.out bB kZ lg
        cases e126
        replace fU:=(HB.out.cell (World.block_lt_of_cell? w _ fU)).trans fU
        replace kZ:=eq_true kZ
        replace lg:=eq_true lg
        have CO:wr.cell? ⟨dQ,0,none⟩=some (.string bz):=(ax bF.out 0).trans rfl
        have CP:wr.cell? ⟨dQ,1,none⟩=some (.string bD):=(ax bF.out 1).trans rfl
        have CS:=ak bF.out 0
        have CU:=ak bF.out 1
        have EJ:0<=(bB:Int):=of_decide_eq_true (by first|(with_reducible assumption)|assumption)
        have Fb:bB<(l0.length:Int):=of_decide_eq_true (by first|(with_reducible assumption)|assumption)
        obtain⟨LW,Yl,nu⟩:=Kd.dx gq.out bB EJ Fb
        obtain rfl:mq=LW:=(by injection Yl)
        replace nu:=(HB.out.cell (World.block_lt_of_cell? w _ nu)).trans nu
        replace EJ:=eq_true EJ
        replace Fb:=eq_true Fb
        go_wp2_with fail
        repeat(go_quiet (first|((with_reducible refine bH (b:= .append) (xs:=#[.tmp 45,.tmp 50]) rfl ?_);at_builtin;refine Kd.bT Kd.string (w0:=w) w.heap.size rfl (.tmp 45) (.tmp 50) 54 9 (.string ⟨#[]⟩) 16 rfl Tryz.underlying54 ig rfl (by decide) (by omega) u5 aT (dH ByteArray.empty l0 bB) [.string (dH ByteArray.empty l0 bB)] (fun _=>True) (fun _=>False) rfl rfl ?aP (fun _ hk=>hk.elim) ?aF ?aO ?aB ?aS ?aL ?_;(case aP=>exact rfl);(case aB=>exact(by repeat(first|(with_reducible first|exact HB.out|apply ag|apply af|apply ah|refine az ?_ dC.out)|exact HB.out)));(case aF=>exact(fun _ _=>trivial));(case aO=>exact(by(with_reducible repeat(first|apply Kd.aM|apply Kd.aK|apply Kd.aV));exact cO.out));(case aS=>exact(ay (by repeat(first|(with_reducible first|exact HB.out|apply ag|apply af|apply ah|refine az ?_ dC.out)|exact HB.out))));(case aL=>have:=uM.out;omega);intro OC Dh ho hb hg hat;rw[<-uR.out] at ho;have bN:=ai.mk (dF (g:=dQ) (o:= .cells #[.string bz,.string bD] 47 (0,0)) (by(with_reducible repeat(first|refine aW ?_ _|refine bC ?_|refine bf ?_ _));exact bF.out) hg (Kd.kC cO.out bF.out (by decide)));have bP:=ai.mk (hb);have cz:=ai.mk (ho);clear bF;clear HB;clear cO;have bF:=bN;have HB:=bP;have uJ:=cz;clear bN bP cz;clear ho hb hg hat));try go_wp2_with (first|((with_reducible refine bH (b:= .append) (xs:=#[.tmp 45,.tmp 50]) rfl ?_);at_builtin;refine Kd.bT Kd.string (w0:=w) w.heap.size rfl (.tmp 45) (.tmp 50) 54 9 (.string ⟨#[]⟩) 16 rfl Tryz.underlying54 ig rfl (by decide) (by omega) u5 aT (dH ByteArray.empty l0 bB) [.string (dH ByteArray.empty l0 bB)] (fun _=>True) (fun _=>False) rfl rfl ?aP (fun _ hk=>hk.elim) ?aF ?aO ?aB ?aS ?aL ?_;(case aP=>exact rfl);(case aB=>exact(by repeat(first|(with_reducible first|exact HB.out|apply ag|apply af|apply ah|refine az ?_ dC.out)|exact HB.out)));(case aF=>exact(fun _ _=>trivial));(case aO=>exact(by(with_reducible repeat(first|apply Kd.aM|apply Kd.aK|apply Kd.aV));exact cO.out));(case aS=>exact(ay (by repeat(first|(with_reducible first|exact HB.out|apply ag|apply af|apply ah|refine az ?_ dC.out)|exact HB.out))));(case aL=>have:=uM.out;omega);intro OC Dh ho hb hg hat;rw[<-uR.out] at ho;have bN:=ai.mk (dF (g:=dQ) (o:= .cells #[.string bz,.string bD] 47 (0,0)) (by(with_reducible repeat(first|refine aW ?_ _|refine bC ?_|refine bf ?_ _));exact bF.out) hg (Kd.kC cO.out bF.out (by decide)));have bP:=ai.mk (hb);have cz:=ai.mk (ho);clear bF;clear HB;clear cO;have bF:=bN;have HB:=bP;have uJ:=cz;clear bN bP cz;clear ho hb hg hat)))
        go_roundg k1
        case measure=>have:=gH.out;omega
        case rel=>exact⟨(OQ),(wrap64 (bB+1)),(by first|rfl|(simp;done)|(simp[*];done)),H',⟨by have:=gH.out;omega⟩,⟨by(with_reducible repeat(first|apply Kd.aM|apply Kd.aK|apply Kd.aV));exact uJ.out⟩,⟨by(with_reducible repeat(first|refine aW ?_ _|refine bC ?_|refine bf ?_ _));exact bF.out⟩,⟨by repeat(first|(with_reducible first|exact HB.out|apply ag|apply af|apply ah|refine az ?_ dC.out)|exact HB.out)⟩⟩
       ·rw[if_neg c18] at H
        exact absurd H (by simp)
     ·rw[if_neg c6] at H
      exact absurd H (by simp)
    ·rw[if_neg c5] at H
     have iC:decide ((wrap64 (bB+1))<(l0.length:Int))=false:=decide_eq_false c5
     clear c5
     by_cases c21:0<=bB
     ·rw[if_pos c21] at H
      have Sv:decide (0<=bB)=true:=decide_eq_true c21
      clear c21
      by_cases IZ:aT.length<8796093022208
      ·rw[if_pos IZ] at H
       have qW:=ai.mk IZ
       clear IZ
       obtain⟨OT,og⟩:∃y_:List ByteArray,y_=(aT++[dH ByteArray.empty l0 bB]):=⟨_,rfl⟩
       replace H:(aG.l0 k1 l0 OT (wrap64 (bB+1)) bz bD)=some r:=by first|(rw[og];with_reducible exact H)|(have iB:=(Option.bind_some _ _).symm.trans H;rw[og];with_reducible exact iB)|(have iB:=(Option.bind_some _ _).symm.trans H;with_reducible exact iB)|with_reducible exact H|(rw[og];exact H)|exact H
       have uS:=ai.mk og
       clear og
       have H':=ai.mk H
       clear H
       have EK:0<=(bB:Int):=of_decide_eq_true (by first|(with_reducible assumption)|assumption)
       have Fe:bB<(l0.length:Int):=of_decide_eq_true (by first|(with_reducible assumption)|assumption)
       obtain⟨ad139,Ym,ny⟩:=Kd.dx gq.out bB EK Fe
       cases Ym
       replace ny:=(HB.out.cell (World.block_lt_of_cell? w _ ny)).trans ny
       replace EK:=eq_true EK
       replace Fe:=eq_true Fe
       go_wp2_with (first|((with_reducible refine bH (b:= .append) (xs:=#[.tmp 45,.tmp 50]) rfl ?_);at_builtin;refine Kd.bT Kd.string (w0:=w) w.heap.size rfl (.tmp 45) (.tmp 50) 54 9 (.string ⟨#[]⟩) 16 rfl Tryz.underlying54 ig rfl (by decide) (by omega) u5 aT (dH ByteArray.empty l0 bB) [.string (dH ByteArray.empty l0 bB)] (fun _=>True) (fun _=>False) rfl rfl ?aP (fun _ hk=>hk.elim) ?aF ?aO ?aB ?aS ?aL ?_;(case aP=>exact rfl);(case aB=>exact(by repeat(first|(with_reducible first|exact HB.out|apply ag|apply af|apply ah|refine az ?_ dC.out)|exact HB.out)));(case aF=>exact(fun _ _=>trivial));(case aO=>exact(by(with_reducible repeat(first|apply Kd.aM|apply Kd.aK|apply Kd.aV));exact cO.out));(case aS=>exact(ay (by repeat(first|(with_reducible first|exact HB.out|apply ag|apply af|apply ah|refine az ?_ dC.out)|exact HB.out))));(case aL=>have:=qW.out;omega);intro v141 OZ ho hb hg hat;rw[<-uS.out] at ho;have bN:=ai.mk (dF (g:=dQ) (o:= .cells #[.string bz,.string bD] 47 (0,0)) (by(with_reducible repeat(first|refine aW ?_ _|refine bC ?_|refine bf ?_ _));exact bF.out) hg (Kd.kC cO.out bF.out (by decide)));have bP:=ai.mk (hb);have cz:=ai.mk (ho);clear bF;clear HB;clear cO;have bF:=bN;have HB:=bP;have uK:=cz;clear bN bP cz;clear ho hb hg hat))
       repeat(go_quiet (first|((with_reducible refine bH (b:= .append) (xs:=#[.tmp 45,.tmp 50]) rfl ?_);at_builtin;refine Kd.bT Kd.string (w0:=w) w.heap.size rfl (.tmp 45) (.tmp 50) 54 9 (.string ⟨#[]⟩) 16 rfl Tryz.underlying54 ig rfl (by decide) (by omega) u5 aT (dH ByteArray.empty l0 bB) [.string (dH ByteArray.empty l0 bB)] (fun _=>True) (fun _=>False) rfl rfl ?aP (fun _ hk=>hk.elim) ?aF ?aO ?aB ?aS ?aL ?_;(case aP=>exact rfl);(case aB=>exact(by repeat(first|(with_reducible first|exact HB.out|apply ag|apply af|apply ah|refine az ?_ dC.out)|exact HB.out)));(case aF=>exact(fun _ _=>trivial));(case aO=>exact(by(with_reducible repeat(first|apply Kd.aM|apply Kd.aK|apply Kd.aV));exact cO.out));(case aS=>exact(ay (by repeat(first|(with_reducible first|exact HB.out|apply ag|apply af|apply ah|refine az ?_ dC.out)|exact HB.out))));(case aL=>have:=qW.out;omega);intro v141 OZ ho hb hg hat;rw[<-uS.out] at ho;have bN:=ai.mk (dF (g:=dQ) (o:= .cells #[.string bz,.string bD] 47 (0,0)) (by(with_reducible repeat(first|refine aW ?_ _|refine bC ?_|refine bf ?_ _));exact bF.out) hg (Kd.kC cO.out bF.out (by decide)));have bP:=ai.mk (hb);have cz:=ai.mk (ho);clear bF;clear HB;clear cO;have bF:=bN;have HB:=bP;have uK:=cz;clear bN bP cz;clear ho hb hg hat));try go_wp2_with (first|((with_reducible refine bH (b:= .append) (xs:=#[.tmp 45,.tmp 50]) rfl ?_);at_builtin;refine Kd.bT Kd.string (w0:=w) w.heap.size rfl (.tmp 45) (.tmp 50) 54 9 (.string ⟨#[]⟩) 16 rfl Tryz.underlying54 ig rfl (by decide) (by omega) u5 aT (dH ByteArray.empty l0 bB) [.string (dH ByteArray.empty l0 bB)] (fun _=>True) (fun _=>False) rfl rfl ?aP (fun _ hk=>hk.elim) ?aF ?aO ?aB ?aS ?aL ?_;(case aP=>exact rfl);(case aB=>exact(by repeat(first|(with_reducible first|exact HB.out|apply ag|apply af|apply ah|refine az ?_ dC.out)|exact HB.out)));(case aF=>exact(fun _ _=>trivial));(case aO=>exact(by(with_reducible repeat(first|apply Kd.aM|apply Kd.aK|apply Kd.aV));exact cO.out));(case aS=>exact(ay (by repeat(first|(with_reducible first|exact HB.out|apply ag|apply af|apply ah|refine az ?_ dC.out)|exact HB.out))));(case aL=>have:=qW.out;omega);intro v141 OZ ho hb hg hat;rw[<-uS.out] at ho;have bN:=ai.mk (dF (g:=dQ) (o:= .cells #[.string bz,.string bD] 47 (0,0)) (by(with_reducible repeat(first|refine aW ?_ _|refine bC ?_|refine bf ?_ _));exact bF.out) hg (Kd.kC cO.out bF.out (by decide)));have bP:=ai.mk (hb);have cz:=ai.mk (ho);clear bF;clear HB;clear cO;have bF:=bN;have HB:=bP;have uK:=cz;clear bN bP cz;clear ho hb hg hat)))
       go_roundg k1
       case measure=>have:=gH.out;omega
       case rel=>exact⟨(OT),(wrap64 (bB+1)),(by first|rfl|(simp;done)|(simp[*];done)),H',⟨by have:=gH.out;omega⟩,⟨by(with_reducible repeat(first|apply Kd.aM|apply Kd.aK|apply Kd.aV));exact uK.out⟩,⟨by(with_reducible repeat(first|refine aW ?_ _|refine bC ?_|refine bf ?_ _));exact bF.out⟩,⟨by repeat(first|(with_reducible first|exact HB.out|apply ag|apply af|apply ah|refine az ?_ dC.out)|exact HB.out)⟩⟩
      ·rw[if_neg IZ] at H
       exact absurd H (by simp)
     ·rw[if_neg c21] at H
      exact absurd H (by simp)
   ·rw[if_neg c4] at H
    have iw:decide (bB<(l0.length:Int))=false:=decide_eq_false c4
    clear c4
    obtain rfl:=Option.some.inj H
    go_wp2
    repeat(go_quiet (fail);try go_wp2)
    go_ret
    exact⟨_,by first|rfl|(simp[aC,aD]<;>rfl)|(simp[*,aC,aD]<;>rfl),by(with_reducible repeat(first|apply Kd.aM|apply Kd.aK|apply Kd.aV));exact cO.out,by repeat(first|(with_reducible first|exact HB.out|apply ag|apply af|apply ah|refine az ?_ dC.out)|exact HB.out)⟩
end Go.Proofs.YtilpincgjlclpaaGreat.Pr
