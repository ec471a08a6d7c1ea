import Derived.Test.YtilpincgjlclpaaGreatU3
import Derived.Test.YtilpincgjlclpaaGreatU4
set_option linter.unusedVariables false
set_option linter.unusedSimpArgs false
namespace Go.Proofs.YtilpincgjlclpaaGreat.Pr
open Go.RowKit Go.Proofs.ae.au Go.Proofs.ae.aZ Go.Proofs.ae.bE
attribute [local go_sem] bQ min2_int cB min_two max_three min_three max_four min_four
mutual
def aN.l0:Nat->List (dN)->List (eu)->List (List ByteArray)->Int->Option ((List (List ByteArray)))
 |0,_,_,_,_=>none
 |k+1,x0,x1,x5,x6=>if x6<(x0.length:Int) then(if 0<=x6 then((aR.f k ((aU x0 x6).f0)).bind fun Fz=>(aN.l1 k x0 x1 x5 x6 Fz 0)) else(none)) else(some x5)
def aN.l1:Nat->List (dN)->List (eu)->List (List ByteArray)->Int->List ByteArray->Int->Option ((List (List ByteArray)))
 |0,_,_,_,_,_,_=>none
 |k+1,x0,x1,x5,x6,x7,x8=>if x8<(x1.length:Int) then(if 0<=x8 then((aG.f k x7 ((bM x1 x8).f0) ((bM x1 x8).f1)).bind fun FB=>(aN.l1 k x0 x1 x5 x6 FB (wrap64 (x8+1)))) else(none)) else(if x5.length<5864062014805 then(aN.l0 k x0 x1 (x5++[x7]) (wrap64 (x6+1))) else(none))
end
def aN.f (k:Nat) (l0:List (dN)) (l1:List (eu)):Option ((List (List ByteArray))):=aN.l0 k l0 l1 ([]:List (List ByteArray)) 0
set_option maxHeartbeats 8000000 in
set_option maxRecDepth 100000 in
theorem aN.calls (k:Nat) (A0:Option Addr) (c0:Nat) (l0:List (dN)) (A1:Option Addr) (c1:Nat) (l1:List (eu)) (r:List (List ByteArray)) (w:World) (hr0:Kd.C lQ w A0 l0.length l0) (hc0:l0.length<=c0) (hr1:Kd.C qj w A1 l1.length l1) (hc1:l1.length<=c1) (h:aN.f k l0 l1=some r):
  Calls Tryz.prog 17 #[.slice A0 l0.length c0,.slice A1 l1.length c1] w fun e w'=>∃rU:Value,e= .returned (rU)/\Kd.S (Kd.slice 9 Kd.string) 54 w' w.heap.size (fun _=>True) rU r/\Below w.heap.size w w':=by
 have VF:=Tryz.underlying47
 have gq:=ai.mk hr0
 have lC:=ai.mk hc0
 clear hr0 hc0
 have HR1:=ai.mk hr1
 have Ch:=ai.mk hc1
 clear hr1 hc1
 have HB:=ai.mk (Below.refl w.heap.size w)
 have H:(aN.l0 k l0 l1 ([]:List (List ByteArray)) 0)=some r:=h
 clear h
 have H':=ai.mk H
 clear H
 go_enter Tryz.func17,Tryz.ntmps17
 go_wp2
 go_loopg [5,6] k (fun kq v5 v6 w'=>∃(aT:List (List ByteArray)) (bB:Int),v6= .int .i64 bB/\ai (aN.l0 kq l0 l1 aT bB=some r)/\ai (kq<=k)/\ai (Kd.S (Kd.slice 9 Kd.string) 54 w' w.heap.size (fun _=>True) v5 aT)/\ai (Below w.heap.size w w'))
 case atStart=>exact⟨(([]:List (List ByteArray))),(0),(by first|rfl|(simp;done)|(simp[*];done)),H',⟨Nat.le_refl _⟩,⟨by first|exact Kd.kg _ _ _ _ _|exact Kd.kQ _ _ _ _ _|exact Kd.kS _ _ _ _ _|exact Kd.kR _ _ _ _ _|exact Kd.jM _ _ _ _ _⟩,⟨by repeat(first|(with_reducible first|exact HB.out|apply ag|apply af|apply ah)|exact HB.out)⟩⟩
 case round=>
  clear H'
  try clear c1
  try clear p2
  obtain⟨aT,bB,rfl,HA,gH,cO,HB⟩:=hrel
  cases gk with
  |zero=>exact absurd HA.out (by simp[aN.l0])
  |succ k1=>
   have H:=HA.out
   clear HA
   simp only[aN.l0] at H
   by_cases c3:bB<(l0.length:Int)
   ·rw[if_pos c3] at H
    have iY:decide (bB<(l0.length:Int))=true:=decide_eq_true c3
    clear c3
    by_cases c4:0<=bB
    ·rw[if_pos c4] at H
     have iw:decide (0<=bB)=true:=decide_eq_true c4
     clear c4
     replace H:=Option.bind_eq_some_iff.mp H
     obtain⟨Fz,Dk,H⟩:=H
     replace H:(aN.l1 k1 l0 l1 aT bB Fz 0)=some r:=H
     have A5:=ai.mk Dk
     clear Dk
     have H':=ai.mk H
     clear H
     have Kr:0<=(bB:Int):=of_decide_eq_true (by first|(with_reducible assumption)|assumption)
     have KC:bB<(l0.length:Int):=of_decide_eq_true (by first|(with_reducible assumption)|assumption)
     obtain⟨ad420,e420,oU,oV⟩:=eP gq.out bB Kr KC
     cases e420
     replace oU:=(HB.out.cell (World.block_lt_of_cell? w _ oU)).trans oU
     replace oV:=(HB.out.cell (World.block_lt_of_cell? w _ oV)).trans oV
     replace Kr:=eq_true Kr
     replace KC:=eq_true KC
     go_wp2_with (first|((with_reducible refine bL (f:=51) rfl ?_);refine eQ (some 20) rfl rfl Tryz.func51 (by kernel_rfl) rfl #[.string ((aU l0 bB).f0)] rfl (by(try simp only[List.map_toArray,List.map_cons,List.map_nil]);first|done|rfl|(simp only[List.length_drop,List.length_take];rfl)) ?_;(with_reducible refine(aR.calls k1 ((aU l0 bB).f0) Fz _ A5.out).mono ?_);rintro e w6 ⟨v422,rfl,ho0,hb⟩;refine⟨_,rfl,?_⟩;have bN:=ai.mk (Kd.mP (by(with_reducible repeat(first|apply Kd.fO|apply Kd.fP|apply Kd.gD));exact cO.out) (Kd.oC ho0) hb);have bP:=ai.mk (Kd.lF ho0 (ay (by repeat(first|(with_reducible first|exact HB.out|apply ag|apply af|apply ah)|exact HB.out))));have cz:=ai.mk (bn (by repeat(first|(with_reducible first|exact HB.out|apply ag|apply af|apply ah)|exact HB.out)) hb);clear cO;clear HB;have cO:=bN;have Xo:=bP;have HB:=cz;clear bN bP cz;(try clear hb);(try clear hb2);(try clear hk);(try clear hi);(try clear ho0)))
     go_loopg [7,8] k1 (fun kq v7 v8 w'=>∃(uh:List ByteArray) (lu:Int),v8= .int .i64 lu/\ai (aN.l1 kq l0 l1 aT bB uh lu=some r)/\ai (kq<=k1)/\ai (Kd.S (Kd.slice 9 Kd.string) 54 w' w.heap.size (fun k_=>some k_≠(v7:Value).ownBlock) u5 aT)/\ai (Kd.R Kd.string 9 w' w.heap.size (fun _=>True) v7 uh)/\ai (Below w.heap.size w w'))
     case atStart=>exact⟨(Fz),(0),(by first|rfl|(simp;done)|(simp[*];done)),H',⟨Nat.le_refl _⟩,⟨by(with_reducible repeat(first|apply Kd.fO|apply Kd.fP|apply Kd.gD));exact Kd.lM cO.out (fun _ hk=>hk.2)⟩,⟨by(with_reducible repeat(first|apply Kd.aM|apply Kd.aK|apply Kd.aV));exact Xo.out⟩,⟨by repeat(first|(with_reducible first|exact HB.out|apply ag|apply af|apply ah)|exact HB.out)⟩⟩
     case round=>
      clear H'
      try clear c1
      try clear p2
      try clear c3
      try clear iY
      try clear c4
      try clear iw
      try clear p4
      try clear q4
      try clear hx4
      try clear c5
      try clear oU
      try clear oV
      try clear p2
      try clear Kr
      try clear KC
      obtain⟨uh,lu,rfl,HA,qB,cO,gK,HB⟩:=hrel
      cases gk with
      |zero=>exact absurd HA.out (by simp[aN.l1])
      |succ k2=>
       have H:=HA.out
       clear HA
       simp only[aN.l1] at H
       by_cases c7:lu<(l1.length:Int)
       ·rw[if_pos c7] at H
        have jU:decide (lu<(l1.length:Int))=true:=decide_eq_true c7
        clear c7
        by_cases c8:0<=lu
        ·rw[if_pos c8] at H
         have qN:decide (0<=lu)=true:=decide_eq_true c8
         clear c8
         replace H:=Option.bind_eq_some_iff.mp H
         obtain⟨FB,A90,H⟩:=H
         replace H:(aN.l1 k2 l0 l1 aT bB FB (wrap64 (lu+1)))=some r:=H
         have A9:=ai.mk A90
         clear A90
         have H':=ai.mk H
         clear H
         have QL:0<=(lu:Int):=of_decide_eq_true (by first|(with_reducible assumption)|assumption)
         have Rm:lu<(l1.length:Int):=of_decide_eq_true (by first|(with_reducible assumption)|assumption)
         obtain⟨ad424,e424,tC,tF⟩:=jm HR1.out lu QL Rm
         cases e424
         replace tC:=(HB.out.cell (World.block_lt_of_cell? w _ tC)).trans tC
         replace tF:=(HB.out.cell (World.block_lt_of_cell? w _ tF)).trans tF
         replace QL:=eq_true QL
         replace Rm:=eq_true Rm
         obtain⟨Aq,xW,PO⟩:=Kd.gL gK.out
         subst PO
         go_wp2_with (first|((with_reducible refine bL (f:=52) rfl ?_);refine eQ (some 32) rfl rfl Tryz.func52 (by kernel_rfl) rfl #[.slice Aq uh.length xW,.agg #[.string ((bM l1 lu).f0),.string ((bM l1 lu).f1)]] rfl (by(try simp only[List.map_toArray,List.map_cons,List.map_nil]);first|done|rfl|(simp only[List.length_drop,List.length_take];rfl)) ?_;(with_reducible refine(aG.calls k2 _ _ uh ((bM l1 lu).f0) ((bM l1 lu).f1) FB _ ?gM ?gW A9.out).mono ?_);(case gM=>repeat(first|exact(Kd.dP gK.out).2.2|(with_reducible refine Kd.dD ?_ _)|(with_reducible refine Kd.dB ?_ _)|(with_reducible refine Kd.fA ?_)));(case gW=>exact(Kd.dP gK.out).2.1);rintro e w11 ⟨v426,rfl,ho0,hb⟩;refine⟨_,rfl,?_⟩;have bN:=ai.mk (Kd.mP (by(with_reducible repeat(first|apply Kd.fO|apply Kd.fP|apply Kd.gD));exact cO.out) (Kd.oC ho0) hb);have bP:=ai.mk (Kd.nW (by(with_reducible repeat(first|apply Kd.aM|apply Kd.aK|apply Kd.aV));exact gK.out) (Kd.oC ho0) hb);have cz:=ai.mk (Kd.lF (Kd.Dw ho0 (Kd.AJ (by(with_reducible repeat(first|apply Kd.aM|apply Kd.aK|apply Kd.aV));exact gK.out))) (ay (by repeat(first|(with_reducible first|exact HB.out|apply ag|apply af|apply ah)|exact HB.out))));have fC:=ai.mk (bn (by repeat(first|(with_reducible first|exact HB.out|apply ag|apply af|apply ah)|exact HB.out)) hb);clear cO;clear gK;clear HB;have cO:=bN;have gK:=bP;have Xp:=cz;have HB:=fC;clear bN bP cz fC;(try clear hb);(try clear hb2);(try clear hk);(try clear hi);(try clear ho0)))
         go_roundg k2
         case measure=>have:=gH.out;have:=qB.out;omega
         case rel=>exact⟨(FB),(wrap64 (lu+1)),(by first|rfl|(simp;done)|(simp[*];done)),H',⟨by have:=gH.out;have:=qB.out;omega⟩,⟨by(with_reducible repeat(first|apply Kd.fO|apply Kd.fP|apply Kd.gD));exact Kd.lM cO.out (fun _ hk=>hk.2)⟩,⟨by(with_reducible repeat(first|apply Kd.aM|apply Kd.aK|apply Kd.aV));exact Kd.dU Xp.out (fun _ hk=>trivial)⟩,⟨by repeat(first|(with_reducible first|exact HB.out|apply ag|apply af|apply ah)|exact HB.out)⟩⟩
        ·rw[if_neg c8] at H
         exact absurd H (by simp)
       ·rw[if_neg c7] at H
        have jU:decide (lu<(l1.length:Int))=false:=decide_eq_false c7
        clear c7
        by_cases c12:aT.length<5864062014805
        ·rw[if_pos c12] at H
         have nV:=ai.mk c12
         clear c12
         obtain⟨y428,vK⟩:∃y_:List (List ByteArray),y_=(aT++[uh]):=⟨_,rfl⟩
         replace H:(aN.l0 k2 l0 l1 y428 (wrap64 (bB+1)))=some r:=by first|(rw[vK];with_reducible exact H)|(have iB:=(Option.bind_some _ _).symm.trans H;rw[vK];with_reducible exact iB)|(have iB:=(Option.bind_some _ _).symm.trans H;with_reducible exact iB)|with_reducible exact H|(rw[vK];exact H)|exact H
         have XA:=ai.mk vK
         clear vK
         have H':=ai.mk H
         clear H
         obtain⟨Lh,Mv,PQ⟩:=Kd.gL gK.out
         subst PQ
         go_wp2_with (first|((with_reducible refine bH (b:= .append) (xs:=#[.tmp 33,.tmp 35]) rfl ?_);at_builtin;refine Kd.uT (Kd.slice 9 Kd.string) (w0:=w) w.heap.size rfl (.tmp 33) (.tmp 35) 50 54 (.slice none 0 0) 24 rfl Tryz.underlying50 Bd rfl (by decide) (by omega) u5 aT uh [.slice Lh uh.length Mv] (fun _=>True) (fun k_=>some k_=(.slice Lh uh.length Mv:Value).ownBlock) rfl rfl ?aP (fun k_ hk_=>((Kd.dU (ok':=fun k_=>((fun _=>True)) k_/\some k_≠(u5:Value).ownBlock) (Kd.kG (gK.out) (Kd.jZ cO.out) (by decide)) (fun k_ hk=>⟨trivial,hk.2⟩))).1 k_ hk_.symm) ?aF ?aO ?aB ?aS ?aL ?_;(case aP=>exact Kd.GH (Kd.dU (Kd.yL rfl (Kd.dU (ok':=fun k_=>((fun _=>True)) k_/\some k_≠(u5:Value).ownBlock) (Kd.kG (gK.out) (Kd.jZ cO.out) (by decide)) (fun k_ hk=>⟨trivial,hk.2⟩))) (fun _ h_=>h_)));(case aB=>exact(by repeat(first|(with_reducible first|exact HB.out|apply ag|apply af|apply ah)|exact HB.out)));(case aF=>exact(fun _ _=>trivial));(case aO=>exact(by(with_reducible repeat(first|apply Kd.fO|apply Kd.fP|apply Kd.gD));exact Kd.lM cO.out (fun k_ hk=>⟨trivial,fun e_=>hk e_⟩)));(case aS=>exact(ay (by repeat(first|(with_reducible first|exact HB.out|apply ag|apply af|apply ah)|exact HB.out))));(case aL=>have:=nV.out;omega);intro v429 w13 ho hb hg hat;rw[<-XA.out] at ho;have bN:=ai.mk (hb);have bP:=ai.mk (ho);clear HB;clear cO;clear gK;have HB:=bN;have Xq:=bP;clear bN bP;clear ho hb hg hat))
         go_roundg k2
         case measure=>have:=gH.out;have:=qB.out;omega
         case rel=>exact⟨(y428),(wrap64 (bB+1)),(by first|rfl|(simp;done)|(simp[*];done)),H',⟨by have:=gH.out;have:=qB.out;omega⟩,⟨by(with_reducible repeat(first|apply Kd.fO|apply Kd.fP|apply Kd.gD));exact Xq.out⟩,⟨by repeat(first|(with_reducible first|exact HB.out|apply ag|apply af|apply ah)|exact HB.out)⟩⟩
        ·rw[if_neg c12] at H
         exact absurd H (by simp)
    ·rw[if_neg c4] at H
     exact absurd H (by simp)
   ·rw[if_neg c3] at H
    have iY:decide (bB<(l0.length:Int))=false:=decide_eq_false c3
    clear c3
    obtain rfl:=Option.some.inj H
    go_wp2
    go_ret
    exact⟨_,by first|rfl|(simp[aC,aD]<;>rfl)|(simp[*,aC,aD]<;>rfl),by(with_reducible repeat(first|apply Kd.fO|apply Kd.fP|apply Kd.gD));exact cO.out,by repeat(first|(with_reducible first|exact HB.out|apply ag|apply af|apply ah)|exact HB.out)⟩
end Go.Proofs.YtilpincgjlclpaaGreat.Pr
