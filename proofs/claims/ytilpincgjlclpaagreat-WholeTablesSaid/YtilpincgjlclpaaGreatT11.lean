import Derived.Test.YtilpincgjlclpaaGreatB28
import Derived.Test.YtilpincgjlclpaaGreatT10
import Derived.Test.YtilpincgjlclpaaGreatT3
import Derived.Test.YtilpincgjlclpaaGreatT9
set_option linter.unusedVariables false
set_option linter.unusedSimpArgs false
namespace Go.Proofs.YtilpincgjlclpaaGreat.Pr
open Go.RowKit Go.Proofs.ae.au Go.Proofs.ae.aZ Go.Proofs.ae.bE
attribute [local go_sem] bQ min2_int cB min_two max_three min_three max_four min_four
def av.T21:Bool×List (List Nat×List Nat):=(true,[([],[]),([],[]),([],[]),([1,2],[1,2]),([3],[3]),([],[]),([4,5],[4,5]),([6],[6]),([0,7,6],[0,7]),([8,8,0,1,2,3,4,5,6,7,8],[0,8])])
def av.B21:List Nat:=[0,0,0,6,14,0,62,126,255,511]
theorem av.tab21:qQ .any (opsOf Tryz.f74 21)=av.T21:=by kernel_rfl
theorem av.bits21:Af av.T21.2 av.B21=true:=by kernel_rfl
set_option maxHeartbeats 8000000 in
set_option maxRecDepth 100000 in
theorem av.calls (k:Nat) (A0:Option Addr) (c0:Nat) (l0:List (dN)) (a1:Int) (a2:Int) (r:List (eu)) (w:World) (hr0:Kd.C lQ w A0 l0.length l0) (hc0:l0.length<=c0) (h:av.f k l0 a1 a2=some r):
  Calls Tryz.prog 74 #[.slice A0 l0.length c0,.int .i64 a1,.int .i64 a2] w fun e w'=>∃rU:Value,e= .returned (rU)/\Kd.R qj 47 w' w.heap.size (fun _=>True) rU r/\Below w.heap.size w w':=by
 have VF:=Tryz.underlying47
 have gq:=ai.mk hr0
 have lC:=ai.mk hc0
 clear hr0 hc0
 have HB:=ai.mk (Below.refl w.heap.size w)
 have H:((aH.f k l0).bind fun XT=>(if XT.2=0 then(av.j0 k l0 a1 a2 ([]:List (eu)) (decide (a2<1))) else(av.j0 k l0 a1 a2 ([]:List (eu)) true)))=some r:=h
 clear h
 replace H:=Option.bind_eq_some_iff.mp H
 obtain⟨⟨t143,t144⟩,GA,H⟩:=H
 have A4:=ai.mk GA
 clear GA
 have HC5:=ai.mk H
 clear H
 go_enter Tryz.func74,Tryz.ntmps74
 go_upto_region 3 with(first|((with_reducible refine bL (f:=73) rfl ?_);refine eQ (some 19) rfl rfl Tryz.func73 (by kernel_rfl) rfl #[.slice A0 l0.length c0] rfl (by(try simp only[List.map_toArray,List.map_cons,List.map_nil]);first|done|rfl|(simp only[List.length_drop,List.length_take];rfl)) ?_;(with_reducible refine(aH.calls k _ _ l0 t143 t144 _ ?gM ?gW A4.out).mono ?_);(case gM=>repeat(first|exact gq.out|(with_reducible refine Kd.dD ?_ _)|(with_reducible refine Kd.dB ?_ _)|(with_reducible refine Kd.fA ?_)));(case gW=>exact lC.out);rintro e w6 ⟨rfl,hb⟩;refine⟨_,rfl,?_⟩;have bN:=ai.mk (bn (by repeat(first|(with_reducible first|exact HB.out|apply ag|apply af|apply ah)|exact HB.out)) hb);clear HB;have HB:=bN;clear bN;(try clear hb);(try clear hb2);(try clear hk);(try clear hi)))
 (try simp only[Act.put,List.setIfInBounds_toArray,List.set_cons_zero,List.set_cons_succ])
 go_cut [27] (fun v27 wc=>∃(kq:Nat) (UM:Bool),v27= .bool UM/\ai (av.j0 kq l0 a1 a2 ([]:List (eu)) UM=some r)/\ai (kq<=k)/\ai (Kd.R qj 47 wc w.heap.size (fun _=>True) (.slice none 0 0) ([]:List (eu)))/\ai (Below w.heap.size w wc))
 case first=>
  have H:=HC5.out
  clear HC5
  by_cases c7:t144=0
  ·rw[if_pos c7] at H
   have qw:(t144 != 0)=false:=bne_eq_false_iff_eq.mpr c7
   clear c7
   (first|rw[jU]|(simp only[jY,lV];rw[jU])|skip)
   have H':=ai.mk H
   clear H
   go_wp2
   go_meet
   case rel=>exact⟨_,(decide (a2<1)),(by simp[*]),H',⟨by first|omega|exact Nat.le_refl _⟩,⟨by first|exact Kd.jM _ _ _ _ _|exact Kd.kQ _ _ _ _ _|exact Kd.kS _ _ _ _ _|exact Kd.kR _ _ _ _ _|exact Kd.kg _ _ _ _ _⟩,⟨by repeat(first|(with_reducible first|exact HB.out|apply ag|apply af|apply ah)|exact HB.out)⟩⟩
  ·rw[if_neg c7] at H
   (first|rw[jU]|(simp only[jY,lV];rw[jU])|skip)
   have H':=ai.mk H
   clear H
   go_wp2
   go_meet
   case rel=>exact⟨_,(true),(by simp[*]),H',⟨by first|omega|exact Nat.le_refl _⟩,⟨by first|exact Kd.jM _ _ _ _ _|exact Kd.kQ _ _ _ _ _|exact Kd.kS _ _ _ _ _|exact Kd.kR _ _ _ _ _|exact Kd.kg _ _ _ _ _⟩,⟨by repeat(first|(with_reducible first|exact HB.out|apply ag|apply af|apply ah)|exact HB.out)⟩⟩
 case rest=>
  clear HC5
  obtain⟨kq,UM,rfl,HA,HJ4,gK,HB⟩:=hcut
  cases kq with
  |zero=>exact absurd HA.out (by simp[av.j0])
  |succ kj4=>
   have H:=HA.out
   clear HA
   simp only[av.j0] at H
   by_cases c8:UM=true
   ·subst c8
    have H1:(some ([]:List (eu)))=some r:=by rw[if_pos rfl] at H;exact H
    clear H
    have H:=H1
    clear H1
    obtain rfl:=Option.some.inj H
    go_wp2
    go_ret
    exact⟨_,by first|rfl|(simp[aC,aD]<;>rfl)|(simp[*,aC,aD]<;>rfl),by(with_reducible repeat(first|apply Kd.aM|apply Kd.aK|apply Kd.aV));exact gK.out,by repeat(first|(with_reducible first|exact HB.out|apply ag|apply af|apply ah)|exact HB.out)⟩
   ·replace c8:=Bool.eq_false_iff.mpr c8
    subst c8
    have H1:(av.l0 kj4 l0 a1 a2 ([]:List (eu)) ([]:List (List ByteArray)) ([]:List Int) 0)=some r:=by rw[if_neg (show¬(false=true) by decide)] at H;exact H
    clear H
    have H:=H1
    clear H1
    have H':=ai.mk H
    clear H
    go_wp2
    go_loopg [10,11,12] kj4 (fun kq v10 v11 v12 w'=>∃(je:List (List ByteArray)) (jv:List Int) (bV:Int),v12= .int .i64 bV/\ai (av.l0 kq l0 a1 a2 ([]:List (eu)) je jv bV=some r)/\ai (kq<=kj4)/\ai (Kd.R qj 47 w' w.heap.size (fun _=>True) (.slice none 0 0) ([]:List (eu)))/\ai (Kd.S (Kd.slice 9 Kd.string) 54 w' w.heap.size (fun _=>True) v10 je)/\ai (Kd.R (Kd.int .i64) 3 w' w.heap.size (fun _=>True) v11 jv)/\ai (Below w.heap.size w w'))
    case atStart=>exact⟨(([]:List (List ByteArray))),(([]:List Int)),(0),(by simp[*]),H',⟨Nat.le_refl _⟩,⟨by(with_reducible repeat(first|apply Kd.aM|apply Kd.aK|apply Kd.aV));exact gK.out⟩,⟨by first|exact Kd.kg _ _ _ _ _|exact Kd.kQ _ _ _ _ _|exact Kd.kS _ _ _ _ _|exact Kd.kR _ _ _ _ _|exact Kd.jM _ _ _ _ _⟩,⟨by first|exact Kd.jM _ _ _ _ _|exact Kd.kQ _ _ _ _ _|exact Kd.kS _ _ _ _ _|exact Kd.kR _ _ _ _ _|exact Kd.kg _ _ _ _ _⟩,⟨by repeat(first|(with_reducible first|exact HB.out|apply ag|apply af|apply ah)|exact HB.out)⟩⟩
    case round=>
     clear H'
     obtain⟨je,jv,bV,rfl,HA,qB,gK,fe,gT,HB⟩:=hrel
     cases gk with
     |zero=>exact absurd HA.out (by simp[av.l0])
     |succ k2=>
      have H:=HA.out
      clear HA
      simp only[av.l0] at H
      by_cases c9:bV<(l0.length:Int)
      ·rw[if_pos c9] at H
       have qx:decide (bV<(l0.length:Int))=true:=decide_eq_true c9
       clear c9
       by_cases c10:0<=bV
       ·rw[if_pos c10] at H
        have lU:decide (0<=bV)=true:=decide_eq_true c10
        clear c10
        replace H:=Option.bind_eq_some_iff.mp H
        obtain⟨t146,A110,H⟩:=H
        have A11:=ai.mk A110
        clear A110
        by_cases c12:je.length<5864062014805
        ·rw[if_pos c12] at H
         have nV:=ai.mk c12
         clear c12
         obtain⟨y149,MU⟩:∃y_:List (List ByteArray),y_=(je++[t146]):=⟨_,rfl⟩
         replace H:(if jv.length<17592186044416 then(av.l0 k2 l0 a1 a2 ([]:List (eu)) y149 (jv++[(aU l0 bV).f1]) (wrap64 (bV+1))) else(none))=some r:=by first|(rw[MU];with_reducible exact H)|(have iB:=(Option.bind_some _ _).symm.trans H;rw[MU];with_reducible exact iB)|(have iB:=(Option.bind_some _ _).symm.trans H;with_reducible exact iB)|with_reducible exact H|(rw[MU];exact H)|exact H
         have Ny149:=ai.mk MU
         clear MU
         by_cases c13:jv.length<17592186044416
         ·rw[if_pos c13] at H
          have LMc13:=ai.mk c13
          clear c13
          obtain⟨y153,hy153⟩:∃y_:List Int,y_=(jv++[(aU l0 bV).f1]):=⟨_,rfl⟩
          replace H:(av.l0 k2 l0 a1 a2 ([]:List (eu)) y149 y153 (wrap64 (bV+1)))=some r:=by first|(rw[hy153];with_reducible exact H)|(have iB:=(Option.bind_some _ _).symm.trans H;rw[hy153];with_reducible exact iB)|(have iB:=(Option.bind_some _ _).symm.trans H;with_reducible exact iB)|with_reducible exact H|(rw[hy153];exact H)|exact H
          have Ny153:=ai.mk hy153
          clear hy153
          have H':=ai.mk H
          clear H
          have ZO:0<=(bV:Int):=of_decide_eq_true (by first|(with_reducible assumption)|assumption)
          have aad:bV<(l0.length:Int):=of_decide_eq_true (by first|(with_reducible assumption)|assumption)
          obtain⟨ad145,e145,zt,zu⟩:=eP gq.out bV ZO aad
          cases e145
          replace zt:=(HB.out.cell (World.block_lt_of_cell? w _ zt)).trans zt
          replace zu:=(HB.out.cell (World.block_lt_of_cell? w _ zu)).trans zu
          replace ZO:=eq_true ZO
          replace aad:=eq_true aad
          go_wp2_with (first|((with_reducible refine bL (f:=51) rfl ?_);refine eQ (some 41) rfl rfl Tryz.func51 (by kernel_rfl) rfl #[.string ((aU l0 bV).f0)] rfl (by(try simp only[List.map_toArray,List.map_cons,List.map_nil]);first|done|rfl|(simp only[List.length_drop,List.length_take];rfl)) ?_;(with_reducible refine(aR.calls k2 ((aU l0 bV).f0) t146 _ A11.out).mono ?_);rintro e w14 ⟨v147,rfl,ho0,hb⟩;refine⟨_,rfl,?_⟩;have bN:=ai.mk (Kd.ja (by(with_reducible repeat(first|apply Kd.aM|apply Kd.aK|apply Kd.aV));exact gK.out) hb);have bP:=ai.mk (Kd.mP (by(with_reducible repeat(first|apply Kd.fO|apply Kd.fP|apply Kd.gD));exact fe.out) (Kd.oC ho0) hb);have cz:=ai.mk (Kd.ja (by(with_reducible repeat(first|apply Kd.aM|apply Kd.aK|apply Kd.aV));exact gT.out) hb);have fC:=ai.mk (Kd.lF ho0 (ay (by repeat(first|(with_reducible first|exact HB.out|apply ag|apply af|apply ah)|exact HB.out))));have zG:=ai.mk (bn (by repeat(first|(with_reducible first|exact HB.out|apply ag|apply af|apply ah)|exact HB.out)) hb);clear gK;clear fe;clear gT;clear HB;have gK:=bN;have fe:=bP;have gT:=cz;have Sb:=fC;have HB:=zG;clear bN bP cz fC zG;(try clear hb);(try clear hb2);(try clear hk);(try clear hi);(try clear ho0);obtain⟨Ao16,co16,eo16⟩:=Kd.gL Sb.out;subst eo16)|((with_reducible refine bH (b:= .append) (xs:=#[.tmp 35,.tmp 42]) rfl ?_);at_builtin;refine Kd.uT (Kd.slice 9 Kd.string) (w0:=w) w.heap.size rfl (.tmp 35) (.tmp 42) 50 54 (.slice none 0 0) 24 rfl Tryz.underlying50 Bd rfl (by decide) (by omega) u10 je t146 [.slice Ao16 t146.length co16] (fun _=>True) (fun k_=>some k_=(.slice Ao16 t146.length co16:Value).ownBlock) rfl rfl ?aP (fun k_ hk_=>((Kd.dU (ok':=fun k_=>((fun _=>True)) k_/\some k_≠(u10:Value).ownBlock) (Kd.kG (Sb.out) (Kd.jZ fe.out) (by decide)) (fun k_ hk=>⟨trivial,hk.2⟩))).1 k_ hk_.symm) ?aF ?aO ?aB ?aS ?aL ?_;(case aP=>exact Kd.GH (Kd.dU (Kd.yL rfl (Kd.dU (ok':=fun k_=>((fun _=>True)) k_/\some k_≠(u10:Value).ownBlock) (Kd.kG (Sb.out) (Kd.jZ fe.out) (by decide)) (fun k_ hk=>⟨trivial,hk.2⟩))) (fun _ h_=>h_)));(case aB=>exact(by repeat(first|(with_reducible first|exact HB.out|apply ag|apply af|apply ah)|exact HB.out)));(case aF=>exact(fun _ _=>trivial));(case aO=>exact(by(with_reducible repeat(first|apply Kd.fO|apply Kd.fP|apply Kd.gD));exact Kd.lM fe.out (fun k_ hk=>⟨trivial,fun e_=>hk.2 e_⟩)));(case aS=>exact(ay (by repeat(first|(with_reducible first|exact HB.out|apply ag|apply af|apply ah)|exact HB.out))));(case aL=>have:=nV.out;omega);intro v150 OY ho hb hg hat;rw[<-Ny149.out] at ho;have bN:=ai.mk (Kd.sj (by(with_reducible repeat(first|apply Kd.aM|apply Kd.aK|apply Kd.aV));exact gK.out) (Kd.jZ (by(with_reducible repeat(first|apply Kd.fO|apply Kd.fP|apply Kd.gD));exact fe.out)) (by decide) hg);have bP:=ai.mk (Kd.sj (by(with_reducible repeat(first|apply Kd.aM|apply Kd.aK|apply Kd.aV));exact gT.out) (Kd.jZ (by(with_reducible repeat(first|apply Kd.fO|apply Kd.fP|apply Kd.gD));exact fe.out)) (by decide) hg);have cz:=ai.mk (hb);have fC:=ai.mk (ho);clear gK;clear gT;clear HB;clear fe;clear Sb;have gK:=bN;have gT:=bP;have HB:=cz;have Sc:=fC;clear bN bP cz fC;clear ho hb hg hat;have ZP:0<=(bV:Int):=of_decide_eq_true (by first|(with_reducible assumption)|assumption);have aae:bV<(l0.length:Int):=of_decide_eq_true (by first|(with_reducible assumption)|assumption);obtain⟨ad152,e152,zw,zx⟩:=eP gq.out bV ZP aae;obtain rfl:ad145=ad152:=(by injection e152);replace zw:=(HB.out.cell (World.block_lt_of_cell? w _ zw)).trans zw;replace zx:=(HB.out.cell (World.block_lt_of_cell? w _ zx)).trans zx;replace ZP:=eq_true ZP;replace aae:=eq_true aae)|((with_reducible refine bH (b:= .append) (xs:=#[.tmp 44,.tmp 50]) rfl ?_);at_builtin;refine Kd.bT (Kd.int .i64) (w0:=w) w.heap.size rfl (.tmp 44) (.tmp 50) 43 3 (.int .i64 0) 8 rfl Tryz.underlying43 info3 rfl (by decide) (by omega) u11 jv ((aU l0 bV).f1) [.int .i64 ((aU l0 bV).f1)] (fun _=>True) (fun _=>False) rfl rfl ?aP (fun _ hk=>hk.elim) ?aF ?aO ?aB ?aS ?aL ?_;(case aP=>exact rfl);(case aB=>exact(by repeat(first|(with_reducible first|exact HB.out|apply ag|apply af|apply ah)|exact HB.out)));(case aF=>exact(fun _ _=>trivial));(case aO=>exact(by(with_reducible repeat(first|apply Kd.aM|apply Kd.aK|apply Kd.aV));exact gT.out));(case aS=>exact(ay (by repeat(first|(with_reducible first|exact HB.out|apply ag|apply af|apply ah)|exact HB.out))));(case aL=>have:=LMc13.out;omega);intro v154 Cv ho hb hg hat;rw[<-Ny153.out] at ho;have bN:=ai.mk (Kd.sj (by(with_reducible repeat(first|apply Kd.aM|apply Kd.aK|apply Kd.aV));exact gK.out) (Kd.oO (by(with_reducible repeat(first|apply Kd.aM|apply Kd.aK|apply Kd.aV));exact gT.out)) (by decide) hg);have bP:=ai.mk (Kd.Sk (by(with_reducible repeat(first|apply Kd.fO|apply Kd.fP|apply Kd.gD));exact Sc.out) (Kd.oO (by(with_reducible repeat(first|apply Kd.aM|apply Kd.aK|apply Kd.aV));exact gT.out)) (by decide) hg);have cz:=ai.mk (hb);have fC:=ai.mk (ho);clear gK;clear Sc;clear HB;clear gT;have gK:=bN;have Sc:=bP;have HB:=cz;have HO155:=fC;clear bN bP cz fC;clear ho hb hg hat))
          go_roundg k2
          case measure=>have:=HJ4.out;have:=qB.out;omega
          case rel=>exact⟨(y149),(y153),(wrap64 (bV+1)),(by simp[*]),H',⟨by have:=HJ4.out;have:=qB.out;omega⟩,⟨by(with_reducible repeat(first|apply Kd.aM|apply Kd.aK|apply Kd.aV));exact gK.out⟩,⟨by(with_reducible repeat(first|apply Kd.fO|apply Kd.fP|apply Kd.gD));exact Sc.out⟩,⟨by(with_reducible repeat(first|apply Kd.aM|apply Kd.aK|apply Kd.aV));exact HO155.out⟩,⟨by repeat(first|(with_reducible first|exact HB.out|apply ag|apply af|apply ah)|exact HB.out)⟩⟩
         ·rw[if_neg c13] at H
          exact absurd H (by simp)
        ·rw[if_neg c12] at H
         exact absurd H (by simp)
       ·rw[if_neg c10] at H
        exact absurd H (by simp)
      ·rw[if_neg c9] at H
       have qx:decide (bV<(l0.length:Int))=false:=decide_eq_false c9
       clear c9
       have H':=ai.mk H
       clear H
       go_wp2
       go_loopg [7,10] k2 (fun kq v7 v10 w'=>∃(BB:List (eu)) (gQ:List (List ByteArray)),ai (av.l1 kq a1 a2 BB gQ jv=some r)/\ai (kq<=k2)/\ai (Kd.R qj 47 w' w.heap.size (fun _=>True) v7 BB)/\ai (Kd.S (Kd.slice 9 Kd.string) 54 w' w.heap.size (fun _=>True) v10 gQ)/\ai (Kd.R (Kd.int .i64) 3 w' w.heap.size (fun _=>True) u11 jv)/\ai (Below w.heap.size w w'))
       case atStart=>exact⟨(([]:List (eu))),(je),H',⟨Nat.le_refl _⟩,⟨by(with_reducible repeat(first|apply Kd.aM|apply Kd.aK|apply Kd.aV));exact gK.out⟩,⟨by(with_reducible repeat(first|apply Kd.fO|apply Kd.fP|apply Kd.gD));exact fe.out⟩,⟨by(with_reducible repeat(first|apply Kd.aM|apply Kd.aK|apply Kd.aV));exact gT.out⟩,⟨by repeat(first|(with_reducible first|exact HB.out|apply ag|apply af|apply ah)|exact HB.out)⟩⟩
       case round=>
        clear H'
        obtain⟨BB,gQ,HA,HK3,gK,fe,gT,HB⟩:=hrel
        cases gk with
        |zero=>exact absurd HA.out (by simp[av.l1])
        |succ k3=>
         have H:=HA.out
         clear HA
         simp only[av.l1] at H
         by_cases c18:(BB.length:Int)<a1
         ·rw[if_pos c18] at H
          have Ml:decide ((BB.length:Int)<a1)=true:=decide_eq_true c18
          clear c18
          replace H:=Option.bind_eq_some_iff.mp H
          obtain⟨⟨t156,t157,t158⟩,A190,H⟩:=H
          have A19:=ai.mk A190
          clear A190
          by_cases c20:t158<a2
          ·rw[if_pos c20] at H
           have Mm:decide (t158<a2)=true:=decide_eq_true c20
           clear c20
           obtain rfl:=Option.some.inj H
           obtain⟨Ao21,co21,eo21⟩:=Kd.gL gK.out
           subst eo21
           obtain⟨Ao22,co22,eo22⟩:=Kd.Sl fe.out
           subst eo22
           obtain⟨Ao23,co23,eo23⟩:=Kd.gL gT.out
           subst eo23
           go_wp2_with (first|((with_reducible refine bL (f:=16) rfl ?_);refine eQ (some 59) rfl rfl Tryz.func16 (by kernel_rfl) rfl #[.slice Ao22 gQ.length co22,.slice Ao23 jv.length co23] rfl (by(try simp only[List.map_toArray,List.map_cons,List.map_nil]);first|done|rfl|(simp only[List.length_drop,List.length_take];rfl)) ?_;(with_reducible refine(fw.calls _ _ gQ _ _ jv t156 t157 t158 _ ?gM ?gW ?side3 ?side4 A19.out).mono ?_);(case gM=>repeat(first|exact(Kd.qY fe.out).2.2|(with_reducible refine Kd.dD ?_ _)|(with_reducible refine Kd.dB ?_ _)|(with_reducible refine Kd.fA ?_)));(case gW=>exact(Kd.qY fe.out).2.1);(case side3=>repeat(first|exact(Kd.dP gT.out).2.2|(with_reducible refine Kd.dD ?_ _)|(with_reducible refine Kd.dB ?_ _)|(with_reducible refine Kd.fA ?_)));(case side4=>exact(Kd.dP gT.out).2.1);rintro e w24 ⟨rfl,hb⟩;refine⟨_,rfl,?_⟩;have bN:=ai.mk (Kd.ja (by(with_reducible repeat(first|apply Kd.aM|apply Kd.aK|apply Kd.aV));exact gK.out) hb);have bP:=ai.mk (Kd.yO (by(with_reducible repeat(first|apply Kd.fO|apply Kd.fP|apply Kd.gD));exact fe.out) hb);have cz:=ai.mk (Kd.ja (by(with_reducible repeat(first|apply Kd.aM|apply Kd.aK|apply Kd.aV));exact gT.out) hb);have fC:=ai.mk (bn (by repeat(first|(with_reducible first|exact HB.out|apply ag|apply af|apply ah)|exact HB.out)) hb);clear gK;clear fe;clear gT;clear HB;have gK:=bN;have fe:=bP;have gT:=cz;have HB:=fC;clear bN bP cz fC;(try clear hb);(try clear hb2);(try clear hk);(try clear hi))|((with_reducible refine di (N:=13) rfl ?_);refine bW ?hg (N:=13) ?hd (cs:=#[.string (⟨#[]⟩:ByteArray),.string (⟨#[]⟩:ByteArray)]) (t:=47) ?hr ?_;(case hd=>rfl);(case hg=>rfl);(case hr=>first|(go_simp;done)|(go_simp;rfl));intro jl hg w25 dm hb;have bN:=ai.mk (Kd.ja (Kd.LH (by(with_reducible repeat(first|apply Kd.aM|apply Kd.aK|apply Kd.aV));exact gK.out) jl (Nat.le_of_eq hg.symm)) hb);have bP:=ai.mk (Kd.yO (by(with_reducible repeat(first|apply Kd.fO|apply Kd.fP|apply Kd.gD));exact fe.out) hb);have cz:=ai.mk (Kd.ja (by(with_reducible repeat(first|apply Kd.aM|apply Kd.aK|apply Kd.aV));exact gT.out) hb);have fC:=ai.mk (bn (by repeat(first|(with_reducible first|exact HB.out|apply ag|apply af|apply ah)|exact HB.out)) hb);have zG:=ai.mk (dm);have EB:=ai.mk ((by rw[hg];exact(ay (by repeat(first|(with_reducible first|exact HB.out|apply ag|apply af|apply ah)|exact HB.out))):w.heap.size<=jl));have NA:=ai.mk ((by rw[hg];exact(ay (by repeat(first|(with_reducible first|exact HB.out|apply ag|apply af|apply ah)|exact HB.out))):w.heap.size<=jl));clear gK;clear fe;clear gT;clear HB;have gK:=bN;have fe:=bP;have gT:=cz;have HB:=fC;have jC:=zG;have GW159:=EB;have uE:=NA;clear bN bP cz fC zG EB NA;clear hb dm hg;have SS:w25.cell? ⟨jl,0,none⟩=some (.string (⟨#[]⟩:ByteArray)):=(ax jC.out 0).trans rfl;have SV:w25.cell? ⟨jl,1,none⟩=some (.string (⟨#[]⟩:ByteArray)):=(ax jC.out 1).trans rfl;have Td:=ak jC.out 0;have Te:=ak jC.out 1))
           go_ret
           exact⟨_,by first|rfl|(simp[aC,aD]<;>rfl)|(simp[*,aC,aD]<;>rfl),by(with_reducible repeat(first|apply Kd.aM|apply Kd.aK|apply Kd.aV));exact Kd.dU (Kd.mi (p:=⟨jl,1,none⟩) (Kd.mi (p:=⟨jl,0,none⟩) (Kd.dU gK.out (fun k_ hk=>(⟨hk,hk.2⟩:_/\k_≠jl))) (fun _ hk=>hk.2) (.string t156)) (fun _ hk=>hk.2) (.string t157)) (fun _ hk=>trivial),by repeat(first|(with_reducible first|exact HB.out|apply ag|apply af|apply ah|refine az ?_ uE.out)|exact HB.out)⟩
          ·rw[if_neg c20] at H
           have Mm:decide (t158<a2)=false:=decide_eq_false c20
           clear c20
           by_cases Vd:BB.length<4398046511104
           ·rw[if_pos Vd] at H
            have LMc27:=ai.mk Vd
            clear Vd
            obtain⟨y160,hy160⟩:∃y_:List (eu),y_=(BB++[(⟨t156,t157⟩:eu)]):=⟨_,rfl⟩
            replace H:(av.l2 k3 a1 a2 y160 gQ jv ([]:List (List ByteArray)) 0 t156 t157)=some r:=by first|(rw[hy160];with_reducible exact H)|(have iB:=(Option.bind_some _ _).symm.trans H;rw[hy160];with_reducible exact iB)|(have iB:=(Option.bind_some _ _).symm.trans H;with_reducible exact iB)|with_reducible exact H|(rw[hy160];exact H)|exact H
            have Ny160:=ai.mk hy160
            clear hy160
            have H':=ai.mk H
            clear H
            obtain⟨Ao28,co28,eo28⟩:=Kd.gL gK.out
            subst eo28
            obtain⟨Ao29,PE,eo29⟩:=Kd.Sl fe.out
            subst eo29
            obtain⟨Ao30,co30,eo30⟩:=Kd.gL gT.out
            subst eo30
            go_wp2_with (first|((with_reducible refine bL (f:=16) rfl ?_);refine eQ (some 59) rfl rfl Tryz.func16 (by kernel_rfl) rfl #[.slice Ao29 gQ.length PE,.slice Ao30 jv.length co30] rfl (by(try simp only[List.map_toArray,List.map_cons,List.map_nil]);first|done|rfl|(simp only[List.length_drop,List.length_take];rfl)) ?_;(with_reducible refine(fw.calls _ _ gQ _ _ jv t156 t157 t158 _ ?gM ?gW ?side3 ?side4 A19.out).mono ?_);(case gM=>repeat(first|exact(Kd.qY fe.out).2.2|(with_reducible refine Kd.dD ?_ _)|(with_reducible refine Kd.dB ?_ _)|(with_reducible refine Kd.fA ?_)));(case gW=>exact(Kd.qY fe.out).2.1);(case side3=>repeat(first|exact(Kd.dP gT.out).2.2|(with_reducible refine Kd.dD ?_ _)|(with_reducible refine Kd.dB ?_ _)|(with_reducible refine Kd.fA ?_)));(case side4=>exact(Kd.dP gT.out).2.1);rintro e w31 ⟨rfl,hb⟩;refine⟨_,rfl,?_⟩;have bN:=ai.mk (Kd.ja (by(with_reducible repeat(first|apply Kd.aM|apply Kd.aK|apply Kd.aV));exact gK.out) hb);have bP:=ai.mk (Kd.yO (by(with_reducible repeat(first|apply Kd.fO|apply Kd.fP|apply Kd.gD));exact fe.out) hb);have cz:=ai.mk (Kd.ja (by(with_reducible repeat(first|apply Kd.aM|apply Kd.aK|apply Kd.aV));exact gT.out) hb);have fC:=ai.mk (bn (by repeat(first|(with_reducible first|exact HB.out|apply ag|apply af|apply ah)|exact HB.out)) hb);clear gK;clear fe;clear gT;clear HB;have gK:=bN;have fe:=bP;have gT:=cz;have HB:=fC;clear bN bP cz fC;(try clear hb);(try clear hb2);(try clear hk);(try clear hi))|((with_reducible refine di (N:=13) rfl ?_);refine bW ?hg (N:=13) ?hd (cs:=#[.string (⟨#[]⟩:ByteArray),.string (⟨#[]⟩:ByteArray)]) (t:=47) ?hr ?_;(case hd=>rfl);(case hg=>rfl);(case hr=>first|(go_simp;done)|(go_simp;rfl));intro jl hg w32 dm hb;have bN:=ai.mk (Kd.ja (Kd.LH (by(with_reducible repeat(first|apply Kd.aM|apply Kd.aK|apply Kd.aV));exact gK.out) jl (Nat.le_of_eq hg.symm)) hb);have bP:=ai.mk (Kd.yO (by(with_reducible repeat(first|apply Kd.fO|apply Kd.fP|apply Kd.gD));exact fe.out) hb);have cz:=ai.mk (Kd.ja (by(with_reducible repeat(first|apply Kd.aM|apply Kd.aK|apply Kd.aV));exact gT.out) hb);have fC:=ai.mk (bn (by repeat(first|(with_reducible first|exact HB.out|apply ag|apply af|apply ah)|exact HB.out)) hb);have zG:=ai.mk (dm);have EB:=ai.mk ((by rw[hg];exact(ay (by repeat(first|(with_reducible first|exact HB.out|apply ag|apply af|apply ah)|exact HB.out))):w.heap.size<=jl));have NA:=ai.mk ((by rw[hg];exact(ay (by repeat(first|(with_reducible first|exact HB.out|apply ag|apply af|apply ah)|exact HB.out))):w.heap.size<=jl));clear gK;clear fe;clear gT;clear HB;have gK:=bN;have fe:=bP;have gT:=cz;have HB:=fC;have jC:=zG;have GW159:=EB;have uE:=NA;clear bN bP cz fC zG EB NA;clear hb dm hg;have hcz33_0:w32.cell? ⟨jl,0,none⟩=some (.string (⟨#[]⟩:ByteArray)):=(ax jC.out 0).trans rfl;have hcz33_1:w32.cell? ⟨jl,1,none⟩=some (.string (⟨#[]⟩:ByteArray)):=(ax jC.out 1).trans rfl;have hfz33_0:=ak jC.out 0;have hfz33_1:=ak jC.out 1)|((with_reducible refine bH (b:= .append) (xs:=#[.tmp 66,.tmp 68]) rfl ?_);at_builtin;refine Kd.bT qj (w0:=w) w.heap.size rfl (.tmp 66) (.tmp 68) 27 47 (.agg #[(.string ⟨#[]⟩),(.string ⟨#[]⟩)]) 32 rfl Tryz.underlying27 Kg rfl (by decide) (by omega) (.slice Ao28 BB.length co28) BB (⟨t156,t157⟩:eu) [.string t156,.string t157] (fun k_=>k_≠jl) (fun _=>False) rfl (by first|(go_simp;done)|(go_simp;rfl)) ?aP (fun _ hk=>hk.elim) ?aF ?aO ?aB ?aS ?aL ?_;(case aP=>exact Db _ _ _ (⟨t156,t157⟩:eu));(case aB=>exact(by repeat(first|(with_reducible first|exact HB.out|apply ag|apply af|apply ah|refine az ?_ uE.out)|exact HB.out)));(case aF=>exact(fun k_ hk=>Kd.freshB (g:=jl) (o:= .cells #[.string t156,.string t157] 47 (0,0)) (by(with_reducible repeat(first|refine aW ?_ _|refine bC ?_|refine bf ?_ _));refine nS (cs:=#[.string t156,.string (⟨#[]⟩:ByteArray)]) ?_ 1 _ rfl;(with_reducible repeat(first|refine aW ?_ _|refine bC ?_|refine bf ?_ _));refine nS (cs:=#[.string (⟨#[]⟩:ByteArray),.string (⟨#[]⟩:ByteArray)]) ?_ 0 _ rfl;(with_reducible repeat(first|refine aW ?_ _|refine bC ?_|refine bf ?_ _));exact jC.out) k_ hk));(case aO=>exact(by(with_reducible repeat(first|apply Kd.aM|apply Kd.aK|apply Kd.aV));exact Kd.dU (Kd.mi (p:=⟨jl,1,none⟩) (Kd.mi (p:=⟨jl,0,none⟩) (Kd.dU gK.out (fun k_ hk=>(⟨hk,hk.2⟩:_/\k_≠jl))) (fun _ hk=>hk.2) (.string t156)) (fun _ hk=>hk.2) (.string t157)) (fun _ hk=>hk.1.2)));(case aS=>exact(ay (by repeat(first|(with_reducible first|exact HB.out|apply ag|apply af|apply ah|refine az ?_ uE.out)|exact HB.out))));(case aL=>have:=LMc27.out;omega);intro v161 w34 ho hb hg hat;rw[<-Ny160.out] at ho;have bN:=ai.mk (Kd.Sk (by(with_reducible repeat(first|apply Kd.fO|apply Kd.fP|apply Kd.gD));exact(Kd.lM (Kd.S_far (p:=⟨jl,1,none⟩) (Kd.S_far (p:=⟨jl,0,none⟩) (Kd.S_types fe.out jC.out (by decide)) (fun _ hk=>hk.2) (.string t156)) (fun _ hk=>hk.2) (.string t157)) (fun _ h_=>h_.1))) (Kd.oO (by(with_reducible repeat(first|apply Kd.aM|apply Kd.aK|apply Kd.aV));exact(Kd.dU (Kd.mi (p:=⟨jl,1,none⟩) (Kd.mi (p:=⟨jl,0,none⟩) (Kd.dU gK.out (fun k_ hk=>(⟨hk,hk.2⟩:_/\k_≠jl))) (fun _ hk=>hk.2) (.string t156)) (fun _ hk=>hk.2) (.string t157)) (fun _ h_=>h_.1)))) (by decide) hg);have bP:=ai.mk (Kd.sj (by(with_reducible repeat(first|apply Kd.aM|apply Kd.aK|apply Kd.aV));exact(Kd.dU (Kd.mi (p:=⟨jl,1,none⟩) (Kd.mi (p:=⟨jl,0,none⟩) (Kd.yM gT.out jC.out (by decide)) (fun _ hk=>hk.2) (.string t156)) (fun _ hk=>hk.2) (.string t157)) (fun _ h_=>h_.1))) (Kd.oO (by(with_reducible repeat(first|apply Kd.aM|apply Kd.aK|apply Kd.aV));exact(Kd.dU (Kd.mi (p:=⟨jl,1,none⟩) (Kd.mi (p:=⟨jl,0,none⟩) (Kd.dU gK.out (fun k_ hk=>(⟨hk,hk.2⟩:_/\k_≠jl))) (fun _ hk=>hk.2) (.string t156)) (fun _ hk=>hk.2) (.string t157)) (fun _ h_=>h_.1)))) (by decide) hg);have cz:=ai.mk (dF (g:=jl) (o:= .cells #[.string t156,.string t157] 47 (0,0)) (by(with_reducible repeat(first|refine aW ?_ _|refine bC ?_|refine bf ?_ _));refine nS (cs:=#[.string t156,.string (⟨#[]⟩:ByteArray)]) ?_ 1 _ rfl;(with_reducible repeat(first|refine aW ?_ _|refine bC ?_|refine bf ?_ _));refine nS (cs:=#[.string (⟨#[]⟩:ByteArray),.string (⟨#[]⟩:ByteArray)]) ?_ 0 _ rfl;(with_reducible repeat(first|refine aW ?_ _|refine bC ?_|refine bf ?_ _));exact jC.out) hg (Kd.AB gK.out (fun _ hk=>hk.2)));have fC:=ai.mk (hb);have zG:=ai.mk (ho);clear fe;clear gT;clear jC;clear HB;clear gK;have fe:=bN;have gT:=bP;have jC:=cz;have HB:=fC;have HO162:=zG;clear bN bP cz fC zG;clear ho hb hg hat))
            go_loopg [15,16] k3 (fun kq v15 v16 w'=>∃(Ai:List (List ByteArray)) (mF:Int),v16= .int .i64 mF/\ai (av.l2 kq a1 a2 y160 gQ jv Ai mF t156 t157=some r)/\ai (kq<=k3)/\ai (Kd.R qj 47 w' w.heap.size (fun k_=>k_≠jl) v161 y160)/\ai (Kd.S (Kd.slice 9 Kd.string) 54 w' w.heap.size (fun k_=>some k_≠(v15:Value).ownBlock) (.slice Ao29 gQ.length PE) gQ)/\ai (Kd.R (Kd.int .i64) 3 w' w.heap.size (fun _=>True) (.slice Ao30 jv.length co30) jv)/\ai (Kd.S (Kd.slice 9 Kd.string) 54 w' w.heap.size (fun k_=>some k_≠((.slice Ao29 gQ.length PE):Value).ownBlock) v15 Ai)/\ai (w'.heap[jl]?=some (.cells #[.string t156,.string t157] 47 (0,0)))/\ai (Below w.heap.size w w'))
            case atStart=>exact⟨(([]:List (List ByteArray))),(0),(by first|rfl|(simp;done)|(simp[*];done)),H',⟨Nat.le_refl _⟩,⟨by(with_reducible repeat(first|apply Kd.aM|apply Kd.aK|apply Kd.aV));exact HO162.out⟩,⟨by(with_reducible repeat(first|apply Kd.fO|apply Kd.fP|apply Kd.gD));exact Kd.lM fe.out (fun _ hk=>(by simp[Value.ownBlock]))⟩,⟨by(with_reducible repeat(first|apply Kd.aM|apply Kd.aK|apply Kd.aV));exact gT.out⟩,⟨by first|exact Kd.kg _ _ _ _ _|exact Kd.kQ _ _ _ _ _|exact Kd.kS _ _ _ _ _|exact Kd.kR _ _ _ _ _|exact Kd.jM _ _ _ _ _⟩,⟨by(with_reducible repeat(first|refine aW ?_ _|refine bC ?_|refine bf ?_ _));exact jC.out⟩,⟨by repeat(first|(with_reducible first|exact HB.out|apply ag|apply af|apply ah|refine az ?_ uE.out)|exact HB.out)⟩⟩
            case round=>
             clear H'
             try clear c1
             try clear p1
             try clear q1
             try clear hx1
             try clear c2
             try clear p2
             try clear c5
             try clear p6
             try clear c7
             try clear jU
             try clear qw
             try clear c8
             try clear c9
             try clear qx
             try clear c10
             try clear lU
             try clear c12
             try clear c13
             try clear p14
             try clear q14
             try clear hx14
             try clear p15
             try clear q15
             try clear hx15
             try clear c16
             try clear c18
             try clear Ml
             try clear c20
             try clear Mm
             try clear Vd
             try clear SS
             try clear SV
             try clear hcz33_0
             try clear hcz33_1
             try clear Td
             try clear Te
             try clear hfz33_0
             try clear hfz33_1
             try clear zt
             try clear zu
             try clear zw
             try clear zx
             try clear p1
             try clear p14
             try clear ZO
             try clear p15
             try clear ZP
             try clear p2
             try clear p6
             try clear q1
             try clear q14
             try clear aad
             try clear q15
             try clear aae
             obtain⟨Ai,mF,rfl,HA,Xh,gK,fe,gT,pI,jC,HB⟩:=hrel
             cases gk with
             |zero=>exact absurd HA.out (by simp[av.l2])
             |succ k4=>
              have H:=HA.out
              clear HA
              simp only[av.l2] at H
              by_cases c35:mF<(gQ.length:Int)
              ·rw[if_pos c35] at H
               have c35b0:decide (mF<(gQ.length:Int))=true:=decide_eq_true c35
               clear c35
               by_cases c36:0<=mF
               ·rw[if_pos c36] at H
                have c36b0:decide (0<=mF)=true:=decide_eq_true c36
                clear c36
                replace H:=Option.bind_eq_some_iff.mp H
                obtain⟨t164,A370,H⟩:=H
                replace H:(if Ai.length<5864062014805 then(av.l2 k4 a1 a2 y160 gQ jv (Ai++[t164]) (wrap64 (mF+1)) t156 t157) else(none))=some r:=H
                have A37:=ai.mk A370
                clear A370
                by_cases c38:Ai.length<5864062014805
                ·rw[if_pos c38] at H
                 have LMc38:=ai.mk c38
                 clear c38
                 obtain⟨y167,hy167⟩:∃y_:List (List ByteArray),y_=(Ai++[t164]):=⟨_,rfl⟩
                 replace H:(av.l2 k4 a1 a2 y160 gQ jv y167 (wrap64 (mF+1)) t156 t157)=some r:=by first|(rw[hy167];with_reducible exact H)|(have iB:=(Option.bind_some _ _).symm.trans H;rw[hy167];with_reducible exact iB)|(have iB:=(Option.bind_some _ _).symm.trans H;with_reducible exact iB)|with_reducible exact H|(rw[hy167];exact H)|exact H
                 have Ny167:=ai.mk hy167
                 clear hy167
                 have H':=ai.mk H
                 clear H
                 try go_wp2
                 have bN:=ai.mk (Kd.aV gK.out)
                 have bP:=ai.mk (Kd.gD fe.out)
                 have cz:=ai.mk (Kd.aV gT.out)
                 have fC:=ai.mk (Kd.gD pI.out)
                 have zG:=ai.mk (bC jC.out)
                 have EB:=ai.mk (ah HB.out)
                 clear gK
                 clear fe
                 clear gT
                 clear pI
                 clear jC
                 clear HB
                 have gK:=bN
                 have fe:=bP
                 have gT:=cz
                 have pI:=fC
                 have jC:=zG
                 have HB:=EB
                 clear bN bP cz fC zG EB
                 have p163:0<=(mF:Int):=of_decide_eq_true (by first|(with_reducible assumption)|assumption)
                 have q163:mF<(gQ.length:Int):=of_decide_eq_true (by first|(with_reducible assumption)|assumption)
                 obtain⟨LX,WY,XY,e163,JW,Ti,Tf⟩:=BI (Kd.qY fe.out).2.2 mF p163 q163
                 cases e163
                 obtain⟨ce163,hce163,hMe163,YQ⟩:=Kd.S_get fe.out [] mF p163 (by first|exact q163|exact of_decide_eq_true (by first|(with_reducible assumption)|assumption)|(have e_:=(Kd.qY fe.out).1;omega))
                 obtain⟨ve163_0,rfl,Jl⟩:=hMe163
                 have zn:=YQ 0 _ rfl
                 rw[Nat.add_zero,show((Kd.slice 9 Kd.string)).sz=1 from rfl,Nat.mul_one] at zn
                 replace zn:=Option.some.inj (zn.symm.trans JW)
                 rw[zn] at Jl
                 have qC:=ai.mk (show Kd.R Kd.string 9 _ _ _ _ (lh gQ mF) from Jl)
                 clear zn Jl
                 clear YQ hce163
                 have si:=ai.mk Tf
                 have HC163_0:=ai.mk Ti
                 clear Tf Ti
                 replace p163:=eq_true p163
                 replace q163:=eq_true q163
                 refine start_ (n:=10) (S:=fun w'=>w'.cell? ⟨jl,0,none⟩=some (.string t156)/\w'.cell? ⟨jl,1,none⟩=some (.string t157)/\w'.cell? (LX.add (mF).toNat)=some (.slice WY (lh gQ mF).length XY)) (ds:=[7,8]) #[false,false,false,false,false,false,false,false,false,false] (by kernel_rfl) rfl rfl ⟨(ax jC.out 0).trans rfl,(ax jC.out 1).trans rfl,JW⟩ (fun hHeld=>?_);refine WE av.tab21 av.bits21 (fun Xu HW_=>?_)
                 generalize wr.drew=w39 at gK fe gT pI jC HB qC si JW hHeld ⊢
                 refine NM (i:=0) (N:=some 76) (v:=?_) (a':=?_) #[true,false,false,false,false,false,false,false,false,false] rfl rfl (DC Xu.out (by kernel_rfl)) (fun _ _ _ h=>h) (Or.inl ⟨by rfl,?_⟩) ?_ ?_
                 rotate_left
                 ·intro w'
                  go_simp
                  with_reducible rfl
                 rotate_left
                 ·simp only[Act.put,List.setIfInBounds_toArray,List.set_cons_zero,List.set_cons_succ,jY,lV]
                  rfl
                 refine NM (i:=1) (N:=some 77) (v:=?_) (a':=?_) #[true,true,false,false,false,false,false,false,false,false] rfl rfl (DC Xu.out (by kernel_rfl)) (fun _ _ _ h=>h) (Or.inl ⟨by rfl,?_⟩) ?_ ?_
                 rotate_left
                 ·intro w'
                  go_simp
                  with_reducible rfl
                 rotate_left
                 ·simp only[Act.put,List.setIfInBounds_toArray,List.set_cons_zero,List.set_cons_succ,jY,lV]
                  rfl
                 refine NM (i:=2) (N:=some 78) (v:=?_) (a':=?_) #[true,true,true,false,false,false,false,false,false,false] rfl rfl (DC Xu.out (by kernel_rfl)) (fun _ _ _ h=>h) (Or.inl ⟨by rfl,?_⟩) ?_ ?_
                 rotate_left
                 ·intro w'
                  go_simp
                  with_reducible rfl
                 rotate_left
                 ·simp only[Act.put,List.setIfInBounds_toArray,List.set_cons_zero,List.set_cons_succ,jY,lV]
                  rfl
                 refine NM (i:=3) (N:=some 79) (v:=?_) (a':=?_) #[true,true,true,true,false,false,false,false,false,false] rfl rfl (DC Xu.out (by kernel_rfl)) (fun _ _ _ h=>h) (Or.inl ⟨by rfl,?_⟩) ?_ ?_
                 rotate_left
                 ·intro w'
                  go_simp
                  with_reducible rfl
                 rotate_left
                 ·simp only[Act.put,List.setIfInBounds_toArray,List.set_cons_zero,List.set_cons_succ,jY,lV]
                  rfl
                 refine take_ (i:=4) (N:=some 80) (v:=?_) (a':=?_) #[true,true,true,true,true,false,false,false,false,false] rfl rfl (Ot Xu.out HW_.out (by kernel_rfl)) (fun _ _ _ h=>h) (Or.inl ⟨by rfl,?_⟩) hHeld ?_ ?_
                 rotate_left
                 ·rintro w' ⟨s0,s1,s2⟩
                  go_simp
                  with_reducible rfl
                 rotate_left
                 ·simp only[Act.put,List.setIfInBounds_toArray,List.set_cons_zero,List.set_cons_succ,jY,lV]
                  rfl
                 refine take_ (i:=5) (N:=some 81) (v:=?_) (a':=?_) #[true,true,true,true,true,true,false,false,false,false] rfl rfl (Ot Xu.out HW_.out (by kernel_rfl)) (fun _ _ _ h=>h) (Or.inl ⟨by rfl,?_⟩) hHeld ?_ ?_
                 rotate_left
                 ·rintro w' ⟨s0,s1,s2⟩
                  go_simp
                  with_reducible rfl
                 rotate_left
                 ·simp only[Act.put,List.setIfInBounds_toArray,List.set_cons_zero,List.set_cons_succ,jY,lV]
                  rfl
                 refine one_ (i:=6) (N:=some 82) #[true,true,true,true,true,true,true,false,false,false] rfl rfl (Qq Xu.out (by kernel_rfl)) (by decide) (fun K hK=>?_)
                 refine goes_ Tryz.func52 (by kernel_rfl) rfl #[.slice WY (lh gQ mF).length XY,.agg #[.string t156,.string t157]] (by rfl) rfl rfl (by(try simp only[List.map_toArray,List.map_cons,List.map_nil]);first|done|rfl|(simp only[List.length_drop,List.length_take];rfl)) ?_
                 with_reducible refine(aG.calls k4 _ _ (lh gQ mF) t156 t157 t164 _ ?gM ?gW A37.out).mono ?_
                 (case gM=>repeat(first|exact(by repeat(first|(with_reducible exact si.out)|(with_reducible refine Kd.dD ?_ _)|(with_reducible refine Kd.dB ?_ _)|(with_reducible refine Kd.fA ?_)|exact si.out))|(with_reducible refine Kd.dD ?_ _)|(with_reducible refine Kd.dB ?_ _)|(with_reducible refine Kd.fA ?_)))
                 (case gW=>exact HC163_0.out)
                 rintro e w40 ⟨v165,rfl,ho0,hb⟩
                 have HS2_:=(hb.cell (World.block_lt_of_cell? _ _ (hHeld.2.2))).trans (hHeld.2.2)
                 refine⟨_,rfl,?_⟩
                 have bN:=ai.mk (Kd.ja (by(with_reducible repeat(first|apply Kd.aM|apply Kd.aK|apply Kd.aV));exact gK.out) hb)
                 have bP:=ai.mk (Kd.mP (by(with_reducible repeat(first|apply Kd.fO|apply Kd.fP|apply Kd.gD));exact fe.out) (Kd.oC ho0) hb)
                 have cz:=ai.mk (Kd.ja (by(with_reducible repeat(first|apply Kd.aM|apply Kd.aK|apply Kd.aV));exact gT.out) hb)
                 have fC:=ai.mk (Kd.mP (by(with_reducible repeat(first|apply Kd.fO|apply Kd.fP|apply Kd.gD));exact pI.out) (Kd.oC ho0) hb)
                 have zG:=ai.mk (Kd.nW (by(with_reducible repeat(first|apply Kd.aM|apply Kd.aK|apply Kd.aV));exact qC.out) (Kd.oC ho0) hb)
                 have EB:=ai.mk (Kd.lF (Kd.Dw ho0 (Kd.AJ (by(with_reducible repeat(first|apply Kd.aM|apply Kd.aK|apply Kd.aV));exact qC.out))) (ay (by repeat(first|(with_reducible first|exact HB.out|apply ag|apply af|apply ah|refine az ?_ uE.out)|exact HB.out))))
                 have NA:=ai.mk (fQ (g:=jl) (o:= .cells #[.string t156,.string t157] 47 (0,0)) (by(with_reducible repeat(first|refine aW ?_ _|refine bC ?_|refine bf ?_ _));exact jC.out) hb)
                 have n7_:=ai.mk (Kd.bY (by repeat(first|(with_reducible exact si.out)|(with_reducible refine Kd.dD ?_ _)|(with_reducible refine Kd.dB ?_ _)|(with_reducible refine Kd.fA ?_)|exact si.out)) hb)
                 have n8_:=ai.mk (bn (by repeat(first|(with_reducible first|exact HB.out|apply ag|apply af|apply ah|refine az ?_ uE.out)|exact HB.out)) hb)
                 clear gK
                 clear fe
                 clear gT
                 clear pI
                 clear qC
                 clear jC
                 clear si
                 clear HB
                 have gK:=bN
                 have fe:=bP
                 have gT:=cz
                 have pI:=fC
                 have qC:=zG
                 have Sd:=EB
                 have jC:=NA
                 have si:=n7_
                 have HB:=n8_
                 clear bN bP cz fC zG EB NA n7_ n8_
                 (try clear hb)
                 (try clear hb2)
                 (try clear hk)
                 (try clear hi)
                 (try clear ho0)
                 obtain⟨Ao42,co42,eo42⟩:=Kd.gL Sd.out
                 (first|subst eo42|(injection eo42 with f1_ f2_ f3_;have f4_:=f1_.symm;have f5_:=f3_.symm;clear f1_ f2_ f3_;subst f4_;subst f5_))
                 refine hK.out _ _ ⟨(ax jC.out 0).trans rfl,(ax jC.out 1).trans rfl,HS2_⟩ (fun hHeld=>?_)
                 clear hK K
                 refine ZI (a':=?_) ?_ ?_
                 rotate_left
                 ·show Act.put _ (some 82) _=_
                  simp only[Act.put,List.setIfInBounds_toArray,List.set_cons_zero,List.set_cons_succ,jY,lV]
                  rfl
                 refine last_ (i:=7) (N:=some 83) #[true,true,true,true,true,true,true,true,false,false] rfl rfl (Qq Xu.out (by kernel_rfl)) (by decide) (fun K hK=>?_)
                 refine value_ (w1:=?_) (v:=?_) (by rfl) rfl ?_ ?_
                 rotate_left 2
                 ·go_simp
                  constructor
                  ·rfl
                  ·rfl
                 refine hK.out _ _ ?_
                 clear hK K
                 refine ZI (a':=?_) ?_ ?_
                 rotate_left
                 ·show Act.put _ (some 83) _=_
                  simp only[Act.put,List.setIfInBounds_toArray,List.set_cons_zero,List.set_cons_succ,jY,lV]
                  rfl
                 refine last_ (i:=8) (N:=some 84) #[true,true,true,true,true,true,true,true,true,false] rfl rfl (Qq Xu.out (by kernel_rfl)) (by decide) (fun K hK=>?_)
                 refine Kd.Gi (Kd.slice 9 Kd.string) (w0:=w) w.heap.size (by rfl) (.tmp 76) (.tmp 83) 50 54 (.slice none 0 0) 24 rfl Tryz.underlying50 Bd rfl (by decide) (by omega) u15 Ai t164 [.slice Ao42 t164.length co42] (fun k_=>some k_≠(.slice (some LX) gQ.length PE:Value).ownBlock) (fun k_=>some k_=(.slice Ao42 t164.length co42:Value).ownBlock) rfl rfl ?aP (fun k_ hk_=>((Kd.dU (ok':=fun k_=>((fun k_=>some k_≠(.slice (some LX) gQ.length PE:Value).ownBlock)) k_/\some k_≠(u15:Value).ownBlock) (Kd.kG (Kd.kG (Sd.out) (Kd.jZ fe.out) (by decide)) (Kd.jZ pI.out) (by decide)) (fun k_ hk=>⟨hk.1.2,hk.2⟩))).1 k_ hk_.symm) ?aF ?aO ?aB ?aS ?aL ?_
                 (case aP=>exact Kd.GH (Kd.dU (Kd.yL rfl (Kd.dU (ok':=fun k_=>((fun k_=>some k_≠(.slice (some LX) gQ.length PE:Value).ownBlock)) k_/\some k_≠(u15:Value).ownBlock) (Kd.kG (Kd.kG (Sd.out) (Kd.jZ fe.out) (by decide)) (Kd.jZ pI.out) (by decide)) (fun k_ hk=>⟨hk.1.2,hk.2⟩))) (fun _ h_=>h_)))
                 (case aB=>exact(by repeat(first|(with_reducible first|exact HB.out|apply ag|apply af|apply ah|refine az ?_ uE.out)|exact HB.out)))
                 (case aF=>exact(fun k_ hk=>Kd.fresh' (Kd.S_lt (by(with_reducible repeat(first|apply Kd.fO|apply Kd.fP|apply Kd.gD));exact fe.out)) k_ hk))
                 (case aO=>exact(by(with_reducible repeat(first|apply Kd.fO|apply Kd.fP|apply Kd.gD));exact Kd.lM pI.out (fun k_ hk=>⟨hk.1,fun e_=>hk.2 e_⟩)))
                 (case aS=>exact(ay (by repeat(first|(with_reducible first|exact HB.out|apply ag|apply af|apply ah|refine az ?_ uE.out)|exact HB.out))))
                 (case aL=>have:=LMc38.out;omega)
                 intro v168 w41 ho hb hg hat
                 rw[<-Ny167.out] at ho
                 have bN:=ai.mk (Kd.sj (by(with_reducible repeat(first|apply Kd.aM|apply Kd.aK|apply Kd.aV));exact gK.out) (Kd.jZ (by(with_reducible repeat(first|apply Kd.fO|apply Kd.fP|apply Kd.gD));exact pI.out)) (by decide) hg)
                 have bP:=ai.mk (Kd.S_after (ok:=(fun k_=>some k_≠(.slice Ao42 t164.length co42:Value).ownBlock)) (by(with_reducible repeat(first|apply Kd.fO|apply Kd.fP|apply Kd.gD));exact Kd.lM fe.out (fun _ hk=>⟨hk.2,hk.1⟩)) hg hat)
                 have cz:=ai.mk (Kd.sj (by(with_reducible repeat(first|apply Kd.aM|apply Kd.aK|apply Kd.aV));exact gT.out) (Kd.jZ (by(with_reducible repeat(first|apply Kd.fO|apply Kd.fP|apply Kd.gD));exact pI.out)) (by decide) hg)
                 have fC:=ai.mk (dF (g:=jl) (o:= .cells #[.string t156,.string t157] 47 (0,0)) (by(with_reducible repeat(first|refine aW ?_ _|refine bC ?_|refine bf ?_ _));exact jC.out) hg (Kd.S_ne pI.out jC.out (by decide)))
                 have zG:=ai.mk (Kd.oN (ok:=(fun k_=>some k_≠(.slice (some LX) gQ.length PE:Value).ownBlock/\some k_≠(.slice Ao42 t164.length co42:Value).ownBlock)) (by(with_reducible repeat(first|apply Kd.aM|apply Kd.aK|apply Kd.aV));exact Kd.dU qC.out (fun _ hk=>⟨⟨hk.1.2,hk.2⟩,hk.1.1⟩)) hg hat)
                 have EB:=ai.mk (hb)
                 have NA:=ai.mk (ho)
                 clear gK
                 clear fe
                 clear gT
                 clear jC
                 clear qC
                 clear HB
                 clear pI
                 clear Sd
                 have gK:=bN
                 have fe:=bP
                 have gT:=cz
                 have jC:=fC
                 have qC:=zG
                 have HB:=EB
                 have HO169:=NA
                 clear bN bP cz fC zG EB NA
                 clear ho hb hg hat
                 refine hK.out _ _ ?_
                 clear hK K
                 refine ZI (a':=?_) ?_ ?_
                 rotate_left
                 ·show Act.put _ (some 84) _=_
                  simp only[Act.put,List.setIfInBounds_toArray,List.set_cons_zero,List.set_cons_succ,jY,lV]
                  rfl
                 refine NM (i:=9) (N:=some 15) (v:=?_) (a':=?_) #[true,true,true,true,true,true,true,true,true,true] rfl rfl (DC Xu.out (by kernel_rfl)) (fun _ _ _ h=>h) (Or.inl ⟨by rfl,?_⟩) ?_ ?_
                 rotate_left
                 ·intro w'
                  go_simp
                  with_reducible rfl
                 rotate_left
                 ·simp only[Act.put,List.setIfInBounds_toArray,List.set_cons_zero,List.set_cons_succ,jY,lV]
                  rfl
                 refine done_ (done_of Xu.out (by kernel_rfl)) ?_
                 try go_wp2
                 go_roundg k4
                 case measure=>have:=HJ4.out;have:=qB.out;have:=HK3.out;have:=Xh.out;omega
                 case rel=>exact⟨(y167),(wrap64 (mF+1)),(by first|rfl|(simp;done)|(simp[*];done)),H',⟨by have:=HJ4.out;have:=qB.out;have:=HK3.out;have:=Xh.out;omega⟩,⟨by(with_reducible repeat(first|apply Kd.aM|apply Kd.aK|apply Kd.aV));exact gK.out⟩,⟨by(with_reducible repeat(first|apply Kd.fO|apply Kd.fP|apply Kd.gD));exact Kd.lM fe.out (fun _ hk=>hk.2)⟩,⟨by(with_reducible repeat(first|apply Kd.aM|apply Kd.aK|apply Kd.aV));exact gT.out⟩,⟨by(with_reducible repeat(first|apply Kd.fO|apply Kd.fP|apply Kd.gD));exact HO169.out⟩,⟨by(with_reducible repeat(first|refine aW ?_ _|refine bC ?_|refine bf ?_ _));exact jC.out⟩,⟨by repeat(first|(with_reducible first|exact HB.out|apply ag|apply af|apply ah|refine az ?_ uE.out)|exact HB.out)⟩⟩
                ·rw[if_neg c38] at H
                 exact absurd H (by simp)
               ·rw[if_neg c36] at H
                exact absurd H (by simp)
              ·rw[if_neg c35] at H
               have c35b0:decide (mF<(gQ.length:Int))=false:=decide_eq_false c35
               clear c35
               have H':=ai.mk H
               clear H
               go_wp2
               go_roundg k4
               case measure=>have:=HJ4.out;have:=qB.out;have:=HK3.out;have:=Xh.out;omega
               case rel=>exact⟨(y160),(Ai),H',⟨by have:=HJ4.out;have:=qB.out;have:=HK3.out;have:=Xh.out;omega⟩,⟨by(with_reducible repeat(first|apply Kd.aM|apply Kd.aK|apply Kd.aV));exact Kd.dU gK.out (fun _ hk=>trivial)⟩,⟨by(with_reducible repeat(first|apply Kd.fO|apply Kd.fP|apply Kd.gD));exact Kd.lM pI.out (fun _ hk=>trivial)⟩,⟨by(with_reducible repeat(first|apply Kd.aM|apply Kd.aK|apply Kd.aV));exact gT.out⟩,⟨by repeat(first|(with_reducible first|exact HB.out|apply ag|apply af|apply ah|refine az ?_ uE.out)|exact HB.out)⟩⟩
           ·rw[if_neg Vd] at H
            exact absurd H (by simp)
         ·rw[if_neg c18] at H
          have Ml:decide ((BB.length:Int)<a1)=false:=decide_eq_false c18
          clear c18
          obtain rfl:=Option.some.inj H
          obtain⟨Ao43,co43,eo43⟩:=Kd.gL gK.out
          subst eo43
          go_wp2
          go_ret
          exact⟨_,by first|rfl|(simp[aC,aD]<;>rfl)|(simp[*,aC,aD]<;>rfl),by(with_reducible repeat(first|apply Kd.aM|apply Kd.aK|apply Kd.aV));exact gK.out,by repeat(first|(with_reducible first|exact HB.out|apply ag|apply af|apply ah)|exact HB.out)⟩
end Go.Proofs.YtilpincgjlclpaaGreat.Pr
