import Derived.ChangeShapes
import Derived.KernelRfl
import Derived.Lib.SmallJoins
import Derived.Test.YtilpincgjlclpaaGreatProg
import Derived.WideShapes
import Derived.Test.YtilpincgjlclpaaGreatT5
set_option linter.unusedVariables false
set_option linter.unusedSimpArgs false
section
namespace Go.Proofs.YtilpincgjlclpaaGreat.Pr
open Go.RowKit Go.Proofs.ae.au Go.Proofs.ae.aZ Go.Proofs.ae.bE
attribute [local go_sem] bQ min2_int cB min_two max_three min_three max_four min_four
def dK.l0:Nat->ByteArray->List (eu)->Int->Option (Bool)
 |0,_,_,_=>none
 |k+1,x0,x1,x5=>if x5<(x1.length:Int) then(if 0<=x5 then(if((bM x1 x5).f0).size+((bM x1 x5).f1).size<=9223372036854775807 then(if(((bM x1 x5).f0)++((bM x1 x5).f1)).toList=x0.toList then(some true) else(dK.l0 k x0 x1 (wrap64 (x5+1)))) else(none)) else(none)) else(some false)
def dK.f (k:Nat) (a0:ByteArray) (l1:List (eu)):Option (Bool):=if(a0.size:Int)=1 then(some true) else(dK.l0 k a0 l1 0)
set_option maxHeartbeats 8000000 in
set_option maxRecDepth 100000 in
theorem dK.calls (k:Nat) (a0:ByteArray) (A1:Option Addr) (c1:Nat) (l1:List (eu)) (r:Bool) (w:World) (hr1:Kd.C qj w A1 l1.length l1) (hc1:l1.length<=c1) (h:dK.f k a0 l1=some r):
  Calls Tryz.prog 108 #[.string a0,.slice A1 l1.length c1] w fun e w'=>e= .returned (.bool r)/\aJ w w':=by
 have HR1:=ai.mk hr1
 have Ch:=ai.mk hc1
 clear hr1 hc1
 have H:(if(a0.size:Int)=1 then(some true) else(dK.l0 k a0 l1 0))=some r:=h
 clear h
 by_cases c3:(a0.size:Int)=1
 ·rw[if_pos c3] at H
  have iY:((a0.size:Int)==1)=true:=beq_iff_eq.mpr c3
  have qp:((a0.size:Int) != 1)=false:=bne_eq_false_iff_eq.mpr c3
  clear c3
  obtain rfl:=Option.some.inj H
  go_enter Tryz.func108,Tryz.ntmps108
  go_wp2
  repeat(go_quiet (fail);try go_wp2)
  go_ret
  exact⟨by first|rfl|(simp;done)|(simp[*];done),by repeat(first|exact aJ.refl _|apply aJ.step)⟩
 ·rw[if_neg c3] at H
  have iY:((a0.size:Int)==1)=false:=beq_eq_false_iff_ne.mpr c3
  have qp:((a0.size:Int) != 1)=true:=bne_iff_ne.mpr c3
  have H':=ai.mk H
  clear H
  go_enter Tryz.func108,Tryz.ntmps108
  go_wp2
  repeat(go_quiet (fail);try go_wp2)
  go_loopg [5] k (fun kq v5 w'=>∃(aT:Int),v5= .int .i64 aT/\ai (dK.l0 kq a0 l1 aT=some r)/\ai (kq<=k)/\aJ w w')
  case atStart=>exact⟨(0),(by first|rfl|(simp;done)|(simp[*];done)),H',⟨Nat.le_refl _⟩,by repeat(first|exact aJ.refl _|apply aJ.step)⟩
  case round=>
   clear H'
   try clear c1
   try clear p2
   try clear c3
   try clear iY
   try clear qp
   obtain⟨aT,rfl,HA,gH,⟨m1,rfl⟩⟩:=hrel
   cases gk with
   |zero=>exact absurd HA.out (by simp[dK.l0])
   |succ k1=>
    have H:=HA.out
    clear HA
    simp only[dK.l0] at H
    by_cases c4:aT<(l1.length:Int)
    ·rw[if_pos c4] at H
     have iw:decide (aT<(l1.length:Int))=true:=decide_eq_true c4
     clear c4
     by_cases c5:0<=aT
     ·rw[if_pos c5] at H
      have iC:decide (0<=aT)=true:=decide_eq_true c5
      clear c5
      by_cases c6:((bM l1 aT).f0).size+((bM l1 aT).f1).size<=9223372036854775807
      ·rw[if_pos c6] at H
       have yR:=eq_true c6
       have c6b1:decide (((bM l1 aT).f0).size+((bM l1 aT).f1).size<=9223372036854775807)=true:=decide_eq_true c6
       try have c6b2:(9223372036854775807<((bM l1 aT).f0).size+((bM l1 aT).f1).size)=False:=eq_false (Nat.not_lt.2 c6)
       by_cases c7:(((bM l1 aT).f0)++((bM l1 aT).f1)).toList=a0.toList
       ·rw[if_pos c7] at H
        have jU:((((bM l1 aT).f0)++((bM l1 aT).f1)).toList==a0.toList)=true:=beq_iff_eq.mpr c7
        have qw:((((bM l1 aT).f0)++((bM l1 aT).f1)).toList != a0.toList)=false:=bne_eq_false_iff_eq.mpr c7
        clear c7
        obtain rfl:=Option.some.inj H
        have QA:0<=(aT:Int):=of_decide_eq_true (by first|(with_reducible assumption)|assumption)
        have QZ:aT<(l1.length:Int):=of_decide_eq_true (by first|(with_reducible assumption)|assumption)
        obtain⟨XH,e178,hx178_0,hx178_1⟩:=jm HR1.out aT QA QZ
        cases e178
        replace QA:=eq_true QA
        replace QZ:=eq_true QZ
        have QB:0<=(aT:Int):=of_decide_eq_true (by first|(with_reducible assumption)|assumption)
        have Ra:aT<(l1.length:Int):=of_decide_eq_true (by first|(with_reducible assumption)|assumption)
        obtain⟨XI,e179,hx179_0,hx179_1⟩:=jm HR1.out aT QB Ra
        obtain rfl:XH=XI:=(by injection e179)
        replace QB:=eq_true QB
        replace Ra:=eq_true Ra
        go_wp2
        repeat(go_quiet (fail);try go_wp2)
        go_ret
        exact⟨by first|rfl|(simp;done)|(simp[*];done),by repeat(first|exact aJ.refl _|apply aJ.step)⟩
       ·rw[if_neg c7] at H
        have jU:((((bM l1 aT).f0)++((bM l1 aT).f1)).toList==a0.toList)=false:=beq_eq_false_iff_ne.mpr c7
        have qw:((((bM l1 aT).f0)++((bM l1 aT).f1)).toList != a0.toList)=true:=bne_iff_ne.mpr c7
        have H':=ai.mk H
        clear H
        have QA:0<=(aT:Int):=of_decide_eq_true (by first|(with_reducible assumption)|assumption)
        have QZ:aT<(l1.length:Int):=of_decide_eq_true (by first|(with_reducible assumption)|assumption)
        obtain⟨XH,e178,hx178_0,hx178_1⟩:=jm HR1.out aT QA QZ
        cases e178
        replace QA:=eq_true QA
        replace QZ:=eq_true QZ
        have QB:0<=(aT:Int):=of_decide_eq_true (by first|(with_reducible assumption)|assumption)
        have Ra:aT<(l1.length:Int):=of_decide_eq_true (by first|(with_reducible assumption)|assumption)
        obtain⟨XI,e179,hx179_0,hx179_1⟩:=jm HR1.out aT QB Ra
        obtain rfl:XH=XI:=(by injection e179)
        replace QB:=eq_true QB
        replace Ra:=eq_true Ra
        go_wp2
        repeat(go_quiet (fail);try go_wp2)
        go_roundg k1
        case measure=>have:=gH.out;omega
        case rel=>exact⟨(wrap64 (aT+1)),(by first|rfl|(simp;done)|(simp[*];done)),H',⟨by have:=gH.out;omega⟩,by repeat(first|exact aJ.refl _|apply aJ.step)⟩
      ·rw[if_neg c6] at H
       exact absurd H (by simp)
     ·rw[if_neg c5] at H
      exact absurd H (by simp)
    ·rw[if_neg c4] at H
     have iw:decide (aT<(l1.length:Int))=false:=decide_eq_false c4
     clear c4
     obtain rfl:=Option.some.inj H
     go_wp2
     repeat(go_quiet (fail);try go_wp2)
     go_ret
     exact⟨by first|rfl|(simp;done)|(simp[*];done),by repeat(first|exact aJ.refl _|apply aJ.step)⟩
end Go.Proofs.YtilpincgjlclpaaGreat.Pr
end
section
namespace Go.Proofs.YtilpincgjlclpaaGreat.Pr
open Go.RowKit Go.Proofs.ae.au Go.Proofs.ae.aZ Go.Proofs.ae.bE
attribute [local go_sem] bQ min2_int cB min_two max_three min_three max_four min_four
def dR.f (k:Nat) (l0:List (dN)):Option (Bool):=(aQ.f k l0 60).bind fun t105=>(if t105=true then(some true) else((aA.f k l0).bind fun t106=>(some (decide (t106>300)))))
set_option maxHeartbeats 8000000 in
set_option maxRecDepth 100000 in
theorem dR.calls (k:Nat) (A0:Option Addr) (c0:Nat) (l0:List (dN)) (r:Bool) (w:World) (hr0:Kd.C lQ w A0 l0.length l0) (hc0:l0.length<=c0) (h:dR.f k l0=some r):
  Calls Tryz.prog 9 #[.slice A0 l0.length c0] w fun e w'=>e= .returned (.bool r)/\aJ w w':=by
 have gq:=ai.mk hr0
 have lC:=ai.mk hc0
 clear hr0 hc0
 have H:((aQ.f k l0 60).bind fun t105=>(if t105=true then(some true) else((aA.f k l0).bind fun t106=>(some (decide (t106>300))))))=some r:=h
 clear h
 replace H:=Option.bind_eq_some_iff.mp H
 obtain⟨t105,WZ,H⟩:=H
 replace H:(if t105=true then(some true) else((aA.f k l0).bind fun t106=>(some (decide (t106>300)))))=some r:=H
 have A2:=ai.mk WZ
 clear WZ
 by_cases c3:t105=true
 ·subst c3
  have H1:(some true)=some r:=by rw[if_pos rfl] at H;exact H
  clear H
  have H:=H1
  clear H1
  obtain rfl:=Option.some.inj H
  go_enter Tryz.func9,Tryz.ntmps9
  go_wp2_with (first|((with_reducible refine bL (f:=36) rfl ?_);refine eQ (some 4) rfl rfl Tryz.func36 (by kernel_rfl) rfl #[.slice A0 l0.length c0,.int .i64 60] rfl (by(try simp only[List.map_toArray,List.map_cons,List.map_nil]);first|done|rfl|(simp only[List.length_drop,List.length_take];rfl)) ?_;(with_reducible refine(aQ.calls k _ _ l0 60 true _ ?gM ?gW A2.out).mono ?_);(case gM=>repeat(first|exact gq.out|(with_reducible refine Kd.dD ?_ _)|(with_reducible refine Kd.dB ?_ _)|(with_reducible refine Kd.fA ?_)));(case gW=>exact lC.out);rintro e w' ⟨rfl,⟨nd,rfl⟩⟩;refine⟨_,rfl,?_⟩))
  go_ret
  exact⟨by first|rfl|(simp;done)|(simp[*];done),by repeat(first|exact aJ.refl _|apply aJ.step)⟩
 ·replace c3:=Bool.eq_false_iff.mpr c3
  subst c3
  have H1:((aA.f k l0).bind fun t106=>(some (decide (t106>300))))=some r:=by rw[if_neg (show¬(false=true) by decide)] at H;exact H
  clear H
  have H:=H1
  clear H1
  replace H:=Option.bind_eq_some_iff.mp H
  obtain⟨t106,GA,H⟩:=H
  replace H:(some (decide (t106>300)))=some r:=H
  have A4:=ai.mk GA
  clear GA
  obtain rfl:=Option.some.inj H
  go_enter Tryz.func9,Tryz.ntmps9
  go_wp2_with (first|((with_reducible refine bL (f:=36) rfl ?_);refine eQ (some 4) rfl rfl Tryz.func36 (by kernel_rfl) rfl #[.slice A0 l0.length c0,.int .i64 60] rfl (by(try simp only[List.map_toArray,List.map_cons,List.map_nil]);first|done|rfl|(simp only[List.length_drop,List.length_take];rfl)) ?_;(with_reducible refine(aQ.calls k _ _ l0 60 false _ ?gM ?gW A2.out).mono ?_);(case gM=>repeat(first|exact gq.out|(with_reducible refine Kd.dD ?_ _)|(with_reducible refine Kd.dB ?_ _)|(with_reducible refine Kd.fA ?_)));(case gW=>exact lC.out);rintro e w' ⟨rfl,⟨nd,rfl⟩⟩;refine⟨_,rfl,?_⟩)|(go_at_call 27;(with_reducible refine(aA.calls k _ _ l0 t106 _ ?gM ?gW A4.out).mono ?_);(case gM=>repeat(first|exact gq.out|(with_reducible refine Kd.dD ?_ _)|(with_reducible refine Kd.dB ?_ _)|(with_reducible refine Kd.fA ?_)));(case gW=>exact lC.out);rintro e w' ⟨rfl,⟨nd,rfl⟩⟩))
  go_ret
  exact⟨by first|rfl|(simp;done)|(simp[*];done),by repeat(first|exact aJ.refl _|apply aJ.step)⟩
end Go.Proofs.YtilpincgjlclpaaGreat.Pr
end
section
namespace Go.Proofs.YtilpincgjlclpaaGreat.Pr
open Go.Joins Go.ChangeShapes Go.WideShapes
set_option maxRecDepth 100000 in
theorem rJ {H:Type} {enc:TypeId×Value->H} {w:World}:Go.Proofs.YtilpincgjlclpaaGreat.Open.BG enc Tryz.prog w 45 lQ (fun x=>x.f0.size<=maxLen/\(Lit.int .i64 x.f1).wf=true):=
 ⟨fun _ cs _ h=>by
  have c0:Tryz.prog.cellsOf 9=1:=by kernel_rfl
  have c1:Tryz.prog.cellsOf 3=1:=by kernel_rfl
  have hlen:cs.length=2:=by
   obtain⟨_,_,_,_,hl,_⟩:=DataW.trod_struct Tryz.underlying45 h
   exact hl.trans (by kernel_rfl)
  obtain⟨a,b,rfl⟩:∃a b,cs=[a,b]:=by
   match cs,hlen with
   |[a,b],_=>exact⟨a,b,rfl⟩
  obtain⟨y0,y1,n,_,_,h0,h1⟩:=trod_struct2 Tryz.underlying45 h
  rw[c0] at h0
  rw[c1] at h1
  obtain⟨s,e0,_,w0⟩:=DataW.trod_string Tryz.underlying9 h0
  obtain⟨m,e1,_,w1⟩:=DataW.trod_int Tryz.underlying3 h1
  simp at e0 e1
  subst e0 e1
  exact⟨⟨s,m⟩,Eo w _,w0,w1⟩⟩
end Go.Proofs.YtilpincgjlclpaaGreat.Pr
end
section
namespace Go.Proofs.YtilpincgjlclpaaGreat.Pr
open Go.Joins Go.ChangeShapes Go.WideShapes
theorem array3 {α:Type} {cs:Array α} (h:cs.size=3):∃c0 c1 c2,cs=#[c0,c1,c2]:=by
 obtain⟨l⟩:=cs
 match l,h with
 |[c0,c1,c2],_=>exact⟨c0,c1,c2,rfl⟩
section
variable {H:Type} {enc:TypeId×Value->H} {P:Program} {w:World} {base:Nat} {spare:Nat->Bool} {held:Bool}
theorem trod_struct3' {t:TypeId} {f0 f1 f2:Field} {fuel:Nat} {cs:List Value} {x:DataW H×List MemPlace} (ht:P.underlying t=some (.struct #[f0,f1,f2])) (h:DataW.trod enc P w base spare held fuel t cs=some x):
  ∃y0 y1 y2 n,DataW.trod enc P w base spare held n f0.type ((cs.drop f0.offset).take (P.cellsOf f0.type))=some y0/\
   DataW.trod enc P w base spare held n f1.type ((cs.drop f1.offset).take (P.cellsOf f1.type))=some y1/\DataW.trod enc P w base spare held n f2.type ((cs.drop f2.offset).take (P.cellsOf f2.type))=some y2:=by
 obtain⟨xs,n,_,rfl,hl,hlen,hf⟩:=DataW.trod_struct ht h
 match xs,hlen with
 |[y0,y1,y2],_=>exact⟨y0,y1,y2,n,by simpa using hf 0 f0 rfl,by simpa using hf 1 f1 rfl,by simpa using hf 2 f2 rfl⟩
set_option maxRecDepth 100000 in
theorem tL {r:Reach} {b0:Nat} {v:Value} {d:DataW H} {p:List MemPlace} (hval:Value.okWide Tryz.prog w r b0 24 v) (h:DataW.Trod enc Tryz.prog w base spare held 24 v d p):
  ∃a0 a1 a2:Int,v= .agg #[.int .i64 a0,.int .i64 a1,.int .i64 a2]/\(Lit.int .i64 a0).wf=true/\(Lit.int .i64 a1).wf=true/\(Lit.int .i64 a2).wf=true:=by
 have c1:Tryz.prog.cellsOf 3=1:=by kernel_rfl
 obtain⟨cs,rfl,hsz⟩:=okWide_struct Tryz.underlying24 hval
 obtain⟨c0,c1',c2,rfl⟩:=array3 (hsz.trans (by kernel_rfl))
 obtain⟨fuel,hf⟩:=h
 obtain⟨y0,y1,y2,n,h0,h1,h2⟩:=trod_struct3' Tryz.underlying24 hf
 rw[c1] at h0
 obtain⟨a0,e0,_,w0⟩:=DataW.trod_int Tryz.underlying3 h0
 simp[Value.cells] at e0
 subst e0
 rw[c1] at h1
 obtain⟨a1,e1,_,w1⟩:=DataW.trod_int Tryz.underlying3 h1
 simp[Value.cells] at e1
 subst e1
 rw[c1] at h2
 obtain⟨a2,e2,_,w2⟩:=DataW.trod_int Tryz.underlying3 h2
 simp[Value.cells] at e2
 subst e2
 exact⟨a0,a1,a2,rfl,w0,w1,w2⟩
end
end Go.Proofs.YtilpincgjlclpaaGreat.Pr
end
