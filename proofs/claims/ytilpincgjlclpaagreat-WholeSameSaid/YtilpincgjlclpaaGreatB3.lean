import Derived.Ground.SlmdProg
import Derived.Ground.SlsfProg
import Derived.Shelf.SlGeneric
import Derived.Shelf.SlMaps.DeleteFunc
import Derived.Shelf.SlSortCmp.NoneTotal
import Derived.Test.YtilpincgjlclpaaGreatProg
import Derived.Test.YtilpincgjlclpaaGreatB2
set_option linter.unusedVariables false
set_option linter.unusedSimpArgs false
section
namespace Go.Proofs
open Go.Shelf
def Tryz.Wm:Go.Shelf.Ren:=⟨fun|6=>158|15=>139|14=>186|28=>171|29=>172|20=>207|21=>208|22=>209|23=>210|24=>211|25=>212|26=>213|27=>214|46=>230|47=>189|48=>190|49=>231|50=>232|57=>237|n=>n,fun|22=>156|24=>160|25=>235|3=>3|39=>186|0=>0|53=>276|55=>189|4=>4|46=>270|45=>269|50=>37|5=>5|9=>9|66=>287|70=>291|76=>308|77=>139|n=>n,fun|n=>n⟩
theorem Tryz.sortP:Go.Proofs.SlLaysF0.n6 Tryz.prog Tryz.Wm:={
 mixed:=by kernel_rfl
 f6:=⟨Tryz.f158.name,by decide,Tryz.func158.trans (congrArg some (by kernel_rfl))⟩
 f14:=⟨Tryz.f186.name,by decide,Tryz.func186.trans (congrArg some (by kernel_rfl))⟩
 f15:=Tryz.func139.trans (congrArg some (by kernel_rfl))
 f20:=⟨Tryz.f207.name,by decide,Tryz.func207.trans (congrArg some (by kernel_rfl))⟩
 f21:=⟨Tryz.f208.name,by decide,Tryz.func208.trans (congrArg some (by kernel_rfl))⟩
 f22:=⟨Tryz.f209.name,by decide,Tryz.func209.trans (congrArg some (by kernel_rfl))⟩
 f23:=⟨Tryz.f210.name,by decide,Tryz.func210.trans (congrArg some (by kernel_rfl))⟩
 f24:=⟨Tryz.f211.name,by decide,Tryz.func211.trans (congrArg some (by kernel_rfl))⟩
 f25:=⟨Tryz.f212.name,by decide,Tryz.func212.trans (congrArg some (by kernel_rfl))⟩
 f26:=⟨Tryz.f213.name,by decide,Tryz.func213.trans (congrArg some (by kernel_rfl))⟩
 f27:=⟨Tryz.f214.name,by decide,Tryz.func214.trans (congrArg some (by kernel_rfl))⟩
 f28:=Tryz.func171.trans (congrArg some (by kernel_rfl))
 f29:=Tryz.func172.trans (congrArg some (by kernel_rfl))
 f46:=⟨Tryz.f230.name,by decide,Tryz.func230.trans (congrArg some (by kernel_rfl))⟩
 f47:=Tryz.func189.trans (congrArg some (by kernel_rfl))
 f48:=Tryz.func190.trans (congrArg some (by kernel_rfl))
 f49:=⟨Tryz.f231.name,by decide,Tryz.func231.trans (congrArg some (by kernel_rfl))⟩
 f50:=⟨Tryz.f232.name,by decide,Tryz.func232.trans (congrArg some (by kernel_rfl))⟩
 f57:=⟨Tryz.f237.name,by decide,Tryz.func237.trans (congrArg some (by kernel_rfl))⟩
 t0:=Tryz.underlying0
 a0:=Tryz.isAgg0
 z0:=Tryz.sizeOf0
 v0:=Tryz.zeroValue0
 t3:=Tryz.underlying3
 a3:=Tryz.isAgg3
 z3:=Tryz.sizeOf3
 v3:=Tryz.zeroValue3
 t4:=Tryz.underlying4
 a4:=Tryz.isAgg4
 z4:=Tryz.sizeOf4
 v4:=Tryz.zeroValue4
 t5:=Tryz.underlying5
 a5:=Tryz.isAgg5
 z5:=Tryz.sizeOf5
 v5:=Tryz.zeroValue5
 t9:=Tryz.underlying9
 a9:=Tryz.isAgg9
 z9:=Tryz.sizeOf9
 v9:=Tryz.zeroValue9
 t22:=Tryz.underlying156
 a22:=Tryz.isAgg156
 z22:=Tryz.sizeOf156
 v22:=Tryz.zeroValue156
 t25:=Tryz.underlying235
 a25:=Tryz.isAgg235
 z25:=Tryz.sizeOf235
 v25:=Tryz.zeroValue235
 t39:=Tryz.underlying186
 a39:=Tryz.isAgg186
 z39:=Tryz.sizeOf186
 v39:=Tryz.zeroValue186
 t45:=Tryz.underlying269
 a45:=Tryz.isAgg269
 z45:=Tryz.sizeOf269
 v45:=Tryz.zeroValue269
 t46:=Tryz.underlying270
 a46:=Tryz.isAgg270
 z46:=Tryz.sizeOf270
 v46:=Tryz.zeroValue270
 t50:=Tryz.underlying37
 a50:=Tryz.isAgg37
 z50:=Tryz.sizeOf37
 v50:=Tryz.zeroValue37
 t53:=Tryz.underlying276
 a53:=Tryz.isAgg276
 z53:=Tryz.sizeOf276
 v53:=Tryz.zeroValue276
 t55:=Tryz.underlying189
 a55:=Tryz.isAgg189
 z55:=Tryz.sizeOf189
 v55:=Tryz.zeroValue189
 t66:=Tryz.underlying287
 a66:=Tryz.isAgg287
 z66:=Tryz.sizeOf287
 v66:=Tryz.zeroValue287
 t70:=Tryz.underlying291
 a70:=Tryz.isAgg291
 z70:=Tryz.sizeOf291
 v70:=Tryz.zeroValue291
 t76:=Tryz.underlying308
 a76:=Tryz.isAgg308
 z76:=Tryz.sizeOf308
 v76:=Tryz.zeroValue308
 t77:=Tryz.underlying139
 a77:=Tryz.isAgg139
 z77:=Tryz.sizeOf139
 v77:=Tryz.zeroValue139}
def Tryz.Wj:Go.Shelf.Ren:=⟨fun|6=>176|15=>139|14=>195|28=>171|29=>172|20=>217|21=>218|22=>219|23=>220|24=>221|25=>222|26=>223|27=>224|46=>233|47=>189|48=>190|49=>234|50=>235|57=>238|n=>n,fun|22=>202|24=>226|25=>280|3=>3|39=>186|0=>0|53=>276|55=>189|4=>4|46=>270|45=>269|50=>37|5=>5|9=>9|66=>287|70=>291|76=>308|77=>139|n=>n,fun|n=>n⟩
theorem Tryz.sortC:Go.Proofs.SlLaysF0.n6 Tryz.prog Tryz.Wj:={
 mixed:=by kernel_rfl
 f6:=⟨Tryz.f176.name,by decide,Tryz.func176.trans (congrArg some (by kernel_rfl))⟩
 f14:=⟨Tryz.f195.name,by decide,Tryz.func195.trans (congrArg some (by kernel_rfl))⟩
 f15:=Tryz.func139.trans (congrArg some (by kernel_rfl))
 f20:=⟨Tryz.f217.name,by decide,Tryz.func217.trans (congrArg some (by kernel_rfl))⟩
 f21:=⟨Tryz.f218.name,by decide,Tryz.func218.trans (congrArg some (by kernel_rfl))⟩
 f22:=⟨Tryz.f219.name,by decide,Tryz.func219.trans (congrArg some (by kernel_rfl))⟩
 f23:=⟨Tryz.f220.name,by decide,Tryz.func220.trans (congrArg some (by kernel_rfl))⟩
 f24:=⟨Tryz.f221.name,by decide,Tryz.func221.trans (congrArg some (by kernel_rfl))⟩
 f25:=⟨Tryz.f222.name,by decide,Tryz.func222.trans (congrArg some (by kernel_rfl))⟩
 f26:=⟨Tryz.f223.name,by decide,Tryz.func223.trans (congrArg some (by kernel_rfl))⟩
 f27:=⟨Tryz.f224.name,by decide,Tryz.func224.trans (congrArg some (by kernel_rfl))⟩
 f28:=Tryz.func171.trans (congrArg some (by kernel_rfl))
 f29:=Tryz.func172.trans (congrArg some (by kernel_rfl))
 f46:=⟨Tryz.f233.name,by decide,Tryz.func233.trans (congrArg some (by kernel_rfl))⟩
 f47:=Tryz.func189.trans (congrArg some (by kernel_rfl))
 f48:=Tryz.func190.trans (congrArg some (by kernel_rfl))
 f49:=⟨Tryz.f234.name,by decide,Tryz.func234.trans (congrArg some (by kernel_rfl))⟩
 f50:=⟨Tryz.f235.name,by decide,Tryz.func235.trans (congrArg some (by kernel_rfl))⟩
 f57:=⟨Tryz.f238.name,by decide,Tryz.func238.trans (congrArg some (by kernel_rfl))⟩
 t0:=Tryz.underlying0
 a0:=Tryz.isAgg0
 z0:=Tryz.sizeOf0
 v0:=Tryz.zeroValue0
 t3:=Tryz.underlying3
 a3:=Tryz.isAgg3
 z3:=Tryz.sizeOf3
 v3:=Tryz.zeroValue3
 t4:=Tryz.underlying4
 a4:=Tryz.isAgg4
 z4:=Tryz.sizeOf4
 v4:=Tryz.zeroValue4
 t5:=Tryz.underlying5
 a5:=Tryz.isAgg5
 z5:=Tryz.sizeOf5
 v5:=Tryz.zeroValue5
 t9:=Tryz.underlying9
 a9:=Tryz.isAgg9
 z9:=Tryz.sizeOf9
 v9:=Tryz.zeroValue9
 t22:=Tryz.underlying202
 a22:=Tryz.isAgg202
 z22:=Tryz.sizeOf202
 v22:=Tryz.zeroValue202
 t25:=Tryz.underlying280
 a25:=Tryz.isAgg280
 z25:=Tryz.sizeOf280
 v25:=Tryz.zeroValue280
 t39:=Tryz.underlying186
 a39:=Tryz.isAgg186
 z39:=Tryz.sizeOf186
 v39:=Tryz.zeroValue186
 t45:=Tryz.underlying269
 a45:=Tryz.isAgg269
 z45:=Tryz.sizeOf269
 v45:=Tryz.zeroValue269
 t46:=Tryz.underlying270
 a46:=Tryz.isAgg270
 z46:=Tryz.sizeOf270
 v46:=Tryz.zeroValue270
 t50:=Tryz.underlying37
 a50:=Tryz.isAgg37
 z50:=Tryz.sizeOf37
 v50:=Tryz.zeroValue37
 t53:=Tryz.underlying276
 a53:=Tryz.isAgg276
 z53:=Tryz.sizeOf276
 v53:=Tryz.zeroValue276
 t55:=Tryz.underlying189
 a55:=Tryz.isAgg189
 z55:=Tryz.sizeOf189
 v55:=Tryz.zeroValue189
 t66:=Tryz.underlying287
 a66:=Tryz.isAgg287
 z66:=Tryz.sizeOf287
 v66:=Tryz.zeroValue287
 t70:=Tryz.underlying291
 a70:=Tryz.isAgg291
 z70:=Tryz.sizeOf291
 v70:=Tryz.zeroValue291
 t76:=Tryz.underlying308
 a76:=Tryz.isAgg308
 z76:=Tryz.sizeOf308
 v76:=Tryz.zeroValue308
 t77:=Tryz.underlying139
 a77:=Tryz.isAgg139
 z77:=Tryz.sizeOf139
 v77:=Tryz.zeroValue139}
end Go.Proofs
end
section
namespace Go.Proofs.YtilpincgjlclpaaGreat.Pr
open Go.RowKit Go.Proofs.ae.au Go.Proofs.ae.aZ Go.Proofs.ae.bE
attribute [local go_sem] bQ min2_int cB min_two max_three min_three max_four min_four
def iD.l0:Nat->Int->List Int->Int->Int->Option (Int)
 |0,_,_,_,_=>none
 |k+1,x3,x6,x7,x8=>if x8<x7 then(if 0<=x8 then(if x8<(x6.length:Int) then(if(rd x6 x8)=x3 then(iD.l0 k x3 x6 x7 (wrap64 (x8+1))) else(some (rd x6 x8))) else(none)) else(none)) else(some x3)
def iD.f (k:Nat) (l0:List Int):Option (Int):=iD.l0 k 0 l0 (l0.length:Int) 0
set_option maxHeartbeats 8000000 in
set_option maxRecDepth 100000 in
theorem iD.calls (k:Nat) (A0:Option Addr) (c0:Nat) (l0:List Int) (r:Int) (w:World) (hr0:Kd.C (Kd.int .i64) w A0 l0.length l0) (hc0:l0.length<=c0) (h:iD.f k l0=some r):
  Calls Tryz.prog 131 #[.slice A0 l0.length c0] w fun e w'=>e= .returned (.int .i64 r)/\aJ w w':=by
 have gq:=ai.mk hr0
 have lC:=ai.mk hc0
 clear hr0 hc0
 have H:(iD.l0 k 0 l0 (l0.length:Int) 0)=some r:=h
 clear h
 have H':=ai.mk H
 clear H
 go_enter Tryz.func131,Tryz.ntmps131
 go_wp2
 go_loopg [8] k (fun kq v8 w'=>∃(kI:Int),v8= .int .i64 kI/\ai (iD.l0 kq 0 l0 (l0.length:Int) kI=some r)/\ai (kq<=k)/\aJ w w')
 case atStart=>exact⟨(0),(by first|rfl|(simp;done)|(simp[*];done)),H',⟨Nat.le_refl _⟩,by repeat(first|exact aJ.refl _|apply aJ.step)⟩
 case round=>
  clear H'
  try clear c1
  obtain⟨kI,rfl,HA,gH,⟨m1,rfl⟩⟩:=hrel
  cases gk with
  |zero=>exact absurd HA.out (by simp[iD.l0])
  |succ k1=>
   have H:=HA.out
   clear HA
   simp only[iD.l0] at H
   by_cases c2:kI<(l0.length:Int)
   ·rw[if_pos c2] at H
    have jV:decide (kI<(l0.length:Int))=true:=decide_eq_true c2
    clear c2
    by_cases c3:0<=kI
    ·rw[if_pos c3] at H
     have iY:decide (0<=kI)=true:=decide_eq_true c3
     clear c3
     by_cases c4:kI<(l0.length:Int)
     ·rw[if_pos c4] at H
      have iw:decide (kI<(l0.length:Int))=true:=decide_eq_true c4
      clear c4
      by_cases c5:(rd l0 kI)=0
      ·rw[if_pos c5] at H
       have iC:((rd l0 kI)==0)=true:=beq_iff_eq.mpr c5
       have oD:((rd l0 kI) != 0)=false:=bne_eq_false_iff_eq.mpr c5
       clear c5
       have H':=ai.mk H
       clear H
       have QJ:0<=(kI:Int):=of_decide_eq_true (by first|(with_reducible assumption)|assumption)
       have Rk:kI<(l0.length:Int):=of_decide_eq_true (by first|(with_reducible assumption)|assumption)
       obtain⟨ad256,e256,hx256_0⟩:=Kd.kW gq.out kI QJ Rk
       cases e256
       replace QJ:=eq_true QJ
       replace Rk:=eq_true Rk
       go_wp2
       go_roundg k1
       case measure=>have:=gH.out;omega
       case rel=>exact⟨(wrap64 (kI+1)),(by first|rfl|(simp;done)|(simp[*];done)),H',⟨by have:=gH.out;omega⟩,by repeat(first|exact aJ.refl _|apply aJ.step)⟩
      ·rw[if_neg c5] at H
       have iC:((rd l0 kI)==0)=false:=beq_eq_false_iff_ne.mpr c5
       have oD:((rd l0 kI) != 0)=true:=bne_iff_ne.mpr c5
       obtain rfl:=Option.some.inj H
       have QJ:0<=(kI:Int):=of_decide_eq_true (by first|(with_reducible assumption)|assumption)
       have Rk:kI<(l0.length:Int):=of_decide_eq_true (by first|(with_reducible assumption)|assumption)
       obtain⟨ad256,e256,hx256_0⟩:=Kd.kW gq.out kI QJ Rk
       cases e256
       replace QJ:=eq_true QJ
       replace Rk:=eq_true Rk
       go_wp2
       go_ret
       exact⟨by first|rfl|(simp;done)|(simp[*];done),by repeat(first|exact aJ.refl _|apply aJ.step)⟩
     ·rw[if_neg c4] at H
      exact absurd H (by simp)
    ·rw[if_neg c3] at H
     exact absurd H (by simp)
   ·rw[if_neg c2] at H
    have jV:decide (kI<(l0.length:Int))=false:=decide_eq_false c2
    clear c2
    obtain rfl:=Option.some.inj H
    go_wp2
    go_ret
    exact⟨by first|rfl|(simp;done)|(simp[*];done),by repeat(first|exact aJ.refl _|apply aJ.step)⟩
end Go.Proofs.YtilpincgjlclpaaGreat.Pr
end
section
namespace Go.Proofs.YtilpincgjlclpaaGreat.Pr
open Go.RowKit Go.Proofs.ae.au Go.Proofs.ae.aZ Go.Proofs.ae.bE
attribute [local go_sem] bQ min2_int cB min_two max_three min_three max_four min_four
def cmp_isNaN_int.f (a0:Int):Option (Bool):=some (a0 != a0)
set_option maxHeartbeats 8000000 in
set_option maxRecDepth 100000 in
theorem cmp_isNaN_int.calls (a0:Int) (r:Bool) (w:World) (h:cmp_isNaN_int.f a0=some r):
  Calls Tryz.prog 160 #[.int .i64 a0] w fun e w'=>e= .returned (.bool r)/\aJ w w':=by
 have H:(some (a0 != a0))=some r:=h
 clear h
 obtain rfl:=Option.some.inj H
 go_enter Tryz.func160,Tryz.ntmps160
 go_wp2
 go_ret
 exact⟨by first|rfl|(simp;done)|(simp[*];done),by repeat(first|exact aJ.refl _|apply aJ.step)⟩
end Go.Proofs.YtilpincgjlclpaaGreat.Pr
end
