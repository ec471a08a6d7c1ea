import Derived.Ground.GgzProg
import Derived.Ground.SlgmProg
import Derived.Ground.SlgnProg
import Derived.Shelf.SlGeneric
import Derived.Shelf.SlIter.Nil
import Derived.Shelf.SlicesE.Clone
import Derived.Shelf.SlicesE.Compact
import Derived.Shelf.SortM.Plain
import Derived.Shelf.SortM.SortNone
import Derived.Test.YtilpincgjlclpaaGreatProg
import Derived.Test.YtilpincgjlclpaaGreatB5
set_option linter.unusedVariables false
set_option linter.unusedSimpArgs false
section
namespace Go.Proofs
open Go.Shelf
def Tryz.Py:Go.Shelf.Ren:=⟨fun|41=>197|n=>n,fun|22=>255|23=>162|4=>4|n=>n,fun|n=>n⟩
theorem Tryz.cloneI:Go.Proofs.SlLaysE0.n41 Tryz.prog Tryz.Py:={
 mixed:=by kernel_rfl
 f41:=⟨Tryz.f197.name,by decide,Tryz.func197.trans (congrArg some (by kernel_rfl))⟩
 t4:=Tryz.underlying4
 a4:=Tryz.isAgg4
 z4:=Tryz.sizeOf4
 v4:=Tryz.zeroValue4
 t22:=Tryz.underlying255
 a22:=Tryz.isAgg255
 z22:=Tryz.sizeOf255
 v22:=Tryz.zeroValue255}
def Tryz.Pz:Go.Shelf.Ren:=⟨fun|41=>152|n=>n,fun|22=>43|23=>3|4=>4|n=>n,fun|n=>n⟩
theorem Tryz.cloneN:Go.Proofs.SlLaysE0.n41 Tryz.prog Tryz.Pz:={
 mixed:=by kernel_rfl
 f41:=⟨Tryz.f152.name,by decide,Tryz.func152.trans (congrArg some (by kernel_rfl))⟩
 t4:=Tryz.underlying4
 a4:=Tryz.isAgg4
 z4:=Tryz.sizeOf4
 v4:=Tryz.zeroValue4
 t22:=Tryz.underlying43
 a22:=Tryz.isAgg43
 z22:=Tryz.sizeOf43
 v22:=Tryz.zeroValue43}
def Tryz.Wl:Go.Shelf.Ren:=⟨fun|5=>153|8=>139|7=>184|19=>171|20=>172|10=>198|11=>199|12=>200|13=>201|14=>202|15=>203|16=>204|17=>205|18=>206|30=>227|31=>189|32=>190|33=>228|34=>229|35=>160|40=>236|n=>n,fun|23=>43|25=>3|3=>3|32=>186|22=>43|0=>0|44=>276|46=>189|4=>4|36=>270|35=>269|41=>37|5=>5|9=>9|53=>287|57=>291|63=>308|64=>139|n=>n,fun|n=>n⟩
theorem Tryz.sortN:Go.Proofs.SlLaysM.n5 Tryz.prog Tryz.Wl:={
 mixed:=by kernel_rfl
 f5:=⟨Tryz.f153.name,by decide,Tryz.func153.trans (congrArg some (by kernel_rfl))⟩
 f7:=⟨Tryz.f184.name,by decide,Tryz.func184.trans (congrArg some (by kernel_rfl))⟩
 f8:=Tryz.func139.trans (congrArg some (by kernel_rfl))
 f10:=⟨Tryz.f198.name,by decide,Tryz.func198.trans (congrArg some (by kernel_rfl))⟩
 f11:=⟨Tryz.f199.name,by decide,Tryz.func199.trans (congrArg some (by kernel_rfl))⟩
 f12:=⟨Tryz.f200.name,by decide,Tryz.func200.trans (congrArg some (by kernel_rfl))⟩
 f13:=⟨Tryz.f201.name,by decide,Tryz.func201.trans (congrArg some (by kernel_rfl))⟩
 f14:=⟨Tryz.f202.name,by decide,Tryz.func202.trans (congrArg some (by kernel_rfl))⟩
 f15:=⟨Tryz.f203.name,by decide,Tryz.func203.trans (congrArg some (by kernel_rfl))⟩
 f16:=⟨Tryz.f204.name,by decide,Tryz.func204.trans (congrArg some (by kernel_rfl))⟩
 f17:=⟨Tryz.f205.name,by decide,Tryz.func205.trans (congrArg some (by kernel_rfl))⟩
 f18:=⟨Tryz.f206.name,by decide,Tryz.func206.trans (congrArg some (by kernel_rfl))⟩
 f19:=Tryz.func171.trans (congrArg some (by kernel_rfl))
 f20:=Tryz.func172.trans (congrArg some (by kernel_rfl))
 f30:=⟨Tryz.f227.name,by decide,Tryz.func227.trans (congrArg some (by kernel_rfl))⟩
 f31:=Tryz.func189.trans (congrArg some (by kernel_rfl))
 f32:=Tryz.func190.trans (congrArg some (by kernel_rfl))
 f33:=⟨Tryz.f228.name,by decide,Tryz.func228.trans (congrArg some (by kernel_rfl))⟩
 f34:=⟨Tryz.f229.name,by decide,Tryz.func229.trans (congrArg some (by kernel_rfl))⟩
 f35:=⟨Tryz.f160.name,by decide,Tryz.func160.trans (congrArg some (by kernel_rfl))⟩
 f40:=⟨Tryz.f236.name,by decide,Tryz.func236.trans (congrArg some (by kernel_rfl))⟩
 t0:=Tryz.underlying0
 a0:=Tryz.isAgg0
 z0:=Tryz.sizeOf0
 v0:=Tryz.zeroValue0
 t3:=Tryz.underlying3
 a3:=Tryz.isAgg3
 z3:=Tryz.sizeOf3
 v3:=Tryz.zeroValue3
 t4:=Tryz.underlying4
 a4:=Tryz.isAgg4
 z4:=Tryz.sizeOf4
 v4:=Tryz.zeroValue4
 t5:=Tryz.underlying5
 a5:=Tryz.isAgg5
 z5:=Tryz.sizeOf5
 v5:=Tryz.zeroValue5
 t9:=Tryz.underlying9
 a9:=Tryz.isAgg9
 z9:=Tryz.sizeOf9
 v9:=Tryz.zeroValue9
 t22:=Tryz.underlying43
 a22:=Tryz.isAgg43
 z22:=Tryz.sizeOf43
 v22:=Tryz.zeroValue43
 t23:=Tryz.underlying43
 a23:=Tryz.isAgg43
 z23:=Tryz.sizeOf43
 v23:=Tryz.zeroValue43
 t25:=Tryz.underlying3
 a25:=Tryz.isAgg3
 z25:=Tryz.sizeOf3
 v25:=Tryz.zeroValue3
 t32:=Tryz.underlying186
 a32:=Tryz.isAgg186
 z32:=Tryz.sizeOf186
 v32:=Tryz.zeroValue186
 t35:=Tryz.underlying269
 a35:=Tryz.isAgg269
 z35:=Tryz.sizeOf269
 v35:=Tryz.zeroValue269
 t36:=Tryz.underlying270
 a36:=Tryz.isAgg270
 z36:=Tryz.sizeOf270
 v36:=Tryz.zeroValue270
 t41:=Tryz.underlying37
 a41:=Tryz.isAgg37
 z41:=Tryz.sizeOf37
 v41:=Tryz.zeroValue37
 t44:=Tryz.underlying276
 a44:=Tryz.isAgg276
 z44:=Tryz.sizeOf276
 v44:=Tryz.zeroValue276
 t46:=Tryz.underlying189
 a46:=Tryz.isAgg189
 z46:=Tryz.sizeOf189
 v46:=Tryz.zeroValue189
 t53:=Tryz.underlying287
 a53:=Tryz.isAgg287
 z53:=Tryz.sizeOf287
 v53:=Tryz.zeroValue287
 t57:=Tryz.underlying291
 a57:=Tryz.isAgg291
 z57:=Tryz.sizeOf291
 v57:=Tryz.zeroValue291
 t63:=Tryz.underlying308
 a63:=Tryz.isAgg308
 z63:=Tryz.sizeOf308
 v63:=Tryz.zeroValue308
 t64:=Tryz.underlying139
 a64:=Tryz.isAgg139
 z64:=Tryz.sizeOf139
 v64:=Tryz.zeroValue139}
def Tryz.Jg:Go.Shelf.Ren:=⟨fun|43=>154|n=>n,fun|22=>43|23=>3|3=>3|4=>4|0=>0|n=>n,fun|n=>n⟩
theorem Tryz.Ye:Go.Proofs.SlLaysE.n43 Tryz.prog Tryz.Jg:={
 mixed:=by kernel_rfl
 f43:=⟨Tryz.f154.name,by decide,Tryz.func154.trans (congrArg some (by kernel_rfl))⟩
 t0:=Tryz.underlying0
 a0:=Tryz.isAgg0
 z0:=Tryz.sizeOf0
 v0:=Tryz.zeroValue0
 t3:=Tryz.underlying3
 a3:=Tryz.isAgg3
 z3:=Tryz.sizeOf3
 v3:=Tryz.zeroValue3
 t4:=Tryz.underlying4
 a4:=Tryz.isAgg4
 z4:=Tryz.sizeOf4
 v4:=Tryz.zeroValue4
 t22:=Tryz.underlying43
 a22:=Tryz.isAgg43
 z22:=Tryz.sizeOf43
 v22:=Tryz.zeroValue43
 a23:=Tryz.isAgg3
 z23:=Tryz.sizeOf3}
def Tryz.Hw:Go.Shelf.Ren:=⟨fun|7=>67|10=>103|n=>n,fun|23=>112|26=>9|3=>3|28=>124|0=>0|27=>123|33=>103|4=>4|n=>n,fun|n=>n⟩
theorem Tryz.keysS:Go.Proofs.SlLaysZ.n7 Tryz.prog Tryz.Hw:={
 mixed:=by kernel_rfl
 f7:=⟨Tryz.f67.name,by decide,Tryz.func67.trans (congrArg some (by kernel_rfl))⟩
 f10:=⟨Tryz.f103.name,by decide,Tryz.func103.trans (congrArg some (by kernel_rfl))⟩
 t0:=Tryz.underlying0
 a0:=Tryz.isAgg0
 z0:=Tryz.sizeOf0
 v0:=Tryz.zeroValue0
 t4:=Tryz.underlying4
 a4:=Tryz.isAgg4
 z4:=Tryz.sizeOf4
 v4:=Tryz.zeroValue4
 t23:=Tryz.underlying112
 a23:=Tryz.isAgg112
 z23:=Tryz.sizeOf112
 v23:=Tryz.zeroValue112
 t26:=Tryz.underlying9
 a26:=Tryz.isAgg9
 z26:=Tryz.sizeOf9
 v26:=Tryz.zeroValue9
 t27:=Tryz.underlying123
 a27:=Tryz.isAgg123
 z27:=Tryz.sizeOf123
 v27:=Tryz.zeroValue123
 t28:=Tryz.underlying124
 a28:=Tryz.isAgg124
 z28:=Tryz.sizeOf124
 v28:=Tryz.zeroValue124
 t33:=Tryz.underlying103
 a33:=Tryz.isAgg103
 z33:=Tryz.sizeOf103
 v33:=Tryz.zeroValue103}
def Tryz.BX:Go.Shelf.Ren:=⟨fun|6=>66|8=>101|9=>102|11=>137|13=>139|12=>138|23=>171|24=>172|14=>162|15=>163|16=>164|17=>165|18=>166|19=>167|20=>168|21=>169|22=>170|25=>188|26=>189|27=>190|28=>191|29=>192|30=>193|31=>216|n=>n,fun|26=>9|28=>124|24=>54|0=>0|3=>3|37=>186|48=>276|50=>189|4=>4|40=>270|39=>269|45=>37|5=>5|9=>9|51=>287|55=>291|57=>308|58=>139|33=>103|n=>n,fun|n=>n⟩
theorem Tryz.sortedS:Go.Proofs.SlLaysZ.n6 Tryz.prog Tryz.BX:={
 mixed:=by kernel_rfl
 f6:=⟨Tryz.f66.name,by decide,Tryz.func66.trans (congrArg some (by kernel_rfl))⟩
 f8:=⟨Tryz.f101.name,by decide,Tryz.func101.trans (congrArg some (by kernel_rfl))⟩
 f11:=⟨Tryz.f137.name,by decide,Tryz.func137.trans (congrArg some (by kernel_rfl))⟩
 t0:=Tryz.underlying0
 a0:=Tryz.isAgg0
 z0:=Tryz.sizeOf0
 v0:=Tryz.zeroValue0
 t24:=Tryz.underlying54
 a24:=Tryz.isAgg54
 z24:=Tryz.sizeOf54
 v24:=Tryz.zeroValue54
 t26:=Tryz.underlying9
 a26:=Tryz.isAgg9
 z26:=Tryz.sizeOf9
 v26:=Tryz.zeroValue9
 t28:=Tryz.underlying124
 a28:=Tryz.isAgg124
 z28:=Tryz.sizeOf124
 v28:=Tryz.zeroValue124
 i26:=by kernel_rfl}
def Tryz.Wn:Go.Shelf.Ren:=⟨fun|6=>102|8=>139|9=>138|19=>171|20=>172|21=>162|22=>163|23=>164|24=>165|25=>166|26=>167|27=>168|28=>169|29=>170|36=>188|31=>189|32=>190|37=>191|38=>192|39=>193|41=>216|n=>n,fun|27=>54|29=>9|3=>3|32=>186|26=>54|0=>0|44=>276|46=>189|4=>4|36=>270|35=>269|41=>37|5=>5|9=>9|53=>287|57=>291|63=>308|64=>139|n=>n,fun|n=>n⟩
theorem Tryz.sortS:Go.Proofs.SlLaysM.n6 Tryz.prog Tryz.Wn:={
 mixed:=by kernel_rfl
 f6:=⟨Tryz.f102.name,by decide,Tryz.func102.trans (congrArg some (by kernel_rfl))⟩
 f8:=Tryz.func139.trans (congrArg some (by kernel_rfl))
 f9:=⟨Tryz.f138.name,by decide,Tryz.func138.trans (congrArg some (by kernel_rfl))⟩
 f19:=Tryz.func171.trans (congrArg some (by kernel_rfl))
 f20:=Tryz.func172.trans (congrArg some (by kernel_rfl))
 f21:=⟨Tryz.f162.name,by decide,Tryz.func162.trans (congrArg some (by kernel_rfl))⟩
 f22:=⟨Tryz.f163.name,by decide,Tryz.func163.trans (congrArg some (by kernel_rfl))⟩
 f23:=⟨Tryz.f164.name,by decide,Tryz.func164.trans (congrArg some (by kernel_rfl))⟩
 f24:=⟨Tryz.f165.name,by decide,Tryz.func165.trans (congrArg some (by kernel_rfl))⟩
 f25:=⟨Tryz.f166.name,by decide,Tryz.func166.trans (congrArg some (by kernel_rfl))⟩
 f26:=⟨Tryz.f167.name,by decide,Tryz.func167.trans (congrArg some (by kernel_rfl))⟩
 f27:=⟨Tryz.f168.name,by decide,Tryz.func168.trans (congrArg some (by kernel_rfl))⟩
 f28:=⟨Tryz.f169.name,by decide,Tryz.func169.trans (congrArg some (by kernel_rfl))⟩
 f29:=⟨Tryz.f170.name,by decide,Tryz.func170.trans (congrArg some (by kernel_rfl))⟩
 f31:=Tryz.func189.trans (congrArg some (by kernel_rfl))
 f32:=Tryz.func190.trans (congrArg some (by kernel_rfl))
 f36:=⟨Tryz.f188.name,by decide,Tryz.func188.trans (congrArg some (by kernel_rfl))⟩
 f37:=⟨Tryz.f191.name,by decide,Tryz.func191.trans (congrArg some (by kernel_rfl))⟩
 f38:=⟨Tryz.f192.name,by decide,Tryz.func192.trans (congrArg some (by kernel_rfl))⟩
 f39:=⟨Tryz.f193.name,by decide,Tryz.func193.trans (congrArg some (by kernel_rfl))⟩
 f41:=⟨Tryz.f216.name,by decide,Tryz.func216.trans (congrArg some (by kernel_rfl))⟩
 t0:=Tryz.underlying0
 a0:=Tryz.isAgg0
 z0:=Tryz.sizeOf0
 v0:=Tryz.zeroValue0
 t3:=Tryz.underlying3
 a3:=Tryz.isAgg3
 z3:=Tryz.sizeOf3
 v3:=Tryz.zeroValue3
 t4:=Tryz.underlying4
 a4:=Tryz.isAgg4
 z4:=Tryz.sizeOf4
 v4:=Tryz.zeroValue4
 t5:=Tryz.underlying5
 a5:=Tryz.isAgg5
 z5:=Tryz.sizeOf5
 v5:=Tryz.zeroValue5
 t9:=Tryz.underlying9
 a9:=Tryz.isAgg9
 z9:=Tryz.sizeOf9
 v9:=Tryz.zeroValue9
 t26:=Tryz.underlying54
 a26:=Tryz.isAgg54
 z26:=Tryz.sizeOf54
 v26:=Tryz.zeroValue54
 t27:=Tryz.underlying54
 a27:=Tryz.isAgg54
 z27:=Tryz.sizeOf54
 v27:=Tryz.zeroValue54
 t29:=Tryz.underlying9
 a29:=Tryz.isAgg9
 z29:=Tryz.sizeOf9
 v29:=Tryz.zeroValue9
 t32:=Tryz.underlying186
 a32:=Tryz.isAgg186
 z32:=Tryz.sizeOf186
 v32:=Tryz.zeroValue186
 t35:=Tryz.underlying269
 a35:=Tryz.isAgg269
 z35:=Tryz.sizeOf269
 v35:=Tryz.zeroValue269
 t36:=Tryz.underlying270
 a36:=Tryz.isAgg270
 z36:=Tryz.sizeOf270
 v36:=Tryz.zeroValue270
 t41:=Tryz.underlying37
 a41:=Tryz.isAgg37
 z41:=Tryz.sizeOf37
 v41:=Tryz.zeroValue37
 t44:=Tryz.underlying276
 a44:=Tryz.isAgg276
 z44:=Tryz.sizeOf276
 v44:=Tryz.zeroValue276
 t46:=Tryz.underlying189
 a46:=Tryz.isAgg189
 z46:=Tryz.sizeOf189
 v46:=Tryz.zeroValue189
 t53:=Tryz.underlying287
 a53:=Tryz.isAgg287
 z53:=Tryz.sizeOf287
 v53:=Tryz.zeroValue287
 t57:=Tryz.underlying291
 a57:=Tryz.isAgg291
 z57:=Tryz.sizeOf291
 v57:=Tryz.zeroValue291
 t63:=Tryz.underlying308
 a63:=Tryz.isAgg308
 z63:=Tryz.sizeOf308
 v63:=Tryz.zeroValue308
 t64:=Tryz.underlying139
 a64:=Tryz.isAgg139
 z64:=Tryz.sizeOf139
 v64:=Tryz.zeroValue139}
end Go.Proofs
end
section
namespace Go.Proofs.YtilpincgjlclpaaGreat.Pr
open Go.RowKit Go.Proofs.ae.au Go.Proofs.ae.aZ Go.Proofs.ae.bE
attribute [local go_sem] bQ min2_int cB min_two max_three min_three max_four min_four
def fJ.l0:Nat->Int->List Int->Int->Int->Option (Int×Bool)
 |0,_,_,_,_=>none
 |k+1,x4,x8,x9,qo=>if qo<x9 then(if 0<=qo then(if qo<(x8.length:Int) then((gV.f x4 (rd x8 qo)).bind fun bt220=>(if bt220.2=true then(fJ.l0 k bt220.1 x8 x9 (wrap64 (qo+1))) else(some (0,false)))) else(none)) else(none)) else(some (x4,true))
def fJ.f (k:Nat) (l0:List Int):Option (Int×Bool):=fJ.l0 k 0 l0 (l0.length:Int) 0
set_option maxHeartbeats 8000000 in
set_option maxRecDepth 100000 in
theorem fJ.calls (k:Nat) (A0:Option Addr) (c0:Nat) (l0:List Int) (r1:Int) (r2:Bool) (w:World) (hr0:Kd.C (Kd.int .i64) w A0 l0.length l0) (hc0:l0.length<=c0) (h:fJ.f k l0=some (r1,r2)):
  Calls Tryz.prog 78 #[.slice A0 l0.length c0] w fun e w'=>e= .returned (.tuple #[.int .i64 r1,.bool r2])/\aJ w w':=by
 have gq:=ai.mk hr0
 have lC:=ai.mk hc0
 clear hr0 hc0
 have H:(fJ.l0 k 0 l0 (l0.length:Int) 0)=some (r1,r2):=h
 clear h
 have H':=ai.mk H
 clear H
 go_enter Tryz.func78,Tryz.ntmps78
 go_wp2
 go_loopg [4,10] k (fun kq v4 v10 w'=>∃(bq:Int) (fM:Int),v4= .int .i64 bq/\v10= .int .i64 fM/\ai (fJ.l0 kq bq l0 (l0.length:Int) fM=some (r1,r2))/\ai (kq<=k)/\aJ w w')
 case atStart=>exact⟨(0),(0),(by first|rfl|(simp;done)|(simp[*];done)),(by first|rfl|(simp;done)|(simp[*];done)),H',⟨Nat.le_refl _⟩,by repeat(first|exact aJ.refl _|apply aJ.step)⟩
 case round=>
  clear H'
  obtain⟨bq,fM,rfl,rfl,HA,gH,⟨m1,rfl⟩⟩:=hrel
  cases gk with
  |zero=>exact absurd HA.out (by simp[fJ.l0])
  |succ k1=>
   have H:=HA.out
   clear HA
   simp only[fJ.l0] at H
   by_cases c2:fM<(l0.length:Int)
   ·rw[if_pos c2] at H
    have jV:decide (fM<(l0.length:Int))=true:=decide_eq_true c2
    clear c2
    by_cases c3:0<=fM
    ·rw[if_pos c3] at H
     have iY:decide (0<=fM)=true:=decide_eq_true c3
     clear c3
     by_cases c4:fM<(l0.length:Int)
     ·rw[if_pos c4] at H
      have iw:decide (fM<(l0.length:Int))=true:=decide_eq_true c4
      clear c4
      replace H:=Option.bind_eq_some_iff.mp H
      obtain⟨⟨t220,t221⟩,Dk,H⟩:=H
      replace H:(if t221=true then(fJ.l0 k1 t220 l0 (l0.length:Int) (wrap64 (fM+1))) else(some (0,false)))=some (r1,r2):=H
      have A5:=ai.mk Dk
      clear Dk
      by_cases c6:t221=true
      ·subst c6
       have H1:(fJ.l0 k1 t220 l0 (l0.length:Int) (wrap64 (fM+1)))=some (r1,r2):=by rw[if_pos rfl] at H;exact H
       clear H
       have H:=H1
       clear H1
       have H':=ai.mk H
       clear H
       have QE:0<=(fM:Int):=of_decide_eq_true (by first|(with_reducible assumption)|assumption)
       have Re:fM<(l0.length:Int):=of_decide_eq_true (by first|(with_reducible assumption)|assumption)
       obtain⟨ad219,e219,hx219_0⟩:=Kd.kW gq.out fM QE Re
       cases e219
       replace QE:=eq_true QE
       replace Re:=eq_true Re
       go_wp2_with (first|((with_reducible refine bL (f:=60) rfl ?_);refine eQ (some 17) rfl rfl Tryz.func60 (by kernel_rfl) rfl #[.int .i64 bq,.int .i64 (rd l0 fM)] rfl (by(try simp only[List.map_toArray,List.map_cons,List.map_nil]);first|done|rfl|(simp only[List.length_drop,List.length_take];rfl)) ?_;(with_reducible refine(gV.calls bq (rd l0 fM) t220 true _ A5.out).mono ?_);rintro e w' ⟨rfl,⟨nd,rfl⟩⟩;refine⟨_,rfl,?_⟩))
       go_roundg k1
       case measure=>have:=gH.out;omega
       case rel=>exact⟨(t220),(wrap64 (fM+1)),(by first|rfl|(simp;done)|(simp[*];done)),(by first|rfl|(simp;done)|(simp[*];done)),H',⟨by have:=gH.out;omega⟩,by repeat(first|exact aJ.refl _|apply aJ.step)⟩
      ·replace c6:=Bool.eq_false_iff.mpr c6
       subst c6
       have H1:(some (0,false))=some (r1,r2):=by rw[if_neg (show¬(false=true) by decide)] at H;exact H
       clear H
       have H:=H1
       clear H1
       simp only[Option.some.injEq,Prod.mk.injEq] at H
       obtain⟨rfl,rfl⟩:=H
       have QE:0<=(fM:Int):=of_decide_eq_true (by first|(with_reducible assumption)|assumption)
       have Re:fM<(l0.length:Int):=of_decide_eq_true (by first|(with_reducible assumption)|assumption)
       obtain⟨ad219,e219,hx219_0⟩:=Kd.kW gq.out fM QE Re
       cases e219
       replace QE:=eq_true QE
       replace Re:=eq_true Re
       go_wp2_with (first|((with_reducible refine bL (f:=60) rfl ?_);refine eQ (some 17) rfl rfl Tryz.func60 (by kernel_rfl) rfl #[.int .i64 bq,.int .i64 (rd l0 fM)] rfl (by(try simp only[List.map_toArray,List.map_cons,List.map_nil]);first|done|rfl|(simp only[List.length_drop,List.length_take];rfl)) ?_;(with_reducible refine(gV.calls bq (rd l0 fM) t220 false _ A5.out).mono ?_);rintro e w' ⟨rfl,⟨nd,rfl⟩⟩;refine⟨_,rfl,?_⟩))
       go_ret2
       exact⟨by first|rfl|(simp;done)|(simp[*];done),by repeat(first|exact aJ.refl _|apply aJ.step)⟩
     ·rw[if_neg c4] at H
      exact absurd H (by simp)
    ·rw[if_neg c3] at H
     exact absurd H (by simp)
   ·rw[if_neg c2] at H
    have jV:decide (fM<(l0.length:Int))=false:=decide_eq_false c2
    clear c2
    simp only[Option.some.injEq,Prod.mk.injEq] at H
    obtain⟨rfl,rfl⟩:=H
    go_wp2
    go_ret2
    exact⟨by first|rfl|(simp;done)|(simp[*];done),by repeat(first|exact aJ.refl _|apply aJ.step)⟩
end Go.Proofs.YtilpincgjlclpaaGreat.Pr
end
section
namespace Go.Proofs.YtilpincgjlclpaaGreat.Pr
open Go.RowKit Go.Proofs.ae.au Go.Proofs.ae.aZ Go.Proofs.ae.bE
attribute [local go_sem] bQ min2_int cB min_two max_three min_three max_four min_four
def fT.l0:Nat->List Int->List Int->List Int->Int->Int->Option (Int×Bool)
 |0,_,_,_,_,_=>none
 |k+1,x0,x1,x6,x16,x17=>if x17<x16 then(if 0<=x17 then(if x17<(x0.length:Int) then(if x17<(x1.length:Int) then((cZ.f k (rd x0 x17) (rd x1 x17)).bind fun bt224=>(if bt224.2=true then(if x6.length<17592186044416 then(fT.l0 k x0 x1 (x6++[bt224.1]) x16 (wrap64 (x17+1))) else(none)) else(some (0,false)))) else(none)) else(none)) else(none)) else((fJ.f k x6).bind fun bt229=>(some (bt229.1,bt229.2)))
def fT.f (k:Nat) (l0:List Int) (l1:List Int):Option (Int×Bool):=if(l0.length:Int)=(l1.length:Int) then(fT.l0 k l0 l1 ([]:List Int) (l0.length:Int) 0) else(some (0,false))
set_option maxHeartbeats 8000000 in
set_option maxRecDepth 100000 in
theorem fT.calls (k:Nat) (A0:Option Addr) (c0:Nat) (l0:List Int) (A1:Option Addr) (c1:Nat) (l1:List Int) (r1:Int) (r2:Bool) (w:World) (hr0:Kd.C (Kd.int .i64) w A0 l0.length l0) (hc0:l0.length<=c0) (hr1:Kd.C (Kd.int .i64) w A1 l1.length l1) (hc1:l1.length<=c1) (h:fT.f k l0 l1=some (r1,r2)):
  Calls Tryz.prog 44 #[.slice A0 l0.length c0,.slice A1 l1.length c1] w fun e w'=>e= .returned (.tuple #[.int .i64 r1,.bool r2])/\Below w.heap.size w w':=by
 have gq:=ai.mk hr0
 have lC:=ai.mk hc0
 clear hr0 hc0
 have HR1:=ai.mk hr1
 have Ch:=ai.mk hc1
 clear hr1 hc1
 have HB:=ai.mk (Below.refl w.heap.size w)
 have H:(if(l0.length:Int)=(l1.length:Int) then(fT.l0 k l0 l1 ([]:List Int) (l0.length:Int) 0) else(some (0,false)))=some (r1,r2):=h
 clear h
 by_cases c3:(l0.length:Int)=(l1.length:Int)
 ·rw[if_pos c3] at H
  have iY:((l0.length:Int)==(l1.length:Int))=true:=beq_iff_eq.mpr c3
  have qp:((l0.length:Int) != (l1.length:Int))=false:=bne_eq_false_iff_eq.mpr c3
  have DL:(l0.length==l1.length)=true:=by first|simpa using c3|(simp at c3 ⊢;omega)
  clear c3
  have H':=ai.mk H
  clear H
  go_enter Tryz.func44,Tryz.ntmps44
  go_wp2
  repeat(go_quiet (fail);try go_wp2)
  go_loopg [6,17] k (fun kq v6 v17 w'=>∃(bB:List Int) (iO:Int),v17= .int .i64 iO/\ai (fT.l0 kq l0 l1 bB (l0.length:Int) iO=some (r1,r2))/\ai (kq<=k)/\ai (Kd.R (Kd.int .i64) 3 w' w.heap.size (fun _=>True) v6 bB)/\ai (Below w.heap.size w w'))
  case atStart=>exact⟨(([]:List Int)),(0),(by first|rfl|(simp;done)|(simp[*];done)),H',⟨Nat.le_refl _⟩,⟨by first|exact Kd.jM _ _ _ _ _|exact Kd.kQ _ _ _ _ _|exact Kd.kS _ _ _ _ _|exact Kd.kR _ _ _ _ _|exact Kd.kg _ _ _ _ _⟩,⟨by repeat(first|(with_reducible first|exact HB.out|apply ag|apply af|apply ah)|exact HB.out)⟩⟩
  case round=>
   clear H'
   try clear c1
   try clear p2
   try clear c3
   try clear iY
   try clear qp
   try clear DL
   obtain⟨bB,iO,rfl,HA,gH,Ar,HB⟩:=hrel
   cases gk with
   |zero=>exact absurd HA.out (by simp[fT.l0])
   |succ k1=>
    have H:=HA.out
    clear HA
    simp only[fT.l0] at H
    by_cases c4:iO<(l0.length:Int)
    ·rw[if_pos c4] at H
     have iw:decide (iO<(l0.length:Int))=true:=decide_eq_true c4
     clear c4
     by_cases c5:0<=iO
     ·rw[if_pos c5] at H
      have iC:decide (0<=iO)=true:=decide_eq_true c5
      clear c5
      by_cases c6:iO<(l0.length:Int)
      ·rw[if_pos c6] at H
       have yR:decide (iO<(l0.length:Int))=true:=decide_eq_true c6
       clear c6
       by_cases c7:iO<(l1.length:Int)
       ·rw[if_pos c7] at H
        have jU:decide (iO<(l1.length:Int))=true:=decide_eq_true c7
        clear c7
        replace H:=Option.bind_eq_some_iff.mp H
        obtain⟨⟨t224,t225⟩,Xa,H⟩:=H
        replace H:(if t225=true then(if bB.length<17592186044416 then(fT.l0 k1 l0 l1 (bB++[t224]) (l0.length:Int) (wrap64 (iO+1))) else(none)) else(some (0,false)))=some (r1,r2):=H
        have A8:=ai.mk Xa
        clear Xa
        by_cases c9:t225=true
        ·subst c9
         have H1:(if bB.length<17592186044416 then(fT.l0 k1 l0 l1 (bB++[t224]) (l0.length:Int) (wrap64 (iO+1))) else(none))=some (r1,r2):=by rw[if_pos rfl] at H;exact H
         clear H
         have H:=H1
         clear H1
         by_cases c10:bB.length<17592186044416
         ·rw[if_pos c10] at H
          have LF:=ai.mk c10
          clear c10
          obtain⟨y226,MV⟩:∃y_:List Int,y_=(bB++[t224]):=⟨_,rfl⟩
          replace H:(fT.l0 k1 l0 l1 y226 (l0.length:Int) (wrap64 (iO+1)))=some (r1,r2):=by first|(rw[MV];with_reducible exact H)|(have iB:=(Option.bind_some _ _).symm.trans H;rw[MV];with_reducible exact iB)|(have iB:=(Option.bind_some _ _).symm.trans H;with_reducible exact iB)|with_reducible exact H|(rw[MV];exact H)|exact H
          have Xy:=ai.mk MV
          clear MV
          have H':=ai.mk H
          clear H
          have QF:0<=(iO:Int):=of_decide_eq_true (by first|(with_reducible assumption)|assumption)
          have Rf:iO<(l0.length:Int):=of_decide_eq_true (by first|(with_reducible assumption)|assumption)
          obtain⟨ad222,e222,sU⟩:=Kd.kW gq.out iO QF Rf
          cases e222
          replace sU:=(HB.out.cell (World.block_lt_of_cell? w _ sU)).trans sU
          replace QF:=eq_true QF
          replace Rf:=eq_true Rf
          have QG:0<=(iO:Int):=of_decide_eq_true (by first|(with_reducible assumption)|assumption)
          have Rh:iO<(l1.length:Int):=of_decide_eq_true (by first|(with_reducible assumption)|assumption)
          obtain⟨ad223,e223,sV⟩:=Kd.kW HR1.out iO QG Rh
          cases e223
          replace sV:=(HB.out.cell (World.block_lt_of_cell? w _ sV)).trans sV
          replace QG:=eq_true QG
          replace Rh:=eq_true Rh
          go_wp2_with (first|(go_at_call 77;(with_reducible refine(cZ.calls k1 (rd l0 iO) (rd l1 iO) t224 true _ A8.out).mono ?_);rintro e w' ⟨rfl,⟨nd,rfl⟩⟩;(try first|exact⟨rfl,_,World.drewN_drewN _ _ _⟩|exact⟨rfl,_,Eq.trans (World.drewN_drewN _ _ _) (congrArg (World.drewN _) (Nat.add_assoc _ _ _))⟩))|((with_reducible refine bH (b:= .append) (xs:=#[.tmp 34,.tmp 36]) rfl ?_);at_builtin;refine Kd.bT (Kd.int .i64) (w0:=w) w.heap.size rfl (.tmp 34) (.tmp 36) 43 3 (.int .i64 0) 8 rfl Tryz.underlying43 info3 rfl (by decide) (by omega) u6 bB t224 [.int .i64 t224] (fun _=>True) (fun _=>False) rfl rfl ?aP (fun _ hk=>hk.elim) ?aF ?aO ?aB ?aS ?aL ?_;(case aP=>exact rfl);(case aB=>exact(by repeat(first|(with_reducible first|exact HB.out|apply ag|apply af|apply ah)|exact HB.out)));(case aF=>exact(fun _ _=>trivial));(case aO=>exact(by(with_reducible repeat(first|apply Kd.aM|apply Kd.aK|apply Kd.aV));exact Ar.out));(case aS=>exact(ay (by repeat(first|(with_reducible first|exact HB.out|apply ag|apply af|apply ah)|exact HB.out))));(case aL=>have:=LF.out;omega);intro v227 w11 ho hb hg hat;rw[<-Xy.out] at ho;have bN:=ai.mk (hb);have bP:=ai.mk (ho);clear HB;clear Ar;have HB:=bN;have Xm:=bP;clear bN bP;clear ho hb hg hat))
          repeat(go_quiet (first|(go_at_call 77;(with_reducible refine(cZ.calls k1 (rd l0 iO) (rd l1 iO) t224 true _ A8.out).mono ?_);rintro e w' ⟨rfl,⟨nd,rfl⟩⟩;(try first|exact⟨rfl,_,World.drewN_drewN _ _ _⟩|exact⟨rfl,_,Eq.trans (World.drewN_drewN _ _ _) (congrArg (World.drewN _) (Nat.add_assoc _ _ _))⟩))|((with_reducible refine bH (b:= .append) (xs:=#[.tmp 34,.tmp 36]) rfl ?_);at_builtin;refine Kd.bT (Kd.int .i64) (w0:=w) w.heap.size rfl (.tmp 34) (.tmp 36) 43 3 (.int .i64 0) 8 rfl Tryz.underlying43 info3 rfl (by decide) (by omega) u6 bB t224 [.int .i64 t224] (fun _=>True) (fun _=>False) rfl rfl ?aP (fun _ hk=>hk.elim) ?aF ?aO ?aB ?aS ?aL ?_;(case aP=>exact rfl);(case aB=>exact(by repeat(first|(with_reducible first|exact HB.out|apply ag|apply af|apply ah)|exact HB.out)));(case aF=>exact(fun _ _=>trivial));(case aO=>exact(by(with_reducible repeat(first|apply Kd.aM|apply Kd.aK|apply Kd.aV));exact Ar.out));(case aS=>exact(ay (by repeat(first|(with_reducible first|exact HB.out|apply ag|apply af|apply ah)|exact HB.out))));(case aL=>have:=LF.out;omega);intro v227 w11 ho hb hg hat;rw[<-Xy.out] at ho;have bN:=ai.mk (hb);have bP:=ai.mk (ho);clear HB;clear Ar;have HB:=bN;have Xm:=bP;clear bN bP;clear ho hb hg hat));try go_wp2_with (first|(go_at_call 77;(with_reducible refine(cZ.calls k1 (rd l0 iO) (rd l1 iO) t224 true _ A8.out).mono ?_);rintro e w' ⟨rfl,⟨nd,rfl⟩⟩;(try first|exact⟨rfl,_,World.drewN_drewN _ _ _⟩|exact⟨rfl,_,Eq.trans (World.drewN_drewN _ _ _) (congrArg (World.drewN _) (Nat.add_assoc _ _ _))⟩))|((with_reducible refine bH (b:= .append) (xs:=#[.tmp 34,.tmp 36]) rfl ?_);at_builtin;refine Kd.bT (Kd.int .i64) (w0:=w) w.heap.size rfl (.tmp 34) (.tmp 36) 43 3 (.int .i64 0) 8 rfl Tryz.underlying43 info3 rfl (by decide) (by omega) u6 bB t224 [.int .i64 t224] (fun _=>True) (fun _=>False) rfl rfl ?aP (fun _ hk=>hk.elim) ?aF ?aO ?aB ?aS ?aL ?_;(case aP=>exact rfl);(case aB=>exact(by repeat(first|(with_reducible first|exact HB.out|apply ag|apply af|apply ah)|exact HB.out)));(case aF=>exact(fun _ _=>trivial));(case aO=>exact(by(with_reducible repeat(first|apply Kd.aM|apply Kd.aK|apply Kd.aV));exact Ar.out));(case aS=>exact(ay (by repeat(first|(with_reducible first|exact HB.out|apply ag|apply af|apply ah)|exact HB.out))));(case aL=>have:=LF.out;omega);intro v227 w11 ho hb hg hat;rw[<-Xy.out] at ho;have bN:=ai.mk (hb);have bP:=ai.mk (ho);clear HB;clear Ar;have HB:=bN;have Xm:=bP;clear bN bP;clear ho hb hg hat)))
          go_roundg k1
          case measure=>have:=gH.out;omega
          case rel=>exact⟨(y226),(wrap64 (iO+1)),(by first|rfl|(simp;done)|(simp[*];done)),H',⟨by have:=gH.out;omega⟩,⟨by(with_reducible repeat(first|apply Kd.aM|apply Kd.aK|apply Kd.aV));exact Xm.out⟩,⟨by repeat(first|(with_reducible first|exact HB.out|apply ag|apply af|apply ah)|exact HB.out)⟩⟩
         ·rw[if_neg c10] at H
          exact absurd H (by simp)
        ·replace c9:=Bool.eq_false_iff.mpr c9
         subst c9
         have H1:(some (0,false))=some (r1,r2):=by rw[if_neg (show¬(false=true) by decide)] at H;exact H
         clear H
         have H:=H1
         clear H1
         simp only[Option.some.injEq,Prod.mk.injEq] at H
         obtain⟨rfl,rfl⟩:=H
         have QF:0<=(iO:Int):=of_decide_eq_true (by first|(with_reducible assumption)|assumption)
         have Rf:iO<(l0.length:Int):=of_decide_eq_true (by first|(with_reducible assumption)|assumption)
         obtain⟨ad222,e222,sU⟩:=Kd.kW gq.out iO QF Rf
         cases e222
         replace sU:=(HB.out.cell (World.block_lt_of_cell? w _ sU)).trans sU
         replace QF:=eq_true QF
         replace Rf:=eq_true Rf
         have QG:0<=(iO:Int):=of_decide_eq_true (by first|(with_reducible assumption)|assumption)
         have Rh:iO<(l1.length:Int):=of_decide_eq_true (by first|(with_reducible assumption)|assumption)
         obtain⟨ad223,e223,sV⟩:=Kd.kW HR1.out iO QG Rh
         cases e223
         replace sV:=(HB.out.cell (World.block_lt_of_cell? w _ sV)).trans sV
         replace QG:=eq_true QG
         replace Rh:=eq_true Rh
         go_wp2_with (first|(go_at_call 77;(with_reducible refine(cZ.calls k1 (rd l0 iO) (rd l1 iO) t224 false _ A8.out).mono ?_);rintro e w' ⟨rfl,⟨nd,rfl⟩⟩;(try first|exact⟨rfl,_,World.drewN_drewN _ _ _⟩|exact⟨rfl,_,Eq.trans (World.drewN_drewN _ _ _) (congrArg (World.drewN _) (Nat.add_assoc _ _ _))⟩)))
         repeat(go_quiet (first|(go_at_call 77;(with_reducible refine(cZ.calls k1 (rd l0 iO) (rd l1 iO) t224 false _ A8.out).mono ?_);rintro e w' ⟨rfl,⟨nd,rfl⟩⟩;(try first|exact⟨rfl,_,World.drewN_drewN _ _ _⟩|exact⟨rfl,_,Eq.trans (World.drewN_drewN _ _ _) (congrArg (World.drewN _) (Nat.add_assoc _ _ _))⟩)));try go_wp2_with (first|(go_at_call 77;(with_reducible refine(cZ.calls k1 (rd l0 iO) (rd l1 iO) t224 false _ A8.out).mono ?_);rintro e w' ⟨rfl,⟨nd,rfl⟩⟩;(try first|exact⟨rfl,_,World.drewN_drewN _ _ _⟩|exact⟨rfl,_,Eq.trans (World.drewN_drewN _ _ _) (congrArg (World.drewN _) (Nat.add_assoc _ _ _))⟩))))
         go_ret2
         exact⟨by first|rfl|(simp[aC,aD]<;>rfl)|(simp[*,aC,aD]<;>rfl),by repeat(first|(with_reducible first|exact HB.out|apply ag|apply af|apply ah)|exact HB.out)⟩
       ·rw[if_neg c7] at H
        exact absurd H (by simp)
      ·rw[if_neg c6] at H
       exact absurd H (by simp)
     ·rw[if_neg c5] at H
      exact absurd H (by simp)
    ·rw[if_neg c4] at H
     have iw:decide (iO<(l0.length:Int))=false:=decide_eq_false c4
     clear c4
     replace H:=Option.bind_eq_some_iff.mp H
     obtain⟨⟨t229,t230⟩,A120,H⟩:=H
     replace H:(some (t229,t230))=some (r1,r2):=H
     have A12:=ai.mk A120
     clear A120
     simp only[Option.some.injEq,Prod.mk.injEq] at H
     obtain⟨rfl,rfl⟩:=H
     obtain⟨Ao13,co13,eo13⟩:=Kd.gL Ar.out
     subst eo13
     go_wp2_with (first|(go_at_call 78;(with_reducible refine(fJ.calls k1 _ _ bB t229 t230 _ ?gM ?gW A12.out).mono ?_);(case gM=>repeat(first|exact(Kd.dP Ar.out).2.2|(with_reducible refine Kd.dD ?_ _)|(with_reducible refine Kd.dB ?_ _)|(with_reducible refine Kd.fA ?_)));(case gW=>exact(Kd.dP Ar.out).2.1);rintro e w' ⟨rfl,⟨nd,rfl⟩⟩;(try first|exact⟨rfl,_,World.drewN_drewN _ _ _⟩|exact⟨rfl,_,Eq.trans (World.drewN_drewN _ _ _) (congrArg (World.drewN _) (Nat.add_assoc _ _ _))⟩)))
     repeat(go_quiet (first|(go_at_call 78;(with_reducible refine(fJ.calls k1 _ _ bB t229 t230 _ ?gM ?gW A12.out).mono ?_);(case gM=>repeat(first|exact(Kd.dP Ar.out).2.2|(with_reducible refine Kd.dD ?_ _)|(with_reducible refine Kd.dB ?_ _)|(with_reducible refine Kd.fA ?_)));(case gW=>exact(Kd.dP Ar.out).2.1);rintro e w' ⟨rfl,⟨nd,rfl⟩⟩;(try first|exact⟨rfl,_,World.drewN_drewN _ _ _⟩|exact⟨rfl,_,Eq.trans (World.drewN_drewN _ _ _) (congrArg (World.drewN _) (Nat.add_assoc _ _ _))⟩)));try go_wp2_with (first|(go_at_call 78;(with_reducible refine(fJ.calls k1 _ _ bB t229 t230 _ ?gM ?gW A12.out).mono ?_);(case gM=>repeat(first|exact(Kd.dP Ar.out).2.2|(with_reducible refine Kd.dD ?_ _)|(with_reducible refine Kd.dB ?_ _)|(with_reducible refine Kd.fA ?_)));(case gW=>exact(Kd.dP Ar.out).2.1);rintro e w' ⟨rfl,⟨nd,rfl⟩⟩;(try first|exact⟨rfl,_,World.drewN_drewN _ _ _⟩|exact⟨rfl,_,Eq.trans (World.drewN_drewN _ _ _) (congrArg (World.drewN _) (Nat.add_assoc _ _ _))⟩))))
     go_ret2
     exact⟨by first|rfl|(simp[aC,aD]<;>rfl)|(simp[*,aC,aD]<;>rfl),by repeat(first|(with_reducible first|exact HB.out|apply ag|apply af|apply ah)|exact HB.out)⟩
 ·rw[if_neg c3] at H
  have iY:((l0.length:Int)==(l1.length:Int))=false:=beq_eq_false_iff_ne.mpr c3
  have qp:((l0.length:Int) != (l1.length:Int))=true:=bne_iff_ne.mpr c3
  have DL:(l0.length==l1.length)=false:=by first|simpa using c3|(simp at c3 ⊢;omega)
  simp only[Option.some.injEq,Prod.mk.injEq] at H
  obtain⟨rfl,rfl⟩:=H
  go_enter Tryz.func44,Tryz.ntmps44
  go_wp2
  repeat(go_quiet (fail);try go_wp2)
  go_ret2
  exact⟨by first|rfl|(simp[aC,aD]<;>rfl)|(simp[*,aC,aD]<;>rfl),by repeat(first|(with_reducible first|exact HB.out|apply ag|apply af|apply ah)|exact HB.out)⟩
end Go.Proofs.YtilpincgjlclpaaGreat.Pr
end
section
namespace Go.Proofs.YtilpincgjlclpaaGreat.Pr
open Go.RowKit Go.Proofs.ae.au Go.Proofs.ae.aZ Go.Proofs.ae.bE
attribute [local go_sem] bQ min2_int cB min_two max_three min_three max_four min_four
def eU.l0:Nat->List Int->List Int->List (dN)->Int->Int->Option (Int×Bool)
 |0,_,_,_,_,_=>none
 |k+1,x4,x5,x8,x9,qo=>if qo<x9 then(if 0<=qo then(if qo<(x8.length:Int) then(if x4.length<17592186044416 then(if x5.length<17592186044416 then(eU.l0 k (x4++[(aU x8 qo).f1]) (x5++[mx (wrap64 ((((aU x8 qo).f0).size:Int)-1)) 0]) x8 x9 (wrap64 (qo+1))) else(none)) else(none)) else(none)) else(none)) else((fT.f k x4 x5).bind fun bt239=>(some (bt239.1,bt239.2)))
def eU.f (k:Nat) (l0:List (dN)):Option (Int×Bool):=eU.l0 k ([]:List Int) ([]:List Int) l0 (l0.length:Int) 0
set_option maxHeartbeats 8000000 in
set_option maxRecDepth 100000 in
theorem eU.calls (k:Nat) (A0:Option Addr) (c0:Nat) (l0:List (dN)) (r1:Int) (r2:Bool) (w:World) (hr0:Kd.C lQ w A0 l0.length l0) (hc0:l0.length<=c0) (h:eU.f k l0=some (r1,r2)):
  Calls Tryz.prog 13 #[.slice A0 l0.length c0] w fun e w'=>e= .returned (.tuple #[.int .i64 r1,.bool r2])/\Below w.heap.size w w':=by
 have Zg:=Tryz.underlying45
 have gq:=ai.mk hr0
 have lC:=ai.mk hc0
 clear hr0 hc0
 have HB:=ai.mk (Below.refl w.heap.size w)
 have H:(eU.l0 k ([]:List Int) ([]:List Int) l0 (l0.length:Int) 0)=some (r1,r2):=h
 clear h
 have H':=ai.mk H
 clear H
 go_enter Tryz.func13,Tryz.ntmps13
 go_wp2
 go_loopg [4,5,10] k (fun kq v4 v5 v10 w'=>∃(bq:List Int) (aT:List Int) (fM:Int),v10= .int .i64 fM/\ai (eU.l0 kq bq aT l0 (l0.length:Int) fM=some (r1,r2))/\ai (kq<=k)/\ai (Kd.R (Kd.int .i64) 3 w' w.heap.size (fun k_=>some k_≠(v5:Value).ownBlock) v4 bq)/\ai (Kd.R (Kd.int .i64) 3 w' w.heap.size (fun k_=>some k_≠(v4:Value).ownBlock) v5 aT)/\ai (Below w.heap.size w w'))
 case atStart=>exact⟨(([]:List Int)),(([]:List Int)),(0),(by first|rfl|(simp;done)|(simp[*];done)),H',⟨Nat.le_refl _⟩,⟨by first|exact Kd.jM _ _ _ _ _|exact Kd.kQ _ _ _ _ _|exact Kd.kS _ _ _ _ _|exact Kd.kR _ _ _ _ _|exact Kd.kg _ _ _ _ _⟩,⟨by first|exact Kd.jM _ _ _ _ _|exact Kd.kQ _ _ _ _ _|exact Kd.kS _ _ _ _ _|exact Kd.kR _ _ _ _ _|exact Kd.kg _ _ _ _ _⟩,⟨by repeat(first|(with_reducible first|exact HB.out|apply ag|apply af|apply ah)|exact HB.out)⟩⟩
 case round=>
  clear H'
  try clear c1
  obtain⟨bq,aT,fM,rfl,HA,gH,Cj,cO,HB⟩:=hrel
  cases gk with
  |zero=>exact absurd HA.out (by simp[eU.l0])
  |succ k1=>
   have H:=HA.out
   clear HA
   simp only[eU.l0] at H
   by_cases c2:fM<(l0.length:Int)
   ·rw[if_pos c2] at H
    have jV:decide (fM<(l0.length:Int))=true:=decide_eq_true c2
    clear c2
    by_cases c3:0<=fM
    ·rw[if_pos c3] at H
     have iY:decide (0<=fM)=true:=decide_eq_true c3
     clear c3
     by_cases c4:fM<(l0.length:Int)
     ·rw[if_pos c4] at H
      have iw:decide (fM<(l0.length:Int))=true:=decide_eq_true c4
      clear c4
      by_cases c5:bq.length<17592186044416
      ·rw[if_pos c5] at H
       have LMc5:=ai.mk c5
       clear c5
       obtain⟨y233,MW⟩:∃y_:List Int,y_=(bq++[(aU l0 fM).f1]):=⟨_,rfl⟩
       replace H:(if aT.length<17592186044416 then(eU.l0 k1 y233 (aT++[mx (wrap64 ((((aU l0 fM).f0).size:Int)-1)) 0]) l0 (l0.length:Int) (wrap64 (fM+1))) else(none))=some (r1,r2):=by first|(rw[MW];with_reducible exact H)|(have iB:=(Option.bind_some _ _).symm.trans H;rw[MW];with_reducible exact iB)|(have iB:=(Option.bind_some _ _).symm.trans H;with_reducible exact iB)|with_reducible exact H|(rw[MW];exact H)|exact H
       have Ny233:=ai.mk MW
       clear MW
       obtain⟨ji6,hji6⟩:∃j_:Int,(mx (wrap64 ((((aU l0 fM).f0).size:Int)-1)) 0)=j_:=⟨_,rfl⟩
       replace H:(if aT.length<17592186044416 then(eU.l0 k1 y233 (aT++[ji6]) l0 (l0.length:Int) (wrap64 (fM+1))) else(none))=some (r1,r2):=by first|(rw[hji6] at H;exact H)|(simp only[hji6] at H ⊢;exact H)
       have hji6_:(if(wrap64 ((((aU l0 fM).f0).size:Int)-1))<0 then 0 else(wrap64 ((((aU l0 fM).f0).size:Int)-1)))=ji6:=hji6
       by_cases c7:aT.length<17592186044416
       ·rw[if_pos c7] at H
        have LMc7:=ai.mk c7
        clear c7
        obtain⟨y236,MX⟩:∃y_:List Int,y_=(aT++[ji6]):=⟨_,rfl⟩
        replace H:(eU.l0 k1 y233 y236 l0 (l0.length:Int) (wrap64 (fM+1)))=some (r1,r2):=by first|(rw[MX];with_reducible exact H)|(have iB:=(Option.bind_some _ _).symm.trans H;rw[MX];with_reducible exact iB)|(have iB:=(Option.bind_some _ _).symm.trans H;with_reducible exact iB)|with_reducible exact H|(rw[MX];exact H)|exact H
        have Ny236:=ai.mk MX
        clear MX
        have H':=ai.mk H
        clear H
        have p231:0<=(fM:Int):=of_decide_eq_true (by first|(with_reducible assumption)|assumption)
        have q231:fM<(l0.length:Int):=of_decide_eq_true (by first|(with_reducible assumption)|assumption)
        obtain⟨ad231,e231,JX,JY⟩:=eP gq.out fM p231 q231
        cases e231
        replace JX:=(HB.out.cell (World.block_lt_of_cell? w _ JX)).trans JX
        replace JY:=(HB.out.cell (World.block_lt_of_cell? w _ JY)).trans JY
        replace p231:=eq_true p231
        replace q231:=eq_true q231
        go_wp2_with (first|((with_reducible refine di (N:=7) rfl ?_);refine bW ?hg (N:=7) ?hd (cs:=#[.string (⟨#[]⟩:ByteArray),.int .i64 0]) (t:=45) ?hr ?_;(case hd=>rfl);(case hg=>rfl);(case hr=>first|(go_simp;done)|(go_simp;rfl));intro qD hg w8 dm hb;have bN:=ai.mk (Kd.ja (by(with_reducible repeat(first|apply Kd.aM|apply Kd.aK|apply Kd.aV));exact Cj.out) hb);have bP:=ai.mk (Kd.ja (by(with_reducible repeat(first|apply Kd.aM|apply Kd.aK|apply Kd.aV));exact cO.out) hb);have cz:=ai.mk (bn (by repeat(first|(with_reducible first|exact HB.out|apply ag|apply af|apply ah)|exact HB.out)) hb);have fC:=ai.mk (dm);have zG:=ai.mk ((by rw[hg];exact(ay (by repeat(first|(with_reducible first|exact HB.out|apply ag|apply af|apply ah)|exact HB.out))):w.heap.size<=qD));have EB:=ai.mk ((by rw[hg];exact(ay (by repeat(first|(with_reducible first|exact HB.out|apply ag|apply af|apply ah)|exact HB.out))):w.heap.size<=qD));clear Cj;clear cO;clear HB;have Cj:=bN;have cO:=bP;have HB:=cz;have mK:=fC;have GW232:=zG;have Ll:=EB;clear bN bP cz fC zG EB;clear hb dm hg;have hcz9_0:w8.cell? ⟨qD,0,none⟩=some (.string (⟨#[]⟩:ByteArray)):=(ax mK.out 0).trans rfl;have hcz9_1:w8.cell? ⟨qD,1,none⟩=some (.int .i64 0):=(ax mK.out 1).trans rfl;have hfz9_0:=ak mK.out 0;have hfz9_1:=ak mK.out 1)|((with_reducible refine bH (b:= .append) (xs:=#[.tmp 14,.tmp 17]) rfl ?_);at_builtin;refine Kd.bT (Kd.int .i64) (w0:=w) w.heap.size rfl (.tmp 14) (.tmp 17) 43 3 (.int .i64 0) 8 rfl Tryz.underlying43 info3 rfl (by decide) (by omega) u4 bq ((aU l0 fM).f1) [.int .i64 ((aU l0 fM).f1)] (fun k_=>some k_≠(u5:Value).ownBlock) (fun _=>False) rfl (by first|(go_simp;done)|(go_simp;rfl)) ?aP (fun _ hk=>hk.elim) ?aF ?aO ?aB ?aS ?aL ?_;(case aP=>exact rfl);(case aB=>exact(by repeat(first|(with_reducible first|exact HB.out|apply ag|apply af|apply ah|refine az ?_ Ll.out)|exact HB.out)));(case aF=>exact(fun k_ hk=>Kd.fresh' (Kd.AJ (by(with_reducible repeat(first|apply Kd.aM|apply Kd.aK|apply Kd.aV));exact(Kd.dU (Kd.mi (p:=⟨qD,1,none⟩) (Kd.mi (p:=⟨qD,0,none⟩) (Kd.yM cO.out mK.out (by decide)) (fun _ hk=>hk.2) (.string ((aU l0 fM).f0))) (fun _ hk=>hk.2) (.int .i64 ((aU l0 fM).f1))) (fun _ h_=>h_.1)))) k_ hk));(case aO=>exact(by(with_reducible repeat(first|apply Kd.aM|apply Kd.aK|apply Kd.aV));exact Kd.dU (Kd.mi (p:=⟨qD,1,none⟩) (Kd.mi (p:=⟨qD,0,none⟩) (Kd.yM Cj.out mK.out (by decide)) (fun _ hk=>hk.2) (.string ((aU l0 fM).f0))) (fun _ hk=>hk.2) (.int .i64 ((aU l0 fM).f1))) (fun _ hk=>hk.1)));(case aS=>exact(ay (by repeat(first|(with_reducible first|exact HB.out|apply ag|apply af|apply ah|refine az ?_ Ll.out)|exact HB.out))));(case aL=>have:=LMc5.out;omega);intro v234 w10 ho hb hg hat;rw[<-Ny233.out] at ho;have bN:=ai.mk (Kd.oN (ok:=(fun _=>True)) (by(with_reducible repeat(first|apply Kd.aM|apply Kd.aK|apply Kd.aV));exact Kd.dU (Kd.mi (p:=⟨qD,1,none⟩) (Kd.mi (p:=⟨qD,0,none⟩) (Kd.yM cO.out mK.out (by decide)) (fun _ hk=>hk.2) (.string ((aU l0 fM).f0))) (fun _ hk=>hk.2) (.int .i64 ((aU l0 fM).f1))) (fun _ hk=>⟨trivial,hk.1⟩)) hg hat);have bP:=ai.mk (dF (g:=qD) (o:= .cells #[.string ((aU l0 fM).f0),.int .i64 ((aU l0 fM).f1)] 45 (0,0)) (by(with_reducible repeat(first|refine aW ?_ _|refine bC ?_|refine bf ?_ _));refine nS (cs:=#[.string ((aU l0 fM).f0),.int .i64 0]) ?_ 1 _ rfl;(with_reducible repeat(first|refine aW ?_ _|refine bC ?_|refine bf ?_ _));refine nS (cs:=#[.string (⟨#[]⟩:ByteArray),.int .i64 0]) ?_ 0 _ rfl;(with_reducible repeat(first|refine aW ?_ _|refine bC ?_|refine bf ?_ _));exact mK.out) hg (Kd.kC Cj.out mK.out (by decide)));have cz:=ai.mk (hb);have fC:=ai.mk (ho);clear cO;clear mK;clear HB;clear Cj;have cO:=bN;have mK:=bP;have HB:=cz;have LC:=fC;clear bN bP cz fC;clear ho hb hg hat;have SK:w10.cell? ⟨qD,0,none⟩=some (.string ((aU l0 fM).f0)):=(ax mK.out 0).trans rfl;have SL:w10.cell? ⟨qD,1,none⟩=some (.int .i64 ((aU l0 fM).f1)):=(ax mK.out 1).trans rfl;have SX:=ak mK.out 0;have SY:=ak mK.out 1)|((with_reducible refine bH (b:= .append) (xs:=#[.tmp 19,.tmp 25]) rfl ?_);at_builtin;refine Kd.bT (Kd.int .i64) (w0:=w) w.heap.size rfl (.tmp 19) (.tmp 25) 43 3 (.int .i64 0) 8 rfl Tryz.underlying43 info3 rfl (by decide) (by omega) u5 aT ji6 [.int .i64 ji6] (fun k_=>some k_≠(v234:Value).ownBlock) (fun _=>False) rfl rfl ?aP (fun _ hk=>hk.elim) ?aF ?aO ?aB ?aS ?aL ?_;(case aP=>exact rfl);(case aB=>exact(by repeat(first|(with_reducible first|exact HB.out|apply ag|apply af|apply ah|refine az ?_ Ll.out)|exact HB.out)));(case aF=>exact(fun k_ hk=>Kd.fresh' (Kd.AJ (by(with_reducible repeat(first|apply Kd.aM|apply Kd.aK|apply Kd.aV));exact LC.out)) k_ hk));(case aO=>exact(by(with_reducible repeat(first|apply Kd.aM|apply Kd.aK|apply Kd.aV));exact Kd.dU cO.out (fun _ hk=>hk.2)));(case aS=>exact(ay (by repeat(first|(with_reducible first|exact HB.out|apply ag|apply af|apply ah|refine az ?_ Ll.out)|exact HB.out))));(case aL=>have:=LMc7.out;omega);intro v237 RS ho hb hg hat;rw[<-Ny236.out] at ho;have bN:=ai.mk (dF (g:=qD) (o:= .cells #[.string ((aU l0 fM).f0),.int .i64 ((aU l0 fM).f1)] 45 (0,0)) (by(with_reducible repeat(first|refine aW ?_ _|refine bC ?_|refine bf ?_ _));exact mK.out) hg (Kd.kC cO.out mK.out (by decide)));have bP:=ai.mk (Kd.oN (ok:=(fun _=>True)) (by(with_reducible repeat(first|apply Kd.aM|apply Kd.aK|apply Kd.aV));exact Kd.dU LC.out (fun _ hk=>⟨trivial,hk⟩)) hg hat);have cz:=ai.mk (hb);have fC:=ai.mk (ho);clear mK;clear LC;clear HB;clear cO;have mK:=bN;have LC:=bP;have HB:=cz;have HO238:=fC;clear bN bP cz fC;clear ho hb hg hat))
        go_roundg k1
        case measure=>have:=gH.out;omega
        case rel=>exact⟨(y233),(y236),(wrap64 (fM+1)),(by first|rfl|(simp;done)|(simp[*];done)),H',⟨by have:=gH.out;omega⟩,⟨by(with_reducible repeat(first|apply Kd.aM|apply Kd.aK|apply Kd.aV));exact Kd.dU LC.out (fun _ hk=>hk.2)⟩,⟨by(with_reducible repeat(first|apply Kd.aM|apply Kd.aK|apply Kd.aV));exact HO238.out⟩,⟨by repeat(first|(with_reducible first|exact HB.out|apply ag|apply af|apply ah|refine az ?_ Ll.out)|exact HB.out)⟩⟩
       ·rw[if_neg c7] at H
        exact absurd H (by simp)
      ·rw[if_neg c5] at H
       exact absurd H (by simp)
     ·rw[if_neg c4] at H
      exact absurd H (by simp)
    ·rw[if_neg c3] at H
     exact absurd H (by simp)
   ·rw[if_neg c2] at H
    have jV:decide (fM<(l0.length:Int))=false:=decide_eq_false c2
    clear c2
    replace H:=Option.bind_eq_some_iff.mp H
    obtain⟨⟨t239,t240⟩,WU,H⟩:=H
    replace H:(some (t239,t240))=some (r1,r2):=H
    have A13:=ai.mk WU
    clear WU
    simp only[Option.some.injEq,Prod.mk.injEq] at H
    obtain⟨rfl,rfl⟩:=H
    obtain⟨Lh,Mv,PQ⟩:=Kd.gL Cj.out
    subst PQ
    obtain⟨Ao15,co15,eo15⟩:=Kd.gL cO.out
    subst eo15
    go_wp2_with (first|((with_reducible refine bL (f:=44) rfl ?_);refine eQ (some 30) rfl rfl Tryz.func44 (by kernel_rfl) rfl #[.slice Lh bq.length Mv,.slice Ao15 aT.length co15] rfl (by(try simp only[List.map_toArray,List.map_cons,List.map_nil]);first|done|rfl|(simp only[List.length_drop,List.length_take];rfl)) ?_;(with_reducible refine(fT.calls k1 _ _ bq _ _ aT t239 t240 _ ?gM ?gW ?side3 ?side4 A13.out).mono ?_);(case gM=>repeat(first|exact(Kd.dP Cj.out).2.2|(with_reducible refine Kd.dD ?_ _)|(with_reducible refine Kd.dB ?_ _)|(with_reducible refine Kd.fA ?_)));(case gW=>exact(Kd.dP Cj.out).2.1);(case side3=>repeat(first|exact(Kd.dP cO.out).2.2|(with_reducible refine Kd.dD ?_ _)|(with_reducible refine Kd.dB ?_ _)|(with_reducible refine Kd.fA ?_)));(case side4=>exact(Kd.dP cO.out).2.1);rintro e w16 ⟨rfl,hb⟩;refine⟨_,rfl,?_⟩;have bN:=ai.mk (Kd.ja (by(with_reducible repeat(first|apply Kd.aM|apply Kd.aK|apply Kd.aV));exact Cj.out) hb);have bP:=ai.mk (Kd.ja (by(with_reducible repeat(first|apply Kd.aM|apply Kd.aK|apply Kd.aV));exact cO.out) hb);have cz:=ai.mk (bn (by repeat(first|(with_reducible first|exact HB.out|apply ag|apply af|apply ah)|exact HB.out)) hb);clear Cj;clear cO;clear HB;have Cj:=bN;have cO:=bP;have HB:=cz;clear bN bP cz;(try clear hb);(try clear hb2);(try clear hk);(try clear hi)))
    go_ret2
    exact⟨by first|rfl|(simp[aC,aD]<;>rfl)|(simp[*,aC,aD]<;>rfl),by repeat(first|(with_reducible first|exact HB.out|apply ag|apply af|apply ah)|exact HB.out)⟩
end Go.Proofs.YtilpincgjlclpaaGreat.Pr
end
