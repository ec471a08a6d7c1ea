import Derived.Test.YtilpincgjlclpaaGreatB4
set_option linter.unusedVariables false
set_option linter.unusedSimpArgs false
section
namespace Go.Proofs.YtilpincgjlclpaaGreat.Pr
open Go.RowKit Go.Proofs.ae.au Go.Proofs.ae.aZ Go.Proofs.ae.bE
attribute [local go_sem] bQ min2_int cB min_two max_three min_three max_four min_four
def gV.f (a0:Int) (a1:Int):Option (Int×Bool):=(cu.f a0).bind fun t217=>(if t217=true then((cu.f a1).bind fun t218=>(if t218=true then(if a0>(wrap64 (9223372036854775807-a1)) then(some (0,false)) else(some (wrap64 (a0+a1),true))) else(some (0,false)))) else(some (0,false)))
set_option maxHeartbeats 8000000 in
set_option maxRecDepth 100000 in
theorem gV.calls (a0:Int) (a1:Int) (r1:Int) (r2:Bool) (w:World) (h:gV.f a0 a1=some (r1,r2)):
  Calls Tryz.prog 60 #[.int .i64 a0,.int .i64 a1] w fun e w'=>e= .returned (.tuple #[.int .i64 r1,.bool r2])/\aJ w w':=by
 have H:((cu.f a0).bind fun t217=>(if t217=true then((cu.f a1).bind fun t218=>(if t218=true then(if a0>(wrap64 (9223372036854775807-a1)) then(some (0,false)) else(some (wrap64 (a0+a1),true))) else(some (0,false)))) else(some (0,false))))=some (r1,r2):=h
 clear h
 replace H:=Option.bind_eq_some_iff.mp H
 obtain⟨t217,RX,H⟩:=H
 replace H:(if t217=true then((cu.f a1).bind fun t218=>(if t218=true then(if a0>(wrap64 (9223372036854775807-a1)) then(some (0,false)) else(some (wrap64 (a0+a1),true))) else(some (0,false)))) else(some (0,false)))=some (r1,r2):=H
 have A3:=ai.mk RX
 clear RX
 by_cases c4:t217=true
 ·subst c4
  have H1:((cu.f a1).bind fun t218=>(if t218=true then(if a0>(wrap64 (9223372036854775807-a1)) then(some (0,false)) else(some (wrap64 (a0+a1),true))) else(some (0,false))))=some (r1,r2):=by rw[if_pos rfl] at H;exact H
  clear H
  have H:=H1
  clear H1
  replace H:=Option.bind_eq_some_iff.mp H
  obtain⟨t218,Dk,H⟩:=H
  replace H:(if t218=true then(if a0>(wrap64 (9223372036854775807-a1)) then(some (0,false)) else(some (wrap64 (a0+a1),true))) else(some (0,false)))=some (r1,r2):=H
  have A5:=ai.mk Dk
  clear Dk
  by_cases c6:t218=true
  ·subst c6
   have H1:(if a0>(wrap64 (9223372036854775807-a1)) then(some (0,false)) else(some (wrap64 (a0+a1),true)))=some (r1,r2):=by rw[if_pos rfl] at H;exact H
   clear H
   have H:=H1
   clear H1
   by_cases c7:a0>(wrap64 (9223372036854775807-a1))
   ·rw[if_pos c7] at H
    have jU:decide ((wrap64 (9223372036854775807-a1))<a0)=true:=decide_eq_true c7
    clear c7
    simp only[Option.some.injEq,Prod.mk.injEq] at H
    obtain⟨rfl,rfl⟩:=H
    go_enter Tryz.func60,Tryz.ntmps60
    go_wp2_with (first|((with_reducible refine bL (f:=99) rfl ?_);refine eQ (some 7) rfl rfl Tryz.func99 (by kernel_rfl) rfl #[.int .i64 a0] rfl (by(try simp only[List.map_toArray,List.map_cons,List.map_nil]);first|done|rfl|(simp only[List.length_drop,List.length_take];rfl)) ?_;(with_reducible refine(cu.calls a0 true _ A3.out).mono ?_);rintro e w' ⟨rfl,⟨nd,rfl⟩⟩;refine⟨_,rfl,?_⟩)|(go_at_call 99;(with_reducible refine(cu.calls a1 true _ A5.out).mono ?_);rintro e w' ⟨rfl,⟨nd,rfl⟩⟩))
    go_ret2
    exact⟨by first|rfl|(simp;done)|(simp[*];done),by repeat(first|exact aJ.refl _|apply aJ.step)⟩
   ·rw[if_neg c7] at H
    have jU:decide ((wrap64 (9223372036854775807-a1))<a0)=false:=decide_eq_false c7
    clear c7
    simp only[Option.some.injEq,Prod.mk.injEq] at H
    obtain⟨rfl,rfl⟩:=H
    go_enter Tryz.func60,Tryz.ntmps60
    go_wp2_with (first|((with_reducible refine bL (f:=99) rfl ?_);refine eQ (some 7) rfl rfl Tryz.func99 (by kernel_rfl) rfl #[.int .i64 a0] rfl (by(try simp only[List.map_toArray,List.map_cons,List.map_nil]);first|done|rfl|(simp only[List.length_drop,List.length_take];rfl)) ?_;(with_reducible refine(cu.calls a0 true _ A3.out).mono ?_);rintro e w' ⟨rfl,⟨nd,rfl⟩⟩;refine⟨_,rfl,?_⟩)|(go_at_call 99;(with_reducible refine(cu.calls a1 true _ A5.out).mono ?_);rintro e w' ⟨rfl,⟨nd,rfl⟩⟩))
    go_ret2
    exact⟨by first|rfl|(simp;done)|(simp[*];done),by repeat(first|exact aJ.refl _|apply aJ.step)⟩
  ·replace c6:=Bool.eq_false_iff.mpr c6
   subst c6
   have H1:(some (0,false))=some (r1,r2):=by rw[if_neg (show¬(false=true) by decide)] at H;exact H
   clear H
   have H:=H1
   clear H1
   simp only[Option.some.injEq,Prod.mk.injEq] at H
   obtain⟨rfl,rfl⟩:=H
   go_enter Tryz.func60,Tryz.ntmps60
   go_wp2_with (first|((with_reducible refine bL (f:=99) rfl ?_);refine eQ (some 7) rfl rfl Tryz.func99 (by kernel_rfl) rfl #[.int .i64 a0] rfl (by(try simp only[List.map_toArray,List.map_cons,List.map_nil]);first|done|rfl|(simp only[List.length_drop,List.length_take];rfl)) ?_;(with_reducible refine(cu.calls a0 true _ A3.out).mono ?_);rintro e w' ⟨rfl,⟨nd,rfl⟩⟩;refine⟨_,rfl,?_⟩)|(go_at_call 99;(with_reducible refine(cu.calls a1 false _ A5.out).mono ?_);rintro e w' ⟨rfl,⟨nd,rfl⟩⟩))
   go_ret2
   exact⟨by first|rfl|(simp;done)|(simp[*];done),by repeat(first|exact aJ.refl _|apply aJ.step)⟩
 ·replace c4:=Bool.eq_false_iff.mpr c4
  subst c4
  have H1:(some (0,false))=some (r1,r2):=by rw[if_neg (show¬(false=true) by decide)] at H;exact H
  clear H
  have H:=H1
  clear H1
  simp only[Option.some.injEq,Prod.mk.injEq] at H
  obtain⟨rfl,rfl⟩:=H
  go_enter Tryz.func60,Tryz.ntmps60
  go_wp2_with (first|((with_reducible refine bL (f:=99) rfl ?_);refine eQ (some 7) rfl rfl Tryz.func99 (by kernel_rfl) rfl #[.int .i64 a0] rfl (by(try simp only[List.map_toArray,List.map_cons,List.map_nil]);first|done|rfl|(simp only[List.length_drop,List.length_take];rfl)) ?_;(with_reducible refine(cu.calls a0 false _ A3.out).mono ?_);rintro e w' ⟨rfl,⟨nd,rfl⟩⟩;refine⟨_,rfl,?_⟩))
  go_ret2
  exact⟨by first|rfl|(simp;done)|(simp[*];done),by repeat(first|exact aJ.refl _|apply aJ.step)⟩
end Go.Proofs.YtilpincgjlclpaaGreat.Pr
end
section
namespace Go.Proofs.YtilpincgjlclpaaGreat.Pr
open Go.RowKit Go.Proofs.ae.au Go.Proofs.ae.aZ Go.Proofs.ae.bE
attribute [local go_sem] bQ min2_int cB min_two max_three min_three max_four min_four
def gu.j0:Nat->Int->Int->Int->Bool->Option (Int×Bool)
 |0,_,_,_,_=>none
 |k+1,x0,x1,x8,x19=>if x19=true then(some (0,false)) else(if x1<0 then(some (wrap64 (x0-x8),decide (x0>=x8))) else((gV.f x0 x8).bind fun Mi=>(some (Mi.1,Mi.2))))
def gu.f (k:Nat) (a0:Int) (a1:Int) (a2:Int):Option (Int×Bool):=(cZ.f k (mx a1 (wrap64 (-a1))) a2).bind fun uZ=>(if uZ.2=true then(gu.j0 k a0 a1 uZ.1 (a1==(-9223372036854775808))) else(gu.j0 k a0 a1 uZ.1 true))
set_option maxHeartbeats 8000000 in
set_option maxRecDepth 100000 in
theorem gu.calls (k:Nat) (a0:Int) (a1:Int) (a2:Int) (r1:Int) (r2:Bool) (w:World) (h:gu.f k a0 a1 a2=some (r1,r2)):
  Calls Tryz.prog 194 #[.int .i64 a0,.int .i64 a1,.int .i64 a2] w fun e w'=>e= .returned (.tuple #[.int .i64 r1,.bool r2])/\Below w.heap.size w w':=by
 have HB:=ai.mk (Below.refl w.heap.size w)
 have H:((cZ.f k (mx a1 (wrap64 (-a1))) a2).bind fun uZ=>(if uZ.2=true then(gu.j0 k a0 a1 uZ.1 (a1==(-9223372036854775808))) else(gu.j0 k a0 a1 uZ.1 true)))=some (r1,r2):=h
 clear h
 obtain⟨OV,AZ⟩:∃j_:Int,(mx a1 (wrap64 (-a1)))=j_:=⟨_,rfl⟩
 replace H:((cZ.f k (OV) a2).bind fun uZ=>(if uZ.2=true then(gu.j0 k a0 a1 uZ.1 (a1==(-9223372036854775808))) else(gu.j0 k a0 a1 uZ.1 true)))=some (r1,r2):=by first|(rw[AZ] at H;exact H)|(simp only[AZ] at H ⊢;exact H)
 have hji4_:(if a1<(wrap64 (-a1)) then(wrap64 (-a1)) else a1)=OV:=AZ
 replace H:=Option.bind_eq_some_iff.mp H
 obtain⟨⟨t267,t268⟩,Dk,H⟩:=H
 replace H:(if t268=true then(gu.j0 k a0 a1 t267 (a1==(-9223372036854775808))) else(gu.j0 k a0 a1 t267 true))=some (r1,r2):=H
 have A5:=ai.mk Dk
 clear Dk
 have Pk:=ai.mk H
 clear H
 go_enter Tryz.func194,Tryz.ntmps194
 go_upto_region 2 with(first|((with_reducible refine bL (f:=77) rfl ?_);refine eQ (some 16) rfl rfl Tryz.func77 (by kernel_rfl) rfl #[.int .i64 OV,.int .i64 a2] rfl (by(try simp only[List.map_toArray,List.map_cons,List.map_nil]);first|done|(simp only[AZ];rfl)|rfl|(simp only[List.length_drop,List.length_take];rfl)) ?_;(with_reducible refine(cZ.calls k OV a2 t267 t268 _ A5.out).mono ?_);rintro e w' ⟨rfl,⟨nd,rfl⟩⟩;refine⟨_,rfl,?_⟩))
 (try simp only[Act.put,List.setIfInBounds_toArray,List.set_cons_zero,List.set_cons_succ])
 go_cut [19] (fun v19 wc=>∃(kq:Nat) (UI:Bool),v19= .bool UI/\ai (gu.j0 kq a0 a1 t267 UI=some (r1,r2))/\ai (kq<=k)/\ai (Below w.heap.size w wc))
 case first=>
  have H:=Pk.out
  clear Pk
  by_cases c7:t268=true
  ·subst c7
   have H1:(gu.j0 k a0 a1 t267 (a1==(-9223372036854775808)))=some (r1,r2):=by rw[if_pos rfl] at H;exact H
   clear H
   have H:=H1
   clear H1
   have H':=ai.mk H
   clear H
   go_wp2
   go_meet
   case rel=>exact⟨_,((a1==(-9223372036854775808))),(by first|rfl|(simp;done)|(simp[*];done)),H',⟨by first|omega|exact Nat.le_refl _⟩,⟨by repeat(first|(with_reducible first|exact HB.out|apply ag|apply af|apply ah)|exact HB.out)⟩⟩
  ·replace c7:=Bool.eq_false_iff.mpr c7
   subst c7
   have H1:(gu.j0 k a0 a1 t267 true)=some (r1,r2):=by rw[if_neg (show¬(false=true) by decide)] at H;exact H
   clear H
   have H:=H1
   clear H1
   have H':=ai.mk H
   clear H
   go_wp2
   go_meet
   case rel=>exact⟨_,(true),(by first|rfl|(simp;done)|(simp[*];done)),H',⟨by first|omega|exact Nat.le_refl _⟩,⟨by repeat(first|(with_reducible first|exact HB.out|apply ag|apply af|apply ah)|exact HB.out)⟩⟩
 case rest=>
  clear Pk
  try clear c1
  try clear p2
  try clear p6
  try clear c7
  obtain⟨kq,UI,rfl,HA,HJ5,HB⟩:=hcut
  cases kq with
  |zero=>exact absurd HA.out (by simp[gu.j0])
  |succ kj5=>
   have H:=HA.out
   clear HA
   simp only[gu.j0] at H
   by_cases c8:UI=true
   ·subst c8
    have H1:(some (0,false))=some (r1,r2):=by rw[if_pos rfl] at H;exact H
    clear H
    have H:=H1
    clear H1
    simp only[Option.some.injEq,Prod.mk.injEq] at H
    obtain⟨rfl,rfl⟩:=H
    go_wp2
    go_ret2
    exact⟨by first|rfl|(simp[aC,aD]<;>rfl)|(simp only[<-AZ];first|rfl|(simp[aC,aD]<;>rfl))|(simp[*,aC,aD]<;>rfl),by repeat(first|(with_reducible first|exact HB.out|apply ag|apply af|apply ah)|exact HB.out)⟩
   ·replace c8:=Bool.eq_false_iff.mpr c8
    subst c8
    have H1:(if a1<0 then(some (wrap64 (a0-t267),decide (a0>=t267))) else((gV.f a0 t267).bind fun Mi=>(some (Mi.1,Mi.2))))=some (r1,r2):=by rw[if_neg (show¬(false=true) by decide)] at H;exact H
    clear H
    have H:=H1
    clear H1
    by_cases c9:a1<0
    ·rw[if_pos c9] at H
     have qx:decide (a1<0)=true:=decide_eq_true c9
     clear c9
     simp only[Option.some.injEq,Prod.mk.injEq] at H
     obtain⟨rfl,rfl⟩:=H
     go_wp2
     go_ret2
     exact⟨by first|rfl|(simp[aC,aD]<;>rfl)|(simp only[<-AZ];first|rfl|(simp[aC,aD]<;>rfl))|(simp[*,aC,aD]<;>rfl),by repeat(first|(with_reducible first|exact HB.out|apply ag|apply af|apply ah)|exact HB.out)⟩
    ·rw[if_neg c9] at H
     have qx:decide (a1<0)=false:=decide_eq_false c9
     clear c9
     replace H:=Option.bind_eq_some_iff.mp H
     obtain⟨⟨t269,t270⟩,A100,H⟩:=H
     replace H:(some (t269,t270))=some (r1,r2):=H
     have A10:=ai.mk A100
     clear A100
     simp only[Option.some.injEq,Prod.mk.injEq] at H
     obtain⟨rfl,rfl⟩:=H
     go_wp2_with (first|((with_reducible refine bL (f:=60) rfl ?_);refine eQ (some 37) rfl rfl Tryz.func60 (by kernel_rfl) rfl #[.int .i64 a0,.int .i64 t267] rfl (by(try simp only[List.map_toArray,List.map_cons,List.map_nil]);first|done|rfl|(simp only[List.length_drop,List.length_take];rfl)) ?_;(with_reducible refine(gV.calls a0 t267 t269 t270 _ A10.out).mono ?_);rintro e w' ⟨rfl,⟨nd,rfl⟩⟩;refine⟨_,rfl,?_⟩))
     go_ret2
     exact⟨by first|rfl|(simp[aC,aD]<;>rfl)|(simp only[<-AZ];first|rfl|(simp[aC,aD]<;>rfl))|(simp[*,aC,aD]<;>rfl),by repeat(first|(with_reducible first|exact HB.out|apply ag|apply af|apply ah)|exact HB.out)⟩
end Go.Proofs.YtilpincgjlclpaaGreat.Pr
end
section
namespace Go.Proofs.YtilpincgjlclpaaGreat.Pf
open Go.RowKit Pr Go.Proofs.ae.au Go.Proofs.ae.aZ
theorem pz {n:Int} (h: -9223372036854775808<=n) (h':n<=9223372036854775807):wrap64 n=n:=by unfold wrap64;omega
def kK (a b:Int):Int×Bool:=if 0<=a/\0<=b/\a+b<=9223372036854775807 then(a+b,true) else(0,false)
def kT (a b:Int):Int×Bool:=if 0<=a/\0<=b/\a*b<=9223372036854775807 then(a*b,true) else(0,false)
theorem mQ {a b:Int} (ha: -9223372036854775808<=a/\a<=9223372036854775807) (hb: -9223372036854775808<=b/\b<=9223372036854775807):gV.f a b=some (kK a b):=by
 unfold gV.f cu.f kK
 simp only[Option.bind_some,decide_eq_true_eq]
 by_cases h1:0<=a
 ·by_cases h2:0<=b
  ·rw[if_pos h1,if_pos h2,pz (n:=9223372036854775807-b) (by omega) (by omega)]
   by_cases h3:a+b<=9223372036854775807
   ·rw[if_neg (by omega),pz (by omega) (by omega),if_pos ⟨h1,h2,h3⟩]
   ·rw[if_pos (by omega),if_neg (by omega)]
  ·rw[if_pos h1,if_neg h2,if_neg (by omega)]
 ·rw[if_neg h1,if_neg (by omega)]
theorem wB {n:Int} (h0:0<=n) (h1:n<=9223372036854775807):IntKind.u64.wrap n=n:=by
 simp[IntKind.wrap,IntKind.bits,IntKind.signed]
 omega
theorem Bf {a b:Int} (ha:0<=a/\a<=9223372036854775807) (hb:0<=b/\b<=9223372036854775807):0<=a*b/\a*b<=9223372036854775807*9223372036854775807:=
 ⟨Int.mul_nonneg ha.1 hb.1,Int.mul_le_mul ha.2 hb.2 hb.1 (by omega)⟩
theorem mR {k:Nat} (hk:1<=k) {a b:Int} (ha: -9223372036854775808<=a/\a<=9223372036854775807) (hb: -9223372036854775808<=b/\b<=9223372036854775807):cZ.f k a b=some (kT a b):=by
 obtain⟨k,rfl⟩:∃m,k=m+1:=⟨k-1,by omega⟩
 unfold cZ.f cu.f kT
 simp only[Option.bind_some,decide_eq_true_eq]
 by_cases h1:0<=a
 ·rw[if_pos h1]
  by_cases h2:0<=b
  ·have hm:=Bf ⟨h1,ha.2⟩ ⟨h2,hb.2⟩
   simp only[cZ.j0,h2,ge_iff_le,decide_true,Bool.not_true,Bool.false_eq_true,if_false,true_and,h1]
   rw[wB h1 ha.2,wB h2 hb.2]
   unfold bits_Mul64.f
   rw[if_pos (by omega)]
   simp only[Option.bind_some]
   by_cases h3:a*b<=9223372036854775807
   ·rw[if_pos (by omega),if_neg (by omega),if_pos h3,pz (by omega) (by omega)]
    congr 2
    omega
   ·rw[if_neg h3]
    by_cases h4:a*b/18446744073709551616=0
    ·rw[if_pos h4,if_pos (by omega)]
    ·rw[if_neg h4]
  ·simp only[cZ.j0,h2,ge_iff_le,decide_false,Bool.not_false,if_true,false_and,and_false,if_false]
 ·rw[if_neg h1,if_neg (by omega)]
  simp only[cZ.j0,if_true]
end Go.Proofs.YtilpincgjlclpaaGreat.Pf
end
section
namespace Go.Proofs.YtilpincgjlclpaaGreat.jL
section
variable {p q:P2} {s:Int}
theorem Zq (x:Int):∀w:List Int,(mI p s (x::w)).head?=some x\/(mI p s (x::w)).head?=some s
 |[]=> .inl rfl
 |y::r=>by
  rw[nD]
  split
  ·exact .inr rfl
  ·exact .inl rfl
theorem wW (h1:s≠p.1) (h2:s≠p.2):∀w:List Int,jy p (mI p s w)=0
 |[]=>rfl
 |[x]=>rfl
 |x::y::r=>by
  rw[nD]
  split
  ·rw[jE,wW h1 h2 r]
   cases hh:(mI p s r).head? with
   |none=>rfl
   |some z=>rw[lH,if_neg (fun h=>h1 h.1)];rfl
  ·rename_i hn
   rw[jE,wW h1 h2 (y::r)]
   rcases Zq (p:=p) (s:=s) y r with hh|hh
   ·rw[hh,lH,if_neg hn];rfl
   ·rw[hh,lH,if_neg (fun h=>h2 h.2)];rfl
def joins (p:P2):List Int->Nat
 |x::y::r=>if x=p.1/\y=p.2 then 1+joins p r else joins p (y::r)
 |_=>0
theorem xe (x y:Int) (r:List Int):joins p (x::y::r)=if x=p.1/\y=p.2 then 1+joins p r else joins p (y::r):=by rw[joins]
theorem zz:∀w:List Int,(mI p s w).length+joins p w=w.length
 |[]=>rfl
 |[x]=>rfl
 |x::y::r=>by
  have h1:=zz r
  have h2:=zz (y::r)
  rw[nD,xe]
  split<;>simp only[List.length_cons] at * <;>omega
def tp (z:Int):Option Int->List P2
 |none=>[]
 |some x=>[(z,x)]
theorem Tz {z:Int} {o:Option Int} (h:q∉tp z o):link q (some z) o=0:=by
 cases o with
 |none=>rfl
 |some x=>
  rw[lH,if_neg]
  rintro⟨e1,e2⟩
  exact h (by simp[tp,e1,e2])
def touch (p:P2) (s:Int):Int->List Int->List P2
 |z,x::y::r=>if x=p.1/\y=p.2 then(z,x)::(z,s)::(tp y r.head?++(tp s r.head?++touch p s s r)) else touch p s x (y::r)
 |_,_=>[]
theorem IE (z x y:Int) (r:List Int):touch p s z (x::y::r)=if x=p.1/\y=p.2 then(z,x)::(z,s)::(tp y r.head?++(tp s r.head?++touch p s s r)) else touch p s x (y::r):=by rw[touch]
theorem tp_len (z:Int) (o:Option Int):(tp z o).length<=1:=by cases o<;>simp[tp]
theorem Bu:∀(w:List Int) (z:Int),(touch p s z w).length<=4*joins p w
 |[],_=>by simp[touch]
 |[x],_=>by simp[touch]
 |x::y::r,z=>by
  have h1:=Bu r s
  have h2:=Bu (y::r) x
  have h3:=tp_len y r.head?
  have h4:=tp_len s r.head?
  rw[IE,xe]
  split
  ·simp only[List.length_cons,List.length_append];omega
  ·exact h2
theorem yA (hp:q≠p):∀(w:List Int) (z:Int),q∉touch p s z w->jy q (z::mI p s w)=jy q (z::w)
 |[],_,_=>rfl
 |[x],_,_=>rfl
 |x::y::r,z,h=>by
  rw[IE] at h
  rw[nD]
  split at h
  ·rename_i hm
   rw[if_pos hm]
   simp only[List.mem_cons,List.mem_append,not_or] at h
   obtain⟨h1,h2,h3,h4,h5⟩:=h
   have ih:=yA hp r s h5
   have e3:=Tz h3
   have e4:=Tz h4
   rw[jE z,ih,jE s,e4,jE z,jE x,jE y,e3]
   simp only[List.head?_cons,lH]
   rw[if_neg (fun e=>h2 (Prod.ext e.1.symm e.2.symm)),if_neg (fun e=>h1 (Prod.ext e.1.symm e.2.symm)),if_neg (fun e=>hp (Prod.ext (e.1.symm.trans hm.1) (e.2.symm.trans hm.2)))]
   omega
  ·rename_i hm
   rw[if_neg hm]
   have ih:=yA hp (y::r) x h
   rw[jE z,ih,List.head?_cons,jE z,List.head?_cons]
def touched (p:P2) (s:Int) (w:List Int):List P2:=touch p s (-1) w
theorem Oy (w:List Int):(touched p s w).length<=4*joins p w:=Bu w _
theorem Im (hq:q.1≠ -1) (w:List Int):jy q (-1::w)=jy q w:=by
 rw[jE]
 cases w with
 |nil=>simp
 |cons x w=>rw[List.head?_cons,lH,if_neg (fun e=>hq e.1.symm)];omega
theorem KO (hp:q≠p) (hq:q.1≠ -1) (w:List Int) (h:q∉touched p s w):jy q (mI p s w)=jy q w:=by
 have:=yA hp w (-1) h
 rwa[Im hq,Im hq] at this
end
end Go.Proofs.YtilpincgjlclpaaGreat.jL
end
