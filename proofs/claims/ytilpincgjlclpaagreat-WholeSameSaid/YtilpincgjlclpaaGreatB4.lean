import Derived.Ground.Names2Prog
import Derived.Shelf.Bits.Mul64
import Derived.Shelf.Small.Strs
import Derived.Test.YtilpincgjlclpaaGreatProg
import Derived.Test.YtilpincgjlclpaaGreatB3
set_option linter.unusedVariables false
set_option linter.unusedSimpArgs false
section
namespace Go.Proofs.YtilpincgjlclpaaGreat.Pr
open Go.RowKit Go.Proofs.ae.au Go.Proofs.ae.aZ Go.Proofs.ae.bE
attribute [local go_sem] bQ min2_int cB min_two max_three min_three max_four min_four
def cmp_Compare_int.f (a0:Int) (a1:Int):Option (Int):=(cmp_isNaN_int.f a0).bind fun t257=>((cmp_isNaN_int.f a1).bind fun t258=>(if t257=true then(if t258=true then(some 0) else(some (-1))) else(if t258=true then(some 1) else(if a0<a1 then(some (-1)) else(if a0>a1 then(some 1) else(some 0))))))
set_option maxHeartbeats 8000000 in
set_option maxRecDepth 100000 in
theorem cmp_Compare_int.calls (a0:Int) (a1:Int) (r:Int) (w:World) (h:cmp_Compare_int.f a0 a1=some r):
  Calls Tryz.prog 132 #[.int .i64 a0,.int .i64 a1] w fun e w'=>e= .returned (.int .i64 r)/\aJ w w':=by
 have H:((cmp_isNaN_int.f a0).bind fun t257=>((cmp_isNaN_int.f a1).bind fun t258=>(if t257=true then(if t258=true then(some 0) else(some (-1))) else(if t258=true then(some 1) else(if a0<a1 then(some (-1)) else(if a0>a1 then(some 1) else(some 0)))))))=some r:=h
 clear h
 replace H:=Option.bind_eq_some_iff.mp H
 obtain⟨t257,RX,H⟩:=H
 replace H:((cmp_isNaN_int.f a1).bind fun t258=>(if t257=true then(if t258=true then(some 0) else(some (-1))) else(if t258=true then(some 1) else(if a0<a1 then(some (-1)) else(if a0>a1 then(some 1) else(some 0))))))=some r:=H
 have A3:=ai.mk RX
 clear RX
 replace H:=Option.bind_eq_some_iff.mp H
 obtain⟨t258,GA,H⟩:=H
 replace H:(if t257=true then(if t258=true then(some 0) else(some (-1))) else(if t258=true then(some 1) else(if a0<a1 then(some (-1)) else(if a0>a1 then(some 1) else(some 0)))))=some r:=H
 have A4:=ai.mk GA
 clear GA
 by_cases c5:t257=true
 ·subst c5
  have H1:(if t258=true then(some 0) else(some (-1)))=some r:=by rw[if_pos rfl] at H;exact H
  clear H
  have H:=H1
  clear H1
  by_cases c6:t258=true
  ·subst c6
   have H1:(some 0)=some r:=by rw[if_pos rfl] at H;exact H
   clear H
   have H:=H1
   clear H1
   obtain rfl:=Option.some.inj H
   go_enter Tryz.func132,Tryz.ntmps132
   go_wp2_with (first|((with_reducible refine bL (f:=160) rfl ?_);refine eQ (some 8) rfl rfl Tryz.func160 (by kernel_rfl) rfl #[.int .i64 a0] rfl (by(try simp only[List.map_toArray,List.map_cons,List.map_nil]);first|done|rfl|(simp only[List.length_drop,List.length_take];rfl)) ?_;(with_reducible refine(cmp_isNaN_int.calls a0 true _ A3.out).mono ?_);rintro e w' ⟨rfl,⟨nd,rfl⟩⟩;refine⟨_,rfl,?_⟩)|((with_reducible refine bL (f:=160) rfl ?_);refine eQ (some 10) rfl rfl Tryz.func160 (by kernel_rfl) rfl #[.int .i64 a1] rfl (by(try simp only[List.map_toArray,List.map_cons,List.map_nil]);first|done|rfl|(simp only[List.length_drop,List.length_take];rfl)) ?_;(with_reducible refine(cmp_isNaN_int.calls a1 true _ A4.out).mono ?_);rintro e w' ⟨rfl,⟨nd,rfl⟩⟩;refine⟨_,rfl,?_⟩))
   go_ret
   exact⟨by first|rfl|(simp;done)|(simp[*];done),by repeat(first|exact aJ.refl _|apply aJ.step)⟩
  ·replace c6:=Bool.eq_false_iff.mpr c6
   subst c6
   have H1:(some (-1))=some r:=by rw[if_neg (show¬(false=true) by decide)] at H;exact H
   clear H
   have H:=H1
   clear H1
   obtain rfl:=Option.some.inj H
   go_enter Tryz.func132,Tryz.ntmps132
   go_wp2_with (first|((with_reducible refine bL (f:=160) rfl ?_);refine eQ (some 8) rfl rfl Tryz.func160 (by kernel_rfl) rfl #[.int .i64 a0] rfl (by(try simp only[List.map_toArray,List.map_cons,List.map_nil]);first|done|rfl|(simp only[List.length_drop,List.length_take];rfl)) ?_;(with_reducible refine(cmp_isNaN_int.calls a0 true _ A3.out).mono ?_);rintro e w' ⟨rfl,⟨nd,rfl⟩⟩;refine⟨_,rfl,?_⟩)|((with_reducible refine bL (f:=160) rfl ?_);refine eQ (some 10) rfl rfl Tryz.func160 (by kernel_rfl) rfl #[.int .i64 a1] rfl (by(try simp only[List.map_toArray,List.map_cons,List.map_nil]);first|done|rfl|(simp only[List.length_drop,List.length_take];rfl)) ?_;(with_reducible refine(cmp_isNaN_int.calls a1 false _ A4.out).mono ?_);rintro e w' ⟨rfl,⟨nd,rfl⟩⟩;refine⟨_,rfl,?_⟩))
   go_ret
   exact⟨by first|rfl|(simp;done)|(simp[*];done),by repeat(first|exact aJ.refl _|apply aJ.step)⟩
 ·replace c5:=Bool.eq_false_iff.mpr c5
  subst c5
  have H1:(if t258=true then(some 1) else(if a0<a1 then(some (-1)) else(if a0>a1 then(some 1) else(some 0))))=some r:=by rw[if_neg (show¬(false=true) by decide)] at H;exact H
  clear H
  have H:=H1
  clear H1
  by_cases c7:t258=true
  ·subst c7
   have H1:(some 1)=some r:=by rw[if_pos rfl] at H;exact H
   clear H
   have H:=H1
   clear H1
   obtain rfl:=Option.some.inj H
   go_enter Tryz.func132,Tryz.ntmps132
   go_wp2_with (first|((with_reducible refine bL (f:=160) rfl ?_);refine eQ (some 8) rfl rfl Tryz.func160 (by kernel_rfl) rfl #[.int .i64 a0] rfl (by(try simp only[List.map_toArray,List.map_cons,List.map_nil]);first|done|rfl|(simp only[List.length_drop,List.length_take];rfl)) ?_;(with_reducible refine(cmp_isNaN_int.calls a0 false _ A3.out).mono ?_);rintro e w' ⟨rfl,⟨nd,rfl⟩⟩;refine⟨_,rfl,?_⟩)|((with_reducible refine bL (f:=160) rfl ?_);refine eQ (some 10) rfl rfl Tryz.func160 (by kernel_rfl) rfl #[.int .i64 a1] rfl (by(try simp only[List.map_toArray,List.map_cons,List.map_nil]);first|done|rfl|(simp only[List.length_drop,List.length_take];rfl)) ?_;(with_reducible refine(cmp_isNaN_int.calls a1 true _ A4.out).mono ?_);rintro e w' ⟨rfl,⟨nd,rfl⟩⟩;refine⟨_,rfl,?_⟩))
   go_ret
   exact⟨by first|rfl|(simp;done)|(simp[*];done),by repeat(first|exact aJ.refl _|apply aJ.step)⟩
  ·replace c7:=Bool.eq_false_iff.mpr c7
   subst c7
   have H1:(if a0<a1 then(some (-1)) else(if a0>a1 then(some 1) else(some 0)))=some r:=by rw[if_neg (show¬(false=true) by decide)] at H;exact H
   clear H
   have H:=H1
   clear H1
   by_cases c8:a0<a1
   ·rw[if_pos c8] at H
    have qN:decide (a0<a1)=true:=decide_eq_true c8
    clear c8
    obtain rfl:=Option.some.inj H
    go_enter Tryz.func132,Tryz.ntmps132
    go_wp2_with (first|((with_reducible refine bL (f:=160) rfl ?_);refine eQ (some 8) rfl rfl Tryz.func160 (by kernel_rfl) rfl #[.int .i64 a0] rfl (by(try simp only[List.map_toArray,List.map_cons,List.map_nil]);first|done|rfl|(simp only[List.length_drop,List.length_take];rfl)) ?_;(with_reducible refine(cmp_isNaN_int.calls a0 false _ A3.out).mono ?_);rintro e w' ⟨rfl,⟨nd,rfl⟩⟩;refine⟨_,rfl,?_⟩)|((with_reducible refine bL (f:=160) rfl ?_);refine eQ (some 10) rfl rfl Tryz.func160 (by kernel_rfl) rfl #[.int .i64 a1] rfl (by(try simp only[List.map_toArray,List.map_cons,List.map_nil]);first|done|rfl|(simp only[List.length_drop,List.length_take];rfl)) ?_;(with_reducible refine(cmp_isNaN_int.calls a1 false _ A4.out).mono ?_);rintro e w' ⟨rfl,⟨nd,rfl⟩⟩;refine⟨_,rfl,?_⟩))
    go_ret
    exact⟨by first|rfl|(simp;done)|(simp[*];done),by repeat(first|exact aJ.refl _|apply aJ.step)⟩
   ·rw[if_neg c8] at H
    have qN:decide (a0<a1)=false:=decide_eq_false c8
    clear c8
    by_cases c9:a0>a1
    ·rw[if_pos c9] at H
     have qx:decide (a1<a0)=true:=decide_eq_true c9
     clear c9
     obtain rfl:=Option.some.inj H
     go_enter Tryz.func132,Tryz.ntmps132
     go_wp2_with (first|((with_reducible refine bL (f:=160) rfl ?_);refine eQ (some 8) rfl rfl Tryz.func160 (by kernel_rfl) rfl #[.int .i64 a0] rfl (by(try simp only[List.map_toArray,List.map_cons,List.map_nil]);first|done|rfl|(simp only[List.length_drop,List.length_take];rfl)) ?_;(with_reducible refine(cmp_isNaN_int.calls a0 false _ A3.out).mono ?_);rintro e w' ⟨rfl,⟨nd,rfl⟩⟩;refine⟨_,rfl,?_⟩)|((with_reducible refine bL (f:=160) rfl ?_);refine eQ (some 10) rfl rfl Tryz.func160 (by kernel_rfl) rfl #[.int .i64 a1] rfl (by(try simp only[List.map_toArray,List.map_cons,List.map_nil]);first|done|rfl|(simp only[List.length_drop,List.length_take];rfl)) ?_;(with_reducible refine(cmp_isNaN_int.calls a1 false _ A4.out).mono ?_);rintro e w' ⟨rfl,⟨nd,rfl⟩⟩;refine⟨_,rfl,?_⟩))
     go_ret
     exact⟨by first|rfl|(simp;done)|(simp[*];done),by repeat(first|exact aJ.refl _|apply aJ.step)⟩
    ·rw[if_neg c9] at H
     have qx:decide (a1<a0)=false:=decide_eq_false c9
     clear c9
     obtain rfl:=Option.some.inj H
     go_enter Tryz.func132,Tryz.ntmps132
     go_wp2_with (first|((with_reducible refine bL (f:=160) rfl ?_);refine eQ (some 8) rfl rfl Tryz.func160 (by kernel_rfl) rfl #[.int .i64 a0] rfl (by(try simp only[List.map_toArray,List.map_cons,List.map_nil]);first|done|rfl|(simp only[List.length_drop,List.length_take];rfl)) ?_;(with_reducible refine(cmp_isNaN_int.calls a0 false _ A3.out).mono ?_);rintro e w' ⟨rfl,⟨nd,rfl⟩⟩;refine⟨_,rfl,?_⟩)|((with_reducible refine bL (f:=160) rfl ?_);refine eQ (some 10) rfl rfl Tryz.func160 (by kernel_rfl) rfl #[.int .i64 a1] rfl (by(try simp only[List.map_toArray,List.map_cons,List.map_nil]);first|done|rfl|(simp only[List.length_drop,List.length_take];rfl)) ?_;(with_reducible refine(cmp_isNaN_int.calls a1 false _ A4.out).mono ?_);rintro e w' ⟨rfl,⟨nd,rfl⟩⟩;refine⟨_,rfl,?_⟩))
     go_ret
     exact⟨by first|rfl|(simp;done)|(simp[*];done),by repeat(first|exact aJ.refl _|apply aJ.step)⟩
end Go.Proofs.YtilpincgjlclpaaGreat.Pr
end
section
namespace Go.Proofs.YtilpincgjlclpaaGreat.Pr
open Go.RowKit Go.Proofs.ae.au Go.Proofs.ae.aZ Go.Proofs.ae.bE
attribute [local go_sem] bQ min2_int cB min_two max_three min_three max_four min_four
def cu.f (a0:Int):Option (Bool):=some (decide (a0>=0))
set_option maxHeartbeats 8000000 in
set_option maxRecDepth 100000 in
theorem cu.calls (a0:Int) (r:Bool) (w:World) (h:cu.f a0=some r):
  Calls Tryz.prog 99 #[.int .i64 a0] w fun e w'=>e= .returned (.bool r)/\aJ w w':=by
 have H:(some (decide (a0>=0)))=some r:=h
 clear h
 obtain rfl:=Option.some.inj H
 go_enter Tryz.func99,Tryz.ntmps99
 go_wp2
 go_ret
 exact⟨by first|rfl|(simp;done)|(simp[*];done),by repeat(first|exact aJ.refl _|apply aJ.step)⟩
end Go.Proofs.YtilpincgjlclpaaGreat.Pr
end
section
namespace Go.Proofs
open Go.Shelf
def Tryz.Nr:Go.Shelf.Ren:=⟨fun|137=>161|217=>187|266=>215|n=>n,fun|9=>9|5=>5|3=>3|n=>n,fun|n=>n⟩
theorem Tryz.lays137:Go.Proofs.Lays.n137 Tryz.prog Tryz.Nr:={
 mixed:=by kernel_rfl
 f137:=Tryz.func161.trans (congrArg some (by kernel_rfl))
 f217:=Tryz.func187.trans (congrArg some (by kernel_rfl))
 f266:=Tryz.func215.trans (congrArg some (by kernel_rfl))
 t3:=Tryz.underlying3
 a3:=Tryz.isAgg3
 z3:=Tryz.sizeOf3
 v3:=Tryz.zeroValue3
 t5:=Tryz.underlying5
 a5:=Tryz.isAgg5
 z5:=Tryz.sizeOf5
 v5:=Tryz.zeroValue5
 t9:=Tryz.underlying9
 a9:=Tryz.isAgg9
 z9:=Tryz.sizeOf9
 v9:=Tryz.zeroValue9}
open Go.RowKit in
theorem Tryz.strings_IndexByte (s:ByteArray) (c:Int) (w:World):
  Calls Tryz.prog 161 #[.string s,.int .u8 c] w fun e w'=>e= .returned (.int .i64 (Lib.indexByte s.data.toList c.toNat.toUInt8))/\w'=w:=Any.strings_IndexByte Tryz.lays137 s c w
def Tryz.Ns:Go.Shelf.Ren:=⟨fun|264=>109|n=>n,fun|53=>189|46=>186|n=>n,fun|n=>n⟩
theorem Tryz.lays264:Go.Proofs.Lays.n264 Tryz.prog Tryz.Ns:={
 mixed:=by kernel_rfl
 f264:=Tryz.func109.trans (congrArg some (by kernel_rfl))
 t46:=Tryz.underlying186
 a46:=Tryz.isAgg186
 z46:=Tryz.sizeOf186
 v46:=Tryz.zeroValue186
 t53:=Tryz.underlying189
 a53:=Tryz.isAgg189
 z53:=Tryz.sizeOf189
 v53:=Tryz.zeroValue189}
open Go.RowKit Go.Lib in
theorem Tryz.bits_Mul64 (x y:Nat) (hx:x<18446744073709551616) (hy:y<18446744073709551616) (w:World):
  Calls Tryz.prog 109 #[.int .u64 x,.int .u64 y] w fun e w'=>e= .returned (.tuple #[.int .u64 ((x*y/18446744073709551616:Nat):Int),.int .u64 ((x*y%18446744073709551616:Nat):Int)])/\w'=w:=Any.bits_Mul64 Tryz.lays264 x y hx hy w
end Go.Proofs
end
section
namespace Go.Proofs.YtilpincgjlclpaaGreat.Pr
open Go.RowKit Go.Proofs.ae.au Go.Proofs.ae.aZ Go.Proofs.ae.bE
def bits_Mul64.f (a0 a1:Int):Option (Int×Int):=
 if 0<=a0/\a0<18446744073709551616/\0<=a1/\a1<18446744073709551616 then some (a0*a1/18446744073709551616,a0*a1%18446744073709551616) else none
theorem bits_Mul64.calls (a0:Int) (a1:Int) (r1:Int) (r2:Int) (w:World) (h:bits_Mul64.f a0 a1=some (r1,r2)):
  Calls Tryz.prog 109 #[.int .u64 a0,.int .u64 a1] w fun e w'=>e= .returned (.tuple #[.int .u64 r1,.int .u64 r2])/\aJ w w':=by
 unfold bits_Mul64.f at h
 split at h
 ·rename_i hc
  obtain⟨h0,h1,h2,h3⟩:=hc
  cases h
  obtain⟨m,rfl⟩:=Int.eq_ofNat_of_zero_le h0
  obtain⟨n,rfl⟩:=Int.eq_ofNat_of_zero_le h2
  refine(Tryz.bits_Mul64 m n (by omega) (by omega) w).mono ?_
  rintro e w' ⟨rfl,rfl⟩
  refine⟨?_,aJ.refl _⟩
  have e1:(((m*n/18446744073709551616:Nat):Int))=(m:Int)*n/18446744073709551616:=by simp
  have e2:(((m*n%18446744073709551616:Nat):Int))=(m:Int)*n%18446744073709551616:=by simp
  rw[e1,e2]
 ·cases h
end Go.Proofs.YtilpincgjlclpaaGreat.Pr
end
section
namespace Go.Proofs.YtilpincgjlclpaaGreat.Pr
open Go.RowKit Go.Proofs.ae.au Go.Proofs.ae.aZ Go.Proofs.ae.bE
attribute [local go_sem] bQ min2_int cB min_two max_three min_three max_four min_four
def cZ.j0:Nat->Int->Int->Bool->Option (Int×Bool)
 |0,_,_,_=>none
 |k+1,x0,x1,x15=>if x15=true then(some (0,false)) else((bits_Mul64.f (IntKind.u64.wrap (x0)) (IntKind.u64.wrap (x1))).bind fun DJ=>(if DJ.1=0 then(if DJ.2>9223372036854775807 then(some (0,false)) else(some (wrap64 (DJ.2),true))) else(some (0,false))))
def cZ.f (k:Nat) (a0:Int) (a1:Int):Option (Int×Bool):=(cu.f a0).bind fun t213=>(if t213=true then((cu.f a1).bind fun t214=>(cZ.j0 k a0 a1 (!t214))) else(cZ.j0 k a0 a1 true))
set_option maxHeartbeats 8000000 in
set_option maxRecDepth 100000 in
theorem cZ.calls (k:Nat) (a0:Int) (a1:Int) (r1:Int) (r2:Bool) (w:World) (h:cZ.f k a0 a1=some (r1,r2)):
  Calls Tryz.prog 77 #[.int .i64 a0,.int .i64 a1] w fun e w'=>e= .returned (.tuple #[.int .i64 r1,.bool r2])/\aJ w w':=by
 have H:((cu.f a0).bind fun t213=>(if t213=true then((cu.f a1).bind fun t214=>(cZ.j0 k a0 a1 (!t214))) else(cZ.j0 k a0 a1 true)))=some (r1,r2):=h
 clear h
 have Ci:=ai.mk H
 clear H
 go_enter Tryz.func77,Tryz.ntmps77
 go_upto_region 1 with(fail)
 go_cut [15] (fun v15 wc=>∃(kq:Nat) (UB:Bool),v15= .bool UB/\ai (cZ.j0 kq a0 a1 UB=some (r1,r2))/\ai (kq<=k)/\aJ w wc)
 case first=>
  have H:=Ci.out
  clear Ci
  replace H:=Option.bind_eq_some_iff.mp H
  obtain⟨t213,GA,H⟩:=H
  replace H:(if t213=true then((cu.f a1).bind fun t214=>(cZ.j0 k a0 a1 (!t214))) else(cZ.j0 k a0 a1 true))=some (r1,r2):=H
  have A4:=ai.mk GA
  clear GA
  by_cases c5:t213=true
  ·subst c5
   have H1:((cu.f a1).bind fun t214=>(cZ.j0 k a0 a1 (!t214)))=some (r1,r2):=by rw[if_pos rfl] at H;exact H
   clear H
   have H:=H1
   clear H1
   replace H:=Option.bind_eq_some_iff.mp H
   obtain⟨t214,A60,H⟩:=H
   replace H:(cZ.j0 k a0 a1 (!t214))=some (r1,r2):=H
   have A6:=ai.mk A60
   clear A60
   have H':=ai.mk H
   clear H
   go_wp2_with (first|((with_reducible refine bL (f:=99) rfl ?_);refine eQ (some 9) rfl rfl Tryz.func99 (by kernel_rfl) rfl #[.int .i64 a0] rfl (by(try simp only[List.map_toArray,List.map_cons,List.map_nil]);first|done|rfl|(simp only[List.length_drop,List.length_take];rfl)) ?_;(with_reducible refine(cu.calls a0 true _ A4.out).mono ?_);rintro e w' ⟨rfl,⟨nd,rfl⟩⟩;refine⟨_,rfl,?_⟩)|(go_at_call 99;(with_reducible refine(cu.calls a1 t214 _ A6.out).mono ?_);rintro e w' ⟨rfl,⟨nd,rfl⟩⟩))
   go_meet
   case rel=>exact⟨_,(!t214),(by first|rfl|(simp;done)|(simp[*];done)),H',⟨by first|omega|exact Nat.le_refl _⟩,by repeat(first|exact aJ.refl _|apply aJ.step)⟩
  ·replace c5:=Bool.eq_false_iff.mpr c5
   subst c5
   have H1:(cZ.j0 k a0 a1 true)=some (r1,r2):=by rw[if_neg (show¬(false=true) by decide)] at H;exact H
   clear H
   have H:=H1
   clear H1
   have H':=ai.mk H
   clear H
   go_wp2_with (first|((with_reducible refine bL (f:=99) rfl ?_);refine eQ (some 9) rfl rfl Tryz.func99 (by kernel_rfl) rfl #[.int .i64 a0] rfl (by(try simp only[List.map_toArray,List.map_cons,List.map_nil]);first|done|rfl|(simp only[List.length_drop,List.length_take];rfl)) ?_;(with_reducible refine(cu.calls a0 false _ A4.out).mono ?_);rintro e w' ⟨rfl,⟨nd,rfl⟩⟩;refine⟨_,rfl,?_⟩))
   go_meet
   case rel=>exact⟨_,(true),(by first|rfl|(simp;done)|(simp[*];done)),H',⟨by first|omega|exact Nat.le_refl _⟩,by repeat(first|exact aJ.refl _|apply aJ.step)⟩
 case rest=>
  clear Ci
  try clear p2
  try clear c5
  obtain⟨kq,UB,rfl,HA,HJ2,⟨mc2,rfl⟩⟩:=hcut
  cases kq with
  |zero=>exact absurd HA.out (by simp[cZ.j0])
  |succ Nq=>
   have H:=HA.out
   clear HA
   simp only[cZ.j0] at H
   by_cases c7:UB=true
   ·subst c7
    have H1:(some (0,false))=some (r1,r2):=by rw[if_pos rfl] at H;exact H
    clear H
    have H:=H1
    clear H1
    simp only[Option.some.injEq,Prod.mk.injEq] at H
    obtain⟨rfl,rfl⟩:=H
    go_wp2
    go_ret2
    exact⟨by first|rfl|(simp;done)|(simp[*];done),by repeat(first|exact aJ.refl _|apply aJ.step)⟩
   ·replace c7:=Bool.eq_false_iff.mpr c7
    subst c7
    have H1:((bits_Mul64.f (IntKind.u64.wrap (a0)) (IntKind.u64.wrap (a1))).bind fun DJ=>(if DJ.1=0 then(if DJ.2>9223372036854775807 then(some (0,false)) else(some (wrap64 (DJ.2),true))) else(some (0,false))))=some (r1,r2):=by rw[if_neg (show¬(false=true) by decide)] at H;exact H
    clear H
    have H:=H1
    clear H1
    replace H:=Option.bind_eq_some_iff.mp H
    obtain⟨⟨t215,t216⟩,Xa,H⟩:=H
    replace H:(if t215=0 then(if t216>9223372036854775807 then(some (0,false)) else(some (wrap64 (t216),true))) else(some (0,false)))=some (r1,r2):=H
    have A8:=ai.mk Xa
    clear Xa
    by_cases c9:t215=0
    ·rw[if_pos c9] at H
     have qx:(t215==0)=true:=beq_iff_eq.mpr c9
     have Ve:(t215 != 0)=false:=bne_eq_false_iff_eq.mpr c9
     clear c9
     by_cases c10:t216>9223372036854775807
     ·rw[if_pos c10] at H
      have lU:decide (9223372036854775807<t216)=true:=decide_eq_true c10
      clear c10
      simp only[Option.some.injEq,Prod.mk.injEq] at H
      obtain⟨rfl,rfl⟩:=H
      go_wp2_with (first|((with_reducible refine bL (f:=109) rfl ?_);refine eQ (some 21) rfl rfl Tryz.func109 (by kernel_rfl) rfl #[.int .u64 (IntKind.u64.wrap (a0)),.int .u64 (IntKind.u64.wrap (a1))] rfl (by(try simp only[List.map_toArray,List.map_cons,List.map_nil]);first|done|rfl|(simp only[List.length_drop,List.length_take];rfl)) ?_;(with_reducible refine(bits_Mul64.calls (IntKind.u64.wrap (a0)) (IntKind.u64.wrap (a1)) t215 t216 _ A8.out).mono ?_);rintro e w' ⟨rfl,⟨nd,rfl⟩⟩;refine⟨_,rfl,?_⟩))
      go_ret2
      exact⟨by first|rfl|(simp;done)|(simp[*];done),by repeat(first|exact aJ.refl _|apply aJ.step)⟩
     ·rw[if_neg c10] at H
      have lU:decide (9223372036854775807<t216)=false:=decide_eq_false c10
      clear c10
      simp only[Option.some.injEq,Prod.mk.injEq] at H
      obtain⟨rfl,rfl⟩:=H
      go_wp2_with (first|((with_reducible refine bL (f:=109) rfl ?_);refine eQ (some 21) rfl rfl Tryz.func109 (by kernel_rfl) rfl #[.int .u64 (IntKind.u64.wrap (a0)),.int .u64 (IntKind.u64.wrap (a1))] rfl (by(try simp only[List.map_toArray,List.map_cons,List.map_nil]);first|done|rfl|(simp only[List.length_drop,List.length_take];rfl)) ?_;(with_reducible refine(bits_Mul64.calls (IntKind.u64.wrap (a0)) (IntKind.u64.wrap (a1)) t215 t216 _ A8.out).mono ?_);rintro e w' ⟨rfl,⟨nd,rfl⟩⟩;refine⟨_,rfl,?_⟩))
      go_ret2
      exact⟨by first|rfl|(simp;done)|(simp[*];done),by repeat(first|exact aJ.refl _|apply aJ.step)⟩
    ·rw[if_neg c9] at H
     have qx:(t215==0)=false:=beq_eq_false_iff_ne.mpr c9
     have Ve:(t215 != 0)=true:=bne_iff_ne.mpr c9
     simp only[Option.some.injEq,Prod.mk.injEq] at H
     obtain⟨rfl,rfl⟩:=H
     go_wp2_with (first|((with_reducible refine bL (f:=109) rfl ?_);refine eQ (some 21) rfl rfl Tryz.func109 (by kernel_rfl) rfl #[.int .u64 (IntKind.u64.wrap (a0)),.int .u64 (IntKind.u64.wrap (a1))] rfl (by(try simp only[List.map_toArray,List.map_cons,List.map_nil]);first|done|rfl|(simp only[List.length_drop,List.length_take];rfl)) ?_;(with_reducible refine(bits_Mul64.calls (IntKind.u64.wrap (a0)) (IntKind.u64.wrap (a1)) t215 t216 _ A8.out).mono ?_);rintro e w' ⟨rfl,⟨nd,rfl⟩⟩;refine⟨_,rfl,?_⟩))
     go_ret2
     exact⟨by first|rfl|(simp;done)|(simp[*];done),by repeat(first|exact aJ.refl _|apply aJ.step)⟩
end Go.Proofs.YtilpincgjlclpaaGreat.Pr
end
