import Derived.BigQuiet
import Derived.BigRegion
import Derived.Deep.QuietTactic
import Derived.Test.YtilpincgjlclpaaGreatB10
import Derived.Test.YtilpincgjlclpaaGreatB20
import Derived.Test.YtilpincgjlclpaaGreatB7
set_option linter.unusedVariables false
set_option linter.unusedSimpArgs false
section
namespace Go.Proofs.YtilpincgjlclpaaGreat.Pr
open Go.RowKit Bs gJ Go.Proofs.ae.au Go.Proofs.ae
def fw.f (l0:List (List ByteArray)) (l1:List Int):Option (ByteArray×ByteArray×Int):=if qP l0 l1 then some (GK l0 l1) else none
end Go.Proofs.YtilpincgjlclpaaGreat.Pr
end
section
namespace Go.Proofs.YtilpincgjlclpaaGreat.Pr
open Go.RowKit Go.Proofs.ae.au Go.Proofs.ae.aZ Go.Proofs.ae.bE
attribute [local go_sem] bQ min2_int cB min_two max_three min_three max_four min_four
mutual
def aH.l0:Nat->List (dN)->Int->Option (Int×Int)
 |0,_,_=>none
 |k+1,x0,x4=>if x4<(x0.length:Int) then(if 0<=x4 then(if((aU x0 x4).f0).toList=([]:List UInt8) then(aH.j1 k x0 x4 true) else(aH.j1 k x0 x4 (decide (((aU x0 x4).f1)<1)))) else(none)) else((bg.f k x0).bind fun bt114=>(if bt114.2=true then(some ((-1),0)) else(some ((x0.length:Int),5))))
def aH.j1:Nat->List (dN)->Int->Bool->Option (Int×Int)
 |0,_,_,_=>none
 |k+1,x0,x4,x26=>if x26=true then(some (x4,1)) else(if 0<=x4 then(if x4<(x0.length:Int) then(if(((aU x0 x4).f0).size:Int)>65536 then(some (x4,4)) else(if x4>0 then(if 0<=(wrap64 (x4-1)) then(if(wrap64 (x4-1))<(x0.length:Int) then((bI.f ((aU x0 (wrap64 (x4-1))).f0) ((aU x0 x4).f0)).bind fun t121=>(if t121=true then(aH.l0 k x0 (wrap64 (x4+1))) else(some (x4,6)))) else(none)) else(none)) else(aH.l0 k x0 (wrap64 (x4+1))))) else(none)) else(none))
end
def aH.f (k:Nat) (l0:List (dN)):Option (Int×Int):=aH.l0 k l0 0
theorem aH.nG:∀k,(∀y0 y1,iM (aH.l0 k y0 y1) (aH.l0 (k+1) y0 y1))/\(∀y0 y1 y2,iM (aH.j1 k y0 y1 y2) (aH.j1 (k+1) y0 y1 y2))
 |0=>⟨fun _ _ r h=>by simp[aH.l0] at h,fun _ _ _ r h=>by simp[aH.j1] at h⟩
 |k+1=>by
  obtain⟨uy,ih1⟩:=aH.nG k
  refine⟨?_,?_⟩
  ·intro y0 y1
   unfold aH.l0
   repeat' first
   |(with_reducible exact uy _ _)
   |(with_reducible exact ih1 _ _ _)
   |(with_reducible exact bg.mono _ _)
   |(with_reducible exact iM.refl _)
   |(with_reducible exact iM.none _)
   |(with_reducible refine iM.ite ?_ ?_)
   |(with_reducible refine iM.bind ?_ (fun _=>?_))
   |exact uy _ _
   |exact ih1 _ _ _
   |exact bg.mono _ _
   |exact iM.none _
   |refine iM.ite ?_ ?_
   |refine iM.bind ?_ (fun _=>?_)
  ·intro y0 y1 y2
   unfold aH.j1
   repeat' first
   |(with_reducible exact uy _ _)
   |(with_reducible exact ih1 _ _ _)
   |(with_reducible exact bg.mono _ _)
   |(with_reducible exact iM.refl _)
   |(with_reducible exact iM.none _)
   |(with_reducible refine iM.ite ?_ ?_)
   |(with_reducible refine iM.bind ?_ (fun _=>?_))
   |exact uy _ _
   |exact ih1 _ _ _
   |exact bg.mono _ _
   |exact iM.none _
   |refine iM.ite ?_ ?_
   |refine iM.bind ?_ (fun _=>?_)
theorem aH.mono:∀a0 k,iM (aH.f k a0) (aH.f (k+1) a0):=by
 intro a0 k
 obtain⟨uy,ih1⟩:=aH.nG k
 unfold aH.f
 repeat' first
   |(with_reducible exact uy _ _)
   |(with_reducible exact ih1 _ _ _)
   |(with_reducible exact bg.mono _ _)
   |(with_reducible exact iM.refl _)
   |(with_reducible exact iM.none _)
   |(with_reducible refine iM.ite ?_ ?_)
   |(with_reducible refine iM.bind ?_ (fun _=>?_))
   |exact uy _ _
   |exact ih1 _ _ _
   |exact bg.mono _ _
   |exact iM.none _
   |refine iM.ite ?_ ?_
   |refine iM.bind ?_ (fun _=>?_)
end Go.Proofs.YtilpincgjlclpaaGreat.Pr
end
section
namespace Go.Proofs.YtilpincgjlclpaaGreat.uA
open Go.RowKit Pr Go.Proofs.ae.au Go.Proofs.ae.aZ
theorem wi (i:Nat) (h:i<9223372036854775807):wrap64 ((i:Int)+1)=((i+1:Nat):Int):=by unfold wrap64;omega
theorem jB (l:List dN) (i:Nat) (h:i<l.length):aU l (i:Int)=l[i]:=by
 unfold aU
 rw[Int.toNat_natCast,List.getD_eq_getElem?_getD,List.getElem?_eq_getElem h]
 rfl
theorem pz {n:Int} (h: -9223372036854775808<=n) (h':n<=9223372036854775807):wrap64 n=n:=by unfold wrap64;omega
def kK (a b:Int):Int×Bool:=if 0<=a/\0<=b/\a+b<=9223372036854775807 then(a+b,true) else(0,false)
def kT (a b:Int):Int×Bool:=if 0<=a/\0<=b/\a*b<=9223372036854775807 then(a*b,true) else(0,false)
theorem mQ {a b:Int} (ha: -9223372036854775808<=a/\a<=9223372036854775807) (hb: -9223372036854775808<=b/\b<=9223372036854775807):gV.f a b=some (kK a b):=by
 unfold gV.f cu.f kK
 simp only[Option.bind_some,decide_eq_true_eq]
 by_cases h1:0<=a
 ·by_cases h2:0<=b
  ·rw[if_pos h1,if_pos h2,pz (n:=9223372036854775807-b) (by omega) (by omega)]
   by_cases h3:a+b<=9223372036854775807
   ·rw[if_neg (by omega),pz (by omega) (by omega),if_pos ⟨h1,h2,h3⟩]
   ·rw[if_pos (by omega),if_neg (by omega)]
  ·rw[if_pos h1,if_neg h2,if_neg (by omega)]
 ·rw[if_neg h1,if_neg (by omega)]
theorem KH {a b:Int} (ha: -9223372036854775808<=a/\a<=9223372036854775807) (hb: -9223372036854775808<=b/\b<=9223372036854775807):cK.f a b=some (kK a b):=by
 unfold cK.f kK
 by_cases h1:a<0
 ·rw[if_pos h1,if_neg (by omega)]
 ·by_cases h2:b<0
  ·rw[if_neg h1,if_pos h2,if_neg (by omega)]
  ·rw[if_neg h1,if_neg h2]
   by_cases h3:a+b<=9223372036854775807
   ·rw[pz (by omega) (by omega),if_neg (by omega),if_pos ⟨by omega,by omega,h3⟩]
   ·rw[if_pos (by unfold wrap64;omega),if_neg (by omega)]
theorem wB {n:Int} (h0:0<=n) (h1:n<=9223372036854775807):IntKind.u64.wrap n=n:=by
 simp[IntKind.wrap,IntKind.bits,IntKind.signed]
 omega
theorem Bf {a b:Int} (ha:0<=a/\a<=9223372036854775807) (hb:0<=b/\b<=9223372036854775807):0<=a*b/\a*b<=9223372036854775807*9223372036854775807:=
 ⟨Int.mul_nonneg ha.1 hb.1,Int.mul_le_mul ha.2 hb.2 hb.1 (by omega)⟩
theorem mR {k:Nat} (hk:1<=k) {a b:Int} (ha: -9223372036854775808<=a/\a<=9223372036854775807) (hb: -9223372036854775808<=b/\b<=9223372036854775807):cZ.f k a b=some (kT a b):=by
 obtain⟨k,rfl⟩:∃m,k=m+1:=⟨k-1,by omega⟩
 unfold cZ.f cu.f kT
 simp only[Option.bind_some,decide_eq_true_eq]
 by_cases h1:0<=a
 ·rw[if_pos h1]
  by_cases h2:0<=b
  ·have hm:=Bf ⟨h1,ha.2⟩ ⟨h2,hb.2⟩
   simp only[cZ.j0,h2,ge_iff_le,decide_true,Bool.not_true,Bool.false_eq_true,if_false,true_and,h1]
   rw[wB h1 ha.2,wB h2 hb.2]
   unfold bits_Mul64.f
   rw[if_pos (by omega)]
   simp only[Option.bind_some]
   by_cases h3:a*b<=9223372036854775807
   ·rw[if_pos (by omega),if_neg (by omega),if_pos h3,pz (by omega) (by omega)]
    congr 2
    omega
   ·rw[if_neg h3]
    by_cases h4:a*b/18446744073709551616=0
    ·rw[if_pos h4,if_pos (by omega)]
    ·rw[if_neg h4]
  ·simp only[cZ.j0,h2,ge_iff_le,decide_false,Bool.not_false,if_true,false_and,and_false,if_false]
 ·rw[if_neg h1,if_neg (by omega)]
  simp only[cZ.j0,if_true]
theorem KI {a b:Int} (ha: -9223372036854775808<=a/\a<=9223372036854775807) (hb: -9223372036854775808<=b/\b<=9223372036854775807):dY.f a b=some (kT a b):=by
 unfold dY.f kT
 by_cases h1:a<0
 ·rw[if_pos h1,if_neg (by omega)]
 ·rw[if_neg h1]
  by_cases h2:b<0
  ·rw[if_pos h2,if_neg (by omega)]
  ·rw[if_neg h2]
   by_cases h3:a*b<=9223372036854775807
   ·have hn:¬(0<b/\9223372036854775807/b<a):=by
     rintro⟨hb0,hq⟩
     have:=(Int.ediv_lt_iff_lt_mul hb0).1 hq
     omega
    rw[if_neg hn,if_pos ⟨by omega,by omega,h3⟩,pz _ h3]
    have:=Int.mul_nonneg (a:=a) (b:=b) (by omega) (by omega)
    omega
   ·have hb0:0<b:=by
     rcases Int.lt_or_eq_of_le (show 0<=b by omega) with h|h
     ·exact h
     ·rw[<-h] at h3
      simp at h3
    have hq:9223372036854775807/b<a:=by
     rw[Int.ediv_lt_iff_lt_mul hb0]
     omega
    rw[if_pos ⟨hb0,hq⟩,if_neg (by omega)]
theorem Pp {a b:Int}: -9223372036854775808<=(kK a b).1/\(kK a b).1<=9223372036854775807:=by
 unfold kK
 split
 ·simp only;omega
 ·simp only;omega
theorem EA {a b:Int}:0<=(kT a b).1/\(kT a b).1<=9223372036854775807:=by
 unfold kT
 split
 ·rename_i h
  exact⟨Int.mul_nonneg h.1 h.2.1,h.2.2⟩
 ·simp only;omega
def oz (x:Int):Prop:= -9223372036854775808<=x/\x<=9223372036854775807
theorem Sm {a b:Int}:oz (kK a b).1:=Pp
theorem TM {a b:Int}:oz (kT a b).1:=⟨by have:=(EA (a:=a) (b:=b)).1;omega,EA.2⟩
def zY:Int->List Int->Int×Bool
 |acc,[]=>(acc,true)
 |acc,x::r=>if(kK acc x).2=true then zY (kK acc x).1 r else(0,false)
theorem Rx (l:List Int) (i:Nat):rd l (i:Int)=l.getD i 0:=by unfold rd;rw[Int.toNat_natCast]
theorem qZ (l:List Int) (i:Nat) (h:i<l.length):l.drop i=l.getD i 0::l.drop (i+1):=by
 rw[List.drop_eq_getElem_cons h]
 simp only[List.getD_eq_getElem?_getD,List.getElem?_eq_getElem h,Option.getD_some]
theorem getD_in {l:List Int} (h:∀x∈l,oz x) (i:Nat):oz (l.getD i 0):=by
 rw[List.getD_eq_getElem?_getD]
 cases hx:l[i]? with
 |none=>exact⟨by simp,by simp⟩
 |some x=>exact h x (List.mem_of_getElem? hx)
theorem IM (i:Nat) (h:i<=1000000):wrap64 ((i:Int)+1)=((i+1:Nat):Int):=by unfold wrap64;omega
theorem sum_l0 (l:List Int) (hl:l.length<=1000000) (hr:∀x∈l,oz x) (d:Nat):∀(k i:Nat) (acc:Int),l.length=i+d->d<k->oz acc->
  fJ.l0 k acc l (l.length:Int) (i:Int)=some (zY acc (l.drop i)):=by
 induction d with
 |zero=>
  intro k i acc hd hk ha
  obtain⟨k,rfl⟩:∃m,k=m+1:=⟨k-1,by omega⟩
  unfold fJ.l0
  rw[if_neg (by omega),List.drop_eq_nil_of_le (by omega)]
  rfl
 |succ d ih=>
  intro k i acc hd hk ha
  obtain⟨k,rfl⟩:∃m,k=m+1:=⟨k-1,by omega⟩
  unfold fJ.l0
  rw[if_pos (by omega),if_pos (by omega),if_pos (by omega),Rx,mQ ha (getD_in hr i),Option.bind_some,IM i (by omega),qZ l i (by omega)]
  unfold zY
  by_cases h:(kK acc (l.getD i 0)).2=true
  ·rw[if_pos h,if_pos h]
   exact ih k (i+1) _ (by omega) (by omega) Sm
  ·rw[if_neg h,if_neg h]
theorem DT (l:List Int) (hl:l.length<=1000000) (hr:∀x∈l,oz x) {k:Nat} (hk:l.length<k):fJ.f k l=some (zY 0 l):=by
 unfold fJ.f
 exact sum_l0 l hl hr l.length k 0 0 (by omega) hk ⟨by omega,by omega⟩
def iR:Int->List Int->List Int->Int×Bool
 |acc,x::r,y::s=>if(kT x y).2=true then(if(kK acc (kT x y).1).2=true then iR (kK acc (kT x y).1).1 r s else(0,false)) else(0,false)
 |acc,_,_=>(acc,true)
def dotv (a b:List Int):Int×Bool:=if a.length=b.length then iR 0 a b else(0,false)
def xN:List Int->List Int->Option (List Int)
 |x::r,y::s=>if(kT x y).2=true then(xN r s).map ((kT x y).1:: ·) else none
 |_,_=>some []
theorem GV:∀(a b:List Int) (acc:Int),(match xN a b with|some l=>zY acc l|none=>(0,false))=iR acc a b
 |[],_,acc=>by simp[xN,iR,zY]
 |_::_,[],acc=>by simp[xN,iR,zY]
 |x::r,y::s,acc=>by
  unfold xN iR
  by_cases h:(kT x y).2=true
  ·rw[if_pos h,if_pos h]
   have ih:=GV r s (kK acc (kT x y).1).1
   cases hp:xN r s with
   |none=>
    rw[hp] at ih
    simp only[Option.map_none]
    by_cases h2:(kK acc (kT x y).1).2=true
    ·rw[if_pos h2]
     exact ih
    ·rw[if_neg h2]
   |some l=>
    rw[hp] at ih
    simp only[Option.map_some,zY]
    by_cases h2:(kK acc (kT x y).1).2=true
    ·rw[if_pos h2,if_pos h2]
     exact ih
    ·rw[if_neg h2,if_neg h2]
  ·rw[if_neg h,if_neg h]
theorem cdot_l0 (a b:List Int) (he:a.length=b.length) (hl:a.length<=1000000) (ha:∀x∈a,oz x) (hb:∀x∈b,oz x) (d:Nat):∀(k i:Nat) (acc:List Int),a.length=i+d->a.length+d+1<k->acc.length<=i->(∀x∈acc,oz x)->
  fT.l0 k a b acc (a.length:Int) (i:Int)=some (match xN (a.drop i) (b.drop i) with|some l=>zY 0 (acc++l)|none=>(0,false)):=by
 induction d with
 |zero=>
  intro k i acc hd hk hacc hin
  obtain⟨k,rfl⟩:∃m,k=m+1:=⟨k-1,by omega⟩
  unfold fT.l0
  rw[if_neg (by omega),List.drop_eq_nil_of_le (by omega),DT acc (by omega) hin (by omega)]
  simp[xN]
 |succ d ih=>
  intro k i acc hd hk hacc hin
  obtain⟨k,rfl⟩:∃m,k=m+1:=⟨k-1,by omega⟩
  unfold fT.l0
  rw[if_pos (by omega),if_pos (by omega),if_pos (by omega),if_pos (by omega),Rx,Rx,mR (by omega) (getD_in ha i) (getD_in hb i),Option.bind_some,qZ a i (by omega),qZ b i (by omega)]
  unfold xN
  by_cases h:(kT (a.getD i 0) (b.getD i 0)).2=true
  ·rw[if_pos h,if_pos h,if_pos (by omega),IM i (by omega),ih k (i+1) _ (by omega) (by omega) (by rw[List.length_append];simp only[List.length_cons,List.length_nil];omega) (fun x hx=>by
    rcases List.mem_append.1 hx with hx|hx
    ·exact hin x hx
    ·rw[List.mem_singleton.1 hx]
     exact TM)]
   cases xN (a.drop (i+1)) (b.drop (i+1)) with
   |none=>rfl
   |some l=>
    simp only[Option.map_some]
    rw[List.append_assoc]
    rfl
  ·rw[if_neg h,if_neg h]
theorem DR (a b:List Int) (hl:a.length<=1000000) (ha:∀x∈a,oz x) (hb:∀x∈b,oz x) {k:Nat} (hk:a.length+a.length+1<k):fT.f k a b=some (dotv a b):=by
 unfold fT.f dotv
 by_cases h:a.length=b.length
 ·rw[if_pos (by omega),if_pos h]
  have:=cdot_l0 a b h hl ha hb a.length k 0 [] (by omega) hk (by simp) (by simp)
  rw[<-GV]
  simpa using this
 ·rw[if_neg (by omega),if_neg h]
def ql (x:dN):Int:=max ((x.f0.size:Int)-1) 0
def iJ (l:List dN):Prop:=l.length<=300/\∀x∈l,x.f0.size<=300/\oz x.f1
theorem ZY (x:dN) (h:x.f0.size<=300):oz (ql x):=by unfold oz ql;omega
theorem TU (a b:Int):mx a b=max a b:=by unfold mx;omega
theorem map_in1 {l:List dN} (h:iJ l):∀y∈l.map (·.f1),oz y:=by
 intro y hy
 obtain⟨x,hx,rfl⟩:=List.mem_map.1 hy
 exact(h.2 x hx).2
theorem map_in2 {l:List dN} (h:iJ l):∀y∈l.map ql,oz y:=by
 intro y hy
 obtain⟨x,hx,rfl⟩:=List.mem_map.1 hy
 exact ZY x (h.2 x hx).1
theorem pq (l:List dN) (h:iJ l) (k:Nat) (hk:1400<=k):eU.f k l=some (iR 0 (l.map (·.f1)) (l.map ql)):=by
 have hlen:=h.1
 have loop:∀m i k,i+m=l.length->m+1000<=k->eU.l0 k ((l.take i).map (·.f1)) ((l.take i).map ql) l (l.length:Int) (i:Int)=some (iR 0 (l.map (·.f1)) (l.map ql)):=by
  intro m
  induction m with
  |zero=>
   intro i k hi hk
   obtain⟨k,rfl⟩:∃k',k=k'+1:=⟨k-1,by omega⟩
   rw[eU.l0,if_neg (by omega),List.take_of_length_le (by omega),DR _ _ (by simp;omega) (map_in1 h) (map_in2 h) (by simp;omega),Option.bind_some,dotv,if_pos (by simp)]
  |succ m ih=>
   intro i k hi hk
   obtain⟨k,rfl⟩:∃k',k=k'+1:=⟨k-1,by omega⟩
   have hlt:i<l.length:=by omega
   have hsz:=(h.2 _ (List.getElem_mem hlt)).1
   have hw:wrap64 ((l[i].f0.size:Int)-1)=(l[i].f0.size:Int)-1:=by unfold wrap64;omega
   have:=ih (i+1) k (by omega) (by omega)
   rw[List.take_succ_eq_append_getElem hlt,List.map_append,List.map_append] at this
   rw[eU.l0,jB l i hlt,wi i (by omega),hw,TU,if_pos (by omega),if_pos (by omega),if_pos (by omega),if_pos (by simp;omega),if_pos (by simp;omega)]
   exact this
 have:=loop l.length 0 k (by omega) (by omega)
 simpa[eU.f] using this
theorem Fj (l:List dN) (h:iJ l) (k:Nat) (hk:1400<=k):bg.f k l=some (iR 0 (l.map (·.f1)) (l.map ql)):=by
 have hlen:=h.1
 have loop:∀m i (acc:Int) k,i+m=l.length->m+1<=k->oz acc->bg.l0 k l acc (i:Int)=some (iR acc ((l.drop i).map (·.f1)) ((l.drop i).map ql)):=by
  intro m
  induction m with
  |zero=>
   intro i acc k hi hk ha
   obtain⟨k,rfl⟩:∃k',k=k'+1:=⟨k-1,by omega⟩
   rw[bg.l0,if_neg (by omega),List.drop_of_length_le (by omega)]
   rfl
  |succ m ih=>
   intro i acc k hi hk ha
   obtain⟨k,rfl⟩:∃k',k=k'+1:=⟨k-1,by omega⟩
   have hlt:i<l.length:=by omega
   have hx:=h.2 _ (List.getElem_mem hlt)
   have hsz:=hx.1
   have hw:wrap64 ((l[i].f0.size:Int)-1)=(l[i].f0.size:Int)-1:=by unfold wrap64;omega
   have hp:mx 0 ((l[i].f0.size:Int)-1)=ql l[i]:=by rw[TU];unfold ql;omega
   rw[bg.l0,jB l i hlt,wi i (by omega),hw,hp,if_pos (by omega),if_pos (by omega),List.drop_eq_getElem_cons hlt,List.map_cons,List.map_cons,iR,KI hx.2 (ZY _ hx.1),Option.bind_some]
   by_cases h1:(kT l[i].f1 (ql l[i])).2=true
   ·rw[if_pos h1,if_pos h1,KH ha TM,Option.bind_some]
    by_cases h2:(kK acc (kT l[i].f1 (ql l[i])).1).2=true
    ·rw[if_pos h2,if_pos h2]
     exact ih (i+1) _ k (by omega) (by omega) Sm
    ·rw[if_neg h2,if_neg h2]
   ·rw[if_neg h1,if_neg h1]
 have:=loop l.length 0 0 k (by omega) (by omega) (by unfold oz;omega)
 simpa[bg.f] using this
theorem zC:∀(a b:List UInt8),dS a b=Op.bytesLess a b
 |[],[]=>rfl
 |[],_::_=>rfl
 |_::_,[]=>rfl
 |a::x,b::y=>by
  rw[dS,Op.bytesLess]
  by_cases h:a=b
  ·subst h
   have:¬a<a:=fun h2=>by have:a.toNat<a.toNat:=h2;omega
   simp[this,zC x y]
  ·simp[h]
def good:ByteArray->List dN->Bool
 |_,[]=>true
 |a,x::r=>if x.f0.toList=[] then false else if x.f1<1 then false else if Op.bytesLess a.toList x.f0.toList=true then good x.f0 r else false
def jN (d:Bool):ByteArray->List dN->Int
 |_,[]=>if d=true then 0 else 5
 |a,x::r=>if x.f0.toList=[] then 1 else if x.f1<1 then 1 else if Op.bytesLess a.toList x.f0.toList=true then jN d x.f0 r else 6
theorem jW {d:Bool}:∀{a:ByteArray} {l:List dN},jN d a l=0↔good a l=true/\d=true
 |_,[]=>by cases d<;>simp[jN,good]
 |a,x::r=>by
  have ih:=jW (d:=d) (a:=x.f0) (l:=r)
  rw[jN,good]
  split
  ·simp
  ·split
   ·simp
   ·split
    ·exact ih
    ·simp
theorem qa (l:List dN) (h:iJ l):∃p e,(∀k,3000<=k->dG.f k l=some (p,e))/\e=jN (iR 0 (l.map (·.f1)) (l.map ql)).2 ByteArray.empty l:=by
 have hlen:=h.1
 have loop:∀m i (a:ByteArray),i+m=l.length->∃p e,(∀k,m+1500<=k->dG.l0 k l a l (l.length:Int) (i:Int)=some (p,e))/\e=jN (iR 0 (l.map (·.f1)) (l.map ql)).2 a (l.drop i):=by
  intro m
  induction m with
  |zero=>
   intro i a hi
   rw[List.drop_of_length_le (by omega)]
   cases hd:(iR 0 (l.map (·.f1)) (l.map ql)).2 with
   |true=>
    refine⟨-1,0,fun k hk=>?_,by simp[jN]⟩
    obtain⟨k,rfl⟩:∃k',k=k'+1:=⟨k-1,by omega⟩
    rw[dG.l0,if_neg (by omega),pq l h k (by omega),Option.bind_some,if_pos hd]
   |false=>
    refine⟨(l.length:Int),5,fun k hk=>?_,by simp[jN]⟩
    obtain⟨k,rfl⟩:∃k',k=k'+1:=⟨k-1,by omega⟩
    rw[dG.l0,if_neg (by omega),pq l h k (by omega),Option.bind_some,if_neg (by rw[hd];simp)]
  |succ m ih=>
   intro i a hi
   have hlt:i<l.length:=by omega
   have hx:=h.2 _ (List.getElem_mem hlt)
   rw[List.drop_eq_getElem_cons hlt,jN]
   have step:∀k e,fD.f k a l[i].f0 l[i].f1=some e->dG.l0 (k+1) l a l (l.length:Int) (i:Int)=if e=0 then dG.l0 k l l[i].f0 l (l.length:Int) ((i+1:Nat):Int) else some ((i:Int),e):=by
    intro k e he
    rw[dG.l0,jB l i hlt,wi i (by omega),if_pos (by omega),if_pos (by omega),if_pos (by omega),he,Option.bind_some]
   by_cases h1:l[i].f0.toList=[]
   ·refine⟨i,1,fun k hk=>?_,by rw[if_pos h1]⟩
    obtain⟨k,rfl⟩:∃k',k=k'+1+1:=⟨k-2,by omega⟩
    rw[step (k+1) 1 (by rw[fD.f,if_pos h1,fD.j0,if_pos rfl]),if_neg (by decide)]
   ·rw[if_neg h1]
    by_cases h2:l[i].f1<1
    ·refine⟨i,1,fun k hk=>?_,by rw[if_pos h2]⟩
     obtain⟨k,rfl⟩:∃k',k=k'+1+1:=⟨k-2,by omega⟩
     rw[step (k+1) 1 (by rw[fD.f,if_neg h1,fD.j0,if_pos (by simpa using h2)]),if_neg (by decide)]
    ·rw[if_neg h2]
     have hs:¬((l[i].f0.size:Nat):Int)>65536:=by omega
     by_cases h3:Op.bytesLess a.toList l[i].f0.toList=true
     ·obtain⟨p,e,hk2,he⟩:=ih (i+1) l[i].f0 (by omega)
      refine⟨p,e,fun k hk=>?_,by rw[if_pos h3];exact he⟩
      obtain⟨k,rfl⟩:∃k',k=k'+1+1:=⟨k-2,by omega⟩
      rw[step (k+1) 0 (by rw[fD.f,if_neg h1,fD.j0,if_neg (by simpa using h2),if_neg hs,if_pos h3]),if_pos rfl]
      exact hk2 (k+1) (by omega)
     ·refine⟨i,6,fun k hk=>?_,by rw[if_neg h3]⟩
      obtain⟨k,rfl⟩:∃k',k=k'+1+1:=⟨k-2,by omega⟩
      rw[step (k+1) 6 (by rw[fD.f,if_neg h1,fD.j0,if_neg (by simpa using h2),if_neg hs,if_neg h3]),if_neg (by decide)]
 obtain⟨p,e,h1,h2⟩:=loop l.length 0 ByteArray.empty (by omega)
 exact⟨p,e,fun k hk=>h1 k (by omega),by simpa using h2⟩
theorem less_f {l:List dN} (h:iJ l) (i j:Nat) (hi:i<l.length) (hj:j<l.length):bI.f l[i].f0 l[j].f0=some (Op.bytesLess l[i].f0.toList l[j].f0.toList):=by
 have h1:=(h.2 _ (List.getElem_mem hi)).1
 have h2:=(h.2 _ (List.getElem_mem hj)).1
 rw[bI.f,if_pos ⟨by omega,by omega⟩,zC,ByteArray.toList_eq,ByteArray.toList_eq]
theorem rQ (l:List dN) (h:iJ l):∃p e,(∀k,3000<=k->aH.f k l=some (p,e))/\e=jN (iR 0 (l.map (·.f1)) (l.map ql)).2 ByteArray.empty l:=by
 have hlen:=h.1
 have loop:∀m i (a:ByteArray),i+m=l.length->((i=0/\a=ByteArray.empty)\/∃hp:i-1<l.length,0<i/\a=l[i-1].f0)->∃p e,(∀k,2*m+1500<=k->aH.l0 k l (i:Int)=some (p,e))/\e=jN (iR 0 (l.map (·.f1)) (l.map ql)).2 a (l.drop i):=by
  intro m
  induction m with
  |zero=>
   intro i a hi _
   rw[List.drop_of_length_le (by omega)]
   cases hd:(iR 0 (l.map (·.f1)) (l.map ql)).2 with
   |true=>
    refine⟨-1,0,fun k hk=>?_,by simp[jN]⟩
    obtain⟨k,rfl⟩:∃k',k=k'+1:=⟨k-1,by omega⟩
    rw[aH.l0,if_neg (by omega),Fj l h k (by omega),Option.bind_some,if_pos hd]
   |false=>
    refine⟨(l.length:Int),5,fun k hk=>?_,by simp[jN]⟩
    obtain⟨k,rfl⟩:∃k',k=k'+1:=⟨k-1,by omega⟩
    rw[aH.l0,if_neg (by omega),Fj l h k (by omega),Option.bind_some,if_neg (by rw[hd];simp)]
  |succ m ih=>
   intro i a hi ha
   have hlt:i<l.length:=by omega
   have hx:=h.2 _ (List.getElem_mem hlt)
   have hs:¬((l[i].f0.size:Nat):Int)>65536:=by omega
   rw[List.drop_eq_getElem_cons hlt,jN]
   by_cases h1:l[i].f0.toList=[]
   ·refine⟨i,1,fun k hk=>?_,by rw[if_pos h1]⟩
    obtain⟨k,rfl⟩:∃k',k=k'+1+1:=⟨k-2,by omega⟩
    rw[aH.l0,jB l i hlt,if_pos (by omega),if_pos (by omega),if_pos h1,aH.j1,if_pos rfl]
   ·rw[if_neg h1]
    by_cases h2:l[i].f1<1
    ·refine⟨i,1,fun k hk=>?_,by rw[if_pos h2]⟩
     obtain⟨k,rfl⟩:∃k',k=k'+1+1:=⟨k-2,by omega⟩
     rw[aH.l0,jB l i hlt,if_pos (by omega),if_pos (by omega),if_neg h1,aH.j1,if_pos (by simpa using h2)]
    ·rw[if_neg h2]
     have go:∀k,aH.l0 (k+1+1) l (i:Int)=if 0<i then(if Op.bytesLess a.toList l[i].f0.toList=true then aH.l0 k l ((i+1:Nat):Int) else some ((i:Int),6)) else aH.l0 k l ((i+1:Nat):Int):=by
      intro k
      rw[aH.l0,jB l i hlt,if_pos (by omega),if_pos (by omega),if_neg h1,aH.j1,if_neg (by simpa using h2),if_pos (by omega),if_pos (by omega),jB l i hlt,if_neg hs,wi i (by omega)]
      rcases ha with⟨h0,_⟩|⟨hp,h0,rfl⟩
      ·rw[if_neg (by omega),if_neg (by omega)]
      ·have hw:wrap64 ((i:Int)-1)=((i-1:Nat):Int):=by unfold wrap64;omega
       rw[if_pos (by omega),if_pos h0,hw,if_pos (by omega),if_pos (by omega),jB l (i-1) hp,less_f h (i-1) i hp hlt,Option.bind_some]
     obtain⟨p,e,hk2,he⟩:=ih (i+1) l[i].f0 (by omega) (.inr ⟨by simpa using hlt,by omega,by simp⟩)
     by_cases h3:Op.bytesLess a.toList l[i].f0.toList=true
     ·refine⟨p,e,fun k hk=>?_,by rw[if_pos h3];exact he⟩
      obtain⟨k,rfl⟩:∃k',k=k'+1+1:=⟨k-2,by omega⟩
      rw[go,if_pos h3]
      split<;>exact hk2 k (by omega)
     ·have hpos:0<i:=by
       rcases ha with⟨_,rfl⟩|⟨_,h0,_⟩
       ·exfalso
        apply h3
        rw[show ByteArray.empty.toList=[] from(by rw[ByteArray.toList_eq];rfl)]
        cases hl:l[i].f0.toList with
        |nil=>exact absurd hl h1
        |cons c r=>rfl
       ·exact h0
      refine⟨i,6,fun k hk=>?_,by rw[if_neg h3]⟩
      obtain⟨k,rfl⟩:∃k',k=k'+1+1:=⟨k-2,by omega⟩
      rw[go,if_pos hpos,if_neg h3]
 obtain⟨p,e,h1,h2⟩:=loop l.length 0 ByteArray.empty (by omega) (.inl ⟨rfl,rfl⟩)
 exact⟨p,e,fun k hk=>h1 k (by omega),by simpa using h2⟩
end Go.Proofs.YtilpincgjlclpaaGreat.uA
end
