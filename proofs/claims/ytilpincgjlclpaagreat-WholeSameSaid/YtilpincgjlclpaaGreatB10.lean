import Derived.ChangeArms
import Derived.ChangeShapes
import Derived.Deep.Slices
import Derived.Ground.Names2Prog
import Derived.Shelf.Slices.Clone
import Derived.Shelf.Strings.Builder1
import Derived.Test.YtilpincgjlclpaaGreatProg
import Derived.WideShapes
import Derived.Test.YtilpincgjlclpaaGreatB2
set_option linter.unusedVariables false
set_option linter.unusedSimpArgs false
section
namespace Go.Proofs.YtilpincgjlclpaaGreat.Pr
open Go.RowKit Go.Proofs.ae.au Go.Proofs.ae.aZ Go.Proofs.ae.bE
attribute [local go_sem] bQ min2_int cB min_two max_three min_three max_four min_four
def aG.l0:Nat->List ByteArray->List ByteArray->Int->ByteArray->ByteArray->Option (List ByteArray)
 |0,_,_,_,_,_=>none
 |k+1,x0,x5,x6,uf,ug=>if x6<(x0.length:Int) then(if(wrap64 (x6+1))<(x0.length:Int) then(if 0<=x6 then(if(dH ByteArray.empty x0 x6).toList=uf.toList then(if 0<=(wrap64 (x6+1)) then(if(dH ByteArray.empty x0 (wrap64 (x6+1))).toList=ug.toList then(if uf.size+ug.size<=9223372036854775807 then(if x5.length<8796093022208 then(aG.l0 k x0 (x5++[uf++ug]) (wrap64 (x6+2)) uf ug) else(none)) else(none)) else(if x5.length<8796093022208 then(aG.l0 k x0 (x5++[dH ByteArray.empty x0 x6]) (wrap64 (x6+1)) uf ug) else(none))) else(none)) else(if x5.length<8796093022208 then(aG.l0 k x0 (x5++[dH ByteArray.empty x0 x6]) (wrap64 (x6+1)) uf ug) else(none))) else(none)) else(if 0<=x6 then(if x5.length<8796093022208 then(aG.l0 k x0 (x5++[dH ByteArray.empty x0 x6]) (wrap64 (x6+1)) uf ug) else(none)) else(none))) else(some x5)
def aG.f (k:Nat) (l0:List ByteArray) (bz:ByteArray) (bD:ByteArray):Option (List ByteArray):=aG.l0 k l0 ([]:List ByteArray) 0 bz bD
theorem aG.nG:∀k,(∀y0 y1 y2 y3 y4,iM (aG.l0 k y0 y1 y2 y3 y4) (aG.l0 (k+1) y0 y1 y2 y3 y4))
 |0=>fun _ _ _ _ _ r h=>by simp[aG.l0] at h
 |k+1=>by
  have uy:=aG.nG k
  ·intro y0 y1 y2 y3 y4
   unfold aG.l0
   repeat' first
   |(with_reducible exact uy _ _ _ _ _)
   |(with_reducible exact iM.refl _)
   |(with_reducible exact iM.none _)
   |(with_reducible refine iM.ite ?_ ?_)
   |(with_reducible refine iM.bind ?_ (fun _=>?_))
   |exact uy _ _ _ _ _
   |exact iM.none _
   |refine iM.ite ?_ ?_
   |refine iM.bind ?_ (fun _=>?_)
theorem aG.mono:∀a0 a1 a2 k,iM (aG.f k a0 a1 a2) (aG.f (k+1) a0 a1 a2):=by
 intro a0 a1 a2 k
 have uy:=aG.nG k
 unfold aG.f
 repeat' first
   |(with_reducible exact uy _ _ _ _ _)
   |(with_reducible exact iM.refl _)
   |(with_reducible exact iM.none _)
   |(with_reducible refine iM.ite ?_ ?_)
   |(with_reducible refine iM.bind ?_ (fun _=>?_))
   |exact uy _ _ _ _ _
   |exact iM.none _
   |refine iM.ite ?_ ?_
   |refine iM.bind ?_ (fun _=>?_)
end Go.Proofs.YtilpincgjlclpaaGreat.Pr
end
section
namespace Go.Proofs.YtilpincgjlclpaaGreat.Pr
open Go.RowKit Go.Proofs.ae.au Go.Proofs.ae.aZ Go.Proofs.ae.bE
attribute [local go_sem] bQ min2_int cB min_two max_three min_three max_four min_four
def aR.l0:Nat->ByteArray->List ByteArray->Int->Option (List ByteArray)
 |0,_,_,_=>none
 |k+1,x0,x3,x4=>if x4<(x0.size:Int) then(if 0<=x4 then(if x4<=(wrap64 (x4+1)) then(if(wrap64 (x4+1))<=(x0.size:Int) then(if x3.length<8796093022208 then(aR.l0 k x0 (x3++[x0.extract (x4:Int).toNat ((wrap64 (x4+1)):Int).toNat]) (wrap64 (x4+1))) else(none)) else(none)) else(none)) else(none)) else(some x3)
def aR.f (k:Nat) (a0:ByteArray):Option (List ByteArray):=aR.l0 k a0 ([]:List ByteArray) 0
theorem aR.nG:∀k,(∀y0 y1 y2,iM (aR.l0 k y0 y1 y2) (aR.l0 (k+1) y0 y1 y2))
 |0=>fun _ _ _ r h=>by simp[aR.l0] at h
 |k+1=>by
  have uy:=aR.nG k
  ·intro y0 y1 y2
   unfold aR.l0
   repeat' first
   |(with_reducible exact uy _ _ _)
   |(with_reducible exact iM.refl _)
   |(with_reducible exact iM.none _)
   |(with_reducible refine iM.ite ?_ ?_)
   |(with_reducible refine iM.bind ?_ (fun _=>?_))
   |exact uy _ _ _
   |exact iM.none _
   |refine iM.ite ?_ ?_
   |refine iM.bind ?_ (fun _=>?_)
theorem aR.mono:∀a0 k,iM (aR.f k a0) (aR.f (k+1) a0):=by
 intro a0 k
 have uy:=aR.nG k
 unfold aR.f
 repeat' first
   |(with_reducible exact uy _ _ _)
   |(with_reducible exact iM.refl _)
   |(with_reducible exact iM.none _)
   |(with_reducible refine iM.ite ?_ ?_)
   |(with_reducible refine iM.bind ?_ (fun _=>?_))
   |exact uy _ _ _
   |exact iM.none _
   |refine iM.ite ?_ ?_
   |refine iM.bind ?_ (fun _=>?_)
end Go.Proofs.YtilpincgjlclpaaGreat.Pr
end
section
namespace Go.Proofs.YtilpincgjlclpaaGreat.Pr
open Go.RowKit Go.Proofs.ae.au Go.Proofs.ae.aZ Go.Proofs.ae.bE
attribute [local go_sem] bQ min2_int cB min_two max_three min_three max_four min_four
def cK.f (a0:Int) (a1:Int):Option (Int×Bool):=if a0<0 then(some (0,false)) else(if a1<0 then(some (0,false)) else(if(wrap64 (a0+a1))<0 then(some (0,false)) else(some (wrap64 (a0+a1),true))))
end Go.Proofs.YtilpincgjlclpaaGreat.Pr
end
section
namespace Go.Proofs.YtilpincgjlclpaaGreat.Pr
open Go.RowKit Go.Proofs.ae.au Go.Proofs.ae.aZ Go.Proofs.ae.bE
def dY.f (a0 a1:Int):Option (Int×Bool):=
 if a0<0 then some (0,false)
 else if a1<0 then some (0,false)
 else if 0<a1/\9223372036854775807/a1<a0 then some (0,false)
 else some (wrap64 (a0*a1),true)
end Go.Proofs.YtilpincgjlclpaaGreat.Pr
end
section
namespace Go.Proofs.YtilpincgjlclpaaGreat.Pr
open Go.RowKit Go.Proofs.ae.au Go.Proofs.ae.aZ Go.Proofs.ae.bE
attribute [local go_sem] bQ min2_int cB min_two max_three min_three max_four min_four
def bg.l0:Nat->List (dN)->Int->Int->Option (Int×Bool)
 |0,_,_,_=>none
 |k+1,x0,x4,x5=>if x5<(x0.length:Int) then(if 0<=x5 then((dY.f ((aU x0 x5).f1) (mx 0 (wrap64 ((((aU x0 x5).f0).size:Int)-1)))).bind fun Md=>(if Md.2=true then((cK.f x4 Md.1).bind fun uY=>(if uY.2=true then(bg.l0 k x0 uY.1 (wrap64 (x5+1))) else(some (0,false)))) else(some (0,false)))) else(none)) else(some (x4,true))
def bg.f (k:Nat) (l0:List (dN)):Option (Int×Bool):=bg.l0 k l0 0 0
theorem bg.nG:∀k,(∀y0 y1 y2,iM (bg.l0 k y0 y1 y2) (bg.l0 (k+1) y0 y1 y2))
 |0=>fun _ _ _ r h=>by simp[bg.l0] at h
 |k+1=>by
  have uy:=bg.nG k
  ·intro y0 y1 y2
   unfold bg.l0
   repeat' first
   |(with_reducible exact uy _ _ _)
   |(with_reducible exact iM.refl _)
   |(with_reducible exact iM.none _)
   |(with_reducible refine iM.ite ?_ ?_)
   |(with_reducible refine iM.bind ?_ (fun _=>?_))
   |exact uy _ _ _
   |exact iM.none _
   |refine iM.ite ?_ ?_
   |refine iM.bind ?_ (fun _=>?_)
theorem bg.mono:∀a0 k,iM (bg.f k a0) (bg.f (k+1) a0):=by
 intro a0 k
 have uy:=bg.nG k
 unfold bg.f
 repeat' first
   |(with_reducible exact uy _ _ _)
   |(with_reducible exact iM.refl _)
   |(with_reducible exact iM.none _)
   |(with_reducible refine iM.ite ?_ ?_)
   |(with_reducible refine iM.bind ?_ (fun _=>?_))
   |exact uy _ _ _
   |exact iM.none _
   |refine iM.ite ?_ ?_
   |refine iM.bind ?_ (fun _=>?_)
end Go.Proofs.YtilpincgjlclpaaGreat.Pr
end
section
namespace Go.Proofs
open Go.Shelf
def Tryz.BR:Go.Shelf.Ren:=⟨fun|169=>71|n=>n,fun|70=>128|9=>9|0=>0|72=>131|37=>129|127=>187|3=>3|5=>5|n=>n,fun|n=>n⟩
theorem Tryz.lays169:Go.Proofs.Lays.n169 Tryz.prog Tryz.BR:={
 mixed:=by kernel_rfl
 f169:=Tryz.func71.trans (congrArg some (by kernel_rfl))
 t0:=Tryz.underlying0
 a0:=Tryz.isAgg0
 z0:=Tryz.sizeOf0
 v0:=Tryz.zeroValue0
 t3:=Tryz.underlying3
 a3:=Tryz.isAgg3
 z3:=Tryz.sizeOf3
 v3:=Tryz.zeroValue3
 t9:=Tryz.underlying9
 a9:=Tryz.isAgg9
 z9:=Tryz.sizeOf9
 v9:=Tryz.zeroValue9
 t37:=Tryz.underlying129
 a37:=Tryz.isAgg129
 z37:=Tryz.sizeOf129
 v37:=Tryz.zeroValue129
 t70:=Tryz.underlying128
 a70:=Tryz.isAgg128
 z70:=Tryz.sizeOf128
 v70:=Tryz.zeroValue128
 t72:=Tryz.underlying131
 a72:=Tryz.isAgg131
 z72:=Tryz.sizeOf131
 v72:=Tryz.zeroValue131
 t127:=Tryz.underlying187
 a127:=Tryz.isAgg187
 z127:=Tryz.sizeOf187
 v127:=Tryz.zeroValue187}
theorem Tryz.yG:Builder.Extra Tryz.prog Tryz.BR:={
 sizeBuilder:=by kernel_rfl
 liesBuilder:=by kernel_rfl
 t5:=Tryz.underlying5
 a5:=Tryz.isAgg5
 z5:=Tryz.sizeOf5
 v5:=Tryz.zeroValue5
 infoByte:=by kernel_rfl
 cellsByte:=by kernel_rfl
 sizeByte:=by kernel_rfl
 neB5:=by decide}
open Go.RowKit in
theorem Tryz.Builder_String_any (B b:Nat) (l:List UInt8) (w:World) (h:Lib.IsBuilder 131 5 B b (Lib.byteCells l) w) (hBw:B<=w.heap.size):
  Calls Tryz.prog 71 #[.pointer (some ⟨b,0,none⟩)] w fun e w'=>e= .returned (.string ⟨l.toArray⟩)/\Below B w w':=Any.Builder_String_any Tryz.lays169 Tryz.yG B b l w h hBw
def Tryz.Gq:Go.Shelf.Ren:=⟨fun|16=>55|n=>n,fun|24=>54|9=>9|4=>4|n=>n,fun|n=>n⟩
theorem Tryz.Be:Go.Proofs.Lays2.n16 Tryz.prog Tryz.Gq:={
 mixed:=by kernel_rfl
 f16:=Tryz.func55.trans (congrArg some (by kernel_rfl))
 t4:=Tryz.underlying4
 a4:=Tryz.isAgg4
 z4:=Tryz.sizeOf4
 v4:=Tryz.zeroValue4
 t9:=Tryz.underlying9
 a9:=Tryz.isAgg9
 z9:=Tryz.sizeOf9
 v9:=Tryz.zeroValue9
 t24:=Tryz.underlying54
 a24:=Tryz.isAgg54
 z24:=Tryz.sizeOf54
 v24:=Tryz.zeroValue54
 i9:=by kernel_rfl}
open Go.RowKit Go.Lib in
theorem Tryz.slices_Clone_string (b off n c:Nat) (zs:List ByteArray) (w:World) (hz:n<=zs.length) (hbig:n*16<=140737488355328) (hc:∀j,j<zs.length->w.cell? ⟨b,off+j,none⟩=some (.string (zs.getD j ByteArray.empty))):
  Calls Tryz.prog 55 #[.slice (some ⟨b,off,none⟩) n c] w fun e w'=>∃v',e= .returned v'/\w'.ownsRow w.heap.size 9 1 v' n ((zs.take n).map (Value.string))/\v'≠ .slice none 0 0/\Below w.heap.size w w':=Any.slices_Clone_string Tryz.Be b off n c zs w hz hbig hc
open Go.RowKit Go.Lib in
theorem Tryz.slices_Clone_string_nil (n c:Nat) (w:World):
  Calls Tryz.prog 55 #[.slice none n c] w fun e w'=>e= .returned (.slice none 0 0)/\w'=w:=Any.slices_Clone_string_nil Tryz.Be n c w
open Go.RowKit Go.Lib in
theorem Tryz.slices_Clone_string_zero (a:Addr) (c:Nat) (w:World):
  Calls Tryz.prog 55 #[.slice (some a) 0 c] w fun e w'=>∃v',e= .returned v'/\w'.ownsRow w.heap.size 9 1 v' 0 []/\v'≠ .slice none 0 0/\Below w.heap.size w w':=Any.slices_Clone_string_zero Tryz.Be a c w
end Go.Proofs
end
section
namespace Go.Proofs.YtilpincgjlclpaaGreat.Open
open Go.RowKit Go.Proofs.ae.au
open Go.ChangeShapes Go.WideShapes Go.Deep
structure BG {H:Type} (enc:TypeId×Value->H) (P:Program) (w:World) (t:TypeId) {α:Type} (d:Kd α) (ok:α->Prop):Prop where
 out:∀fuel cs x,DataW.trod enc P w 0 (fun _=>true) true fuel t cs=some x->∃v:α,d.K w v cs/\ok v
section
variable {H:Type} {enc:TypeId×Value->H} {P:Program} {w:World} {t e:TypeId}
theorem Pv {base:Nat} {a:Addr} {n:Nat} {cs:List Value} (h:w.cells? base a n=some cs):cs.length=n/\∀i u,cs[i]?=some u->w.cell? (a.add i)=some u:=by
 unfold World.cells? at h
 split at h
 ·have hl:=mapM_some_length h
  have hl':cs.length=n:=by simpa using hl
  refine⟨hl',fun i u hu=>?_⟩
  have hi:i<n:=by
   rcases Nat.lt_or_ge i n with h1|h1
   ·exact h1
   ·rw[List.getElem?_eq_none (by omega)] at hu
    cases hu
  have hg:=mapM_some_get h i i (by simp[hi])
  rw[hg]
  exact hu
 ·cases h
theorem add_add (a:Addr) (i j:Nat):(a.add i).add j=a.add (i+j):=by
 unfold Addr.add
 by_cases hi:i=0<;>by_cases hj:j=0<;>simp[hi,hj,Nat.add_assoc]
theorem Ii {α:Type} {d:Kd α} {ok:α->Prop} (hc:P.cellsOf e=d.sz) (h:BG enc P w e d ok) {a:Addr} {n m:Nat} {D:Nat->DataW H} {Pl:Nat->List MemPlace}
  (hx:∀i,i<m->∃cs',w.cells? 0 (a.add (i*P.cellsOf e)) (P.cellsOf e)=some cs'/\DataW.trod enc P w 0 (fun _=>true) true n e cs'=some (D i,Pl i)):
  ∀len,len<=m->∃xs:List α,xs.length=len/\(∀x∈xs,ok x)/\∀j p,xs[j]?=some p->∃c,c.length=d.sz/\d.K w p c/\∀i u,c[i]?=some u->w.cell? (a.add (j*d.sz+i))=some u
 |0,_=>⟨[],rfl,by simp,by simp⟩
 |len+1,hl=>by
  obtain⟨xs,h1,h2,h3⟩:=Ii hc h hx len (by omega)
  obtain⟨cs',h4,h5⟩:=hx len (by omega)
  obtain⟨v,h6,h7⟩:=h.out _ _ _ h5
  obtain⟨h8,h9⟩:=Pv h4
  refine⟨xs++[v],by simp[h1],fun x hxm=>?_,fun j p hj=>?_⟩
  ·rcases List.mem_append.1 hxm with hm|hm
   ·exact h2 x hm
   ·rw[List.mem_singleton.1 hm]
    exact h7
  ·rcases Nat.lt_or_ge j xs.length with hlt|hge
   ·rw[List.getElem?_append_left hlt] at hj
    exact h3 j p hj
   ·rw[List.getElem?_append_right hge] at hj
    have hj0:j-xs.length=0:=by
     rcases Nat.eq_zero_or_pos (j-xs.length) with h0|h0
     ·exact h0
     ·rw[List.getElem?_eq_none (by simp;omega)] at hj
      cases hj
    have hje:j=len:=by omega
    subst hje
    rw[hj0] at hj
    obtain rfl:v=p:=by simpa using hj
    refine⟨cs',by rw[h8,hc],h6,fun i u hu=>?_⟩
    have:=h9 i u hu
    rw[add_add,hc] at this
    exact this
theorem ND {α:Type} {d:Kd α} {ok:α->Prop} (ht:P.underlying t=some (.slice e)) (hc:P.cellsOf e=d.sz) (h:BG enc P w e d ok) (e':Nat):
  BG enc P w t (Kd.slice e' d) (fun xs=>xs.length<=maxLen/\∀x∈xs,ok x):=
 ⟨fun fuel cs x hx=>by
  rcases open_slice ht hx with⟨rfl,_⟩|⟨a,len,cap,m,n,D,Pl,rfl,_,hl,hm,hmm,_,hel⟩
  ·exact⟨[],⟨none,0,rfl,Nat.le_refl _,rfl,by simp,fun h0=>absurd h0 (by simp)⟩,by simp[maxLen],by simp⟩
  ·obtain⟨xs,h1,h2,h3⟩:=Ii hc h hel len (by simp only[if_true] at hmm;omega)
   refine⟨xs,⟨some a,cap,by rw[h1],by omega,rfl,by unfold maxLen at hm;omega,fun _=>⟨a,rfl,h3⟩⟩,by omega,h2⟩⟩
theorem nH {α:Type} {d:Kd α} {ok:α->Prop} (ht:P.underlying t=some (.slice e)) (hc:P.cellsOf e=d.sz) (h:BG enc P w e d ok)
  {r:Reach} {b0:Nat} {v:Value} {y:DataW H} {ps:List MemPlace} (hval:Value.okWide P w r b0 t v) (hd:DataW.Trod enc P w 0 (fun _=>true) true t v y ps):
  ∃(A:Option Addr) (c:Nat) (xs:List α),v= .slice A xs.length c/\xs.length<=c/\d.C w A xs.length xs/\xs.length<=maxLen/\∀x∈xs,ok x:=by
 obtain⟨a,len,cap,rfl⟩:=okWide_slice ht hval
 obtain⟨fuel,hf⟩:=hd
 obtain⟨xs,⟨A,c,he,hl,hC⟩,h1,h2⟩:=(ND ht hc h 0).out _ _ _ hf
 have he':[Value.slice a len cap]=[.slice A xs.length c]:=by simpa[Value.cells] using he
 injection he' with he' _
 exact⟨A,c,xs,he',hl,hC,h1,h2⟩
end
end Go.Proofs.YtilpincgjlclpaaGreat.Open
end
