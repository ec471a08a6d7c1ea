import Derived.Test.YtilpincgjlclpaaGreatB29
set_option linter.unusedVariables false
set_option linter.unusedSimpArgs false
section
namespace Go.Proofs.YtilpincgjlclpaaGreat.Ob
open Go.RowKit jL Mp Hp
open gJ (iW Ws nJ base tot)
theorem Uz:∀(ts:List (List UInt8)) (cs:List Int),(∀c∈cs,1<=c)->FO cs (ts.map ids)=tot (Ws ts []) cs
 |[],[],_=>rfl
 |[],_::_,_=>rfl
 |_::_,[],_=>rfl
 |t::ts,c::cs,h=>by
  have ih:=Uz ts cs (fun x hx=>h x (List.mem_cons_of_mem _ hx))
  have hc:=h c (by simp)
  show c*(((ids t).length-1:Nat):Int)+FO cs (ts.map ids)=(if c<1 then 0 else c*(((nJ [] (base t)).length-1:Nat):Int))+tot (Ws ts []) cs
  rw[if_neg (by omega),ih]
  have e:(nJ [] (base t)).length=(ids t).length:=by simp[nJ,base,ids]
  rw[e]
theorem Om:∀ts:List (List UInt8),fG (ts.map ids)=(ts.map List.length).sum
 |[]=>rfl
 |t::ts=>by
  have e:(ids t).length=t.length:=by simp[ids]
  rw[List.map_cons,fG,List.map_cons,List.sum_cons,Om ts,e]
theorem TY {ts:List (List UInt8)} {cs:List Int} (hk:iW ts cs):Gd cs (ts.map ids)/\fG (ts.map ids)<=6000:=by
 have h1:=hk.sum
 rw[<-Om] at h1
 have h2:=hk.many
 refine⟨⟨fun c hc=>⟨by have:=(hk.cnt c hc).1;omega,(hk.cnt c hc).2⟩,?_,fun u hu x hx=>?_,by omega,by rw[List.length_map];omega⟩,by omega⟩
 ·rw[Uz ts cs (fun c hc=>(hk.cnt c hc).1)]
  exact hk.tot
 ·obtain⟨t,ht,rfl⟩:=List.mem_map.1 hu
  have h4:=Ht [] t x hx
  have h5:=h4.1
  have h6:=h4.2
  simp only[List.length_nil] at h6
  omega
end Go.Proofs.YtilpincgjlclpaaGreat.Ob
end
section
namespace Go.Proofs.YtilpincgjlclpaaGreat.Ob
open Go Go.RowKit Go.Proofs.ae.au Pr Bs Mp jL Hp
open gJ (iW nK)
theorem Oz {w:World} {A:Option Addr} {c0:Nat} {l:List dN} (hC:Kd.C lQ w A l.length l) (hc0:l.length<=c0) {k1 k2 k3:Nat} {p bu mn li:Int} (xZ:dG.f k1 l=some (p,0)) (hpos:dM.f k2 l=some ((fG (gI l):Nat):Int)) (hwr:eZ.f k3 l bu mn li=some 0) (hk:iW (gB l) (gG l)) (uB:1<=mn) (hbu:0<=bu):
  Calls Tryz.prog 14 #[.slice A l.length c0,.agg #[.int .i64 bu,.int .i64 mn,.int .i64 li]] w fun e w'=>∃(v:Value) (ro:Nat) (F:Tm.St),F=Tm.learn (gB l) (gG l) bu mn/\ro=F.o.length/\e= .returned (.tuple #[v,.agg #[.int .i64 (fG (gI l):Int),.int .i64 (ro:Int),.int .i64 (F.pu:Int),.int .i64 (F.po:Int),.int .i64 (F.pe:Int),.int .i64 (F.re:Int)],.int .i64 0])/\w'.ownsRow w.heap.size Cz 2 v (pR F.o).length ((pR F.o).flatMap mW)/\Below w.heap.size w w'/\nK (gB l) (gG l) bu mn [] (Tm.mg F.o)/\Tm.Bnd (fG (gI l)) F:=by
 obtain⟨hg,hs6⟩:=TY hk
 obtain⟨hl1,hl2⟩:=Yz hk
 rw[tZ] at hg hs6 hl1 hl2
 have hsz:∀x∈l,x.f0.size<=1000:=fun x hx=>by
  have h1:=hk.len x.f0.data.toList (List.mem_map_of_mem (f:=fun x=>x.f0.data.toList) hx)
  have h2:x.f0.data.toList.length=x.f0.size:=by rw[Array.length_toList];rfl
  omega
 obtain⟨h3,h4⟩:=Tm.Nv hk uB (budget:=bu) hbu
 rw[wo,tZ] at h4
 refine(tr_learn hC hc0 xZ hpos hwr hg hsz hl1 hl2 (by omega) hk uB).mono ?_
 rintro e w' ⟨v,ro,F,rfl,h5,h6,h7,h8⟩
 exact⟨v,ro,_,rfl,h5,h6,h7,h8,h3,h4⟩
end Go.Proofs.YtilpincgjlclpaaGreat.Ob
end
section
namespace Go.Proofs.YtilpincgjlclpaaGreat.gJ
open Go.RowKit Go.Proofs.ae.au Pr
open uA (oz iJ jB)
def madeOf (o:List eu):List ByteArray:=o.map fun x=>x.f0++x.f1
theorem jR.parts {ts:List (List UInt8)} {r:List eu} (h:jR ts r) {o p:List eu} {x:eu} (e:r=o++x::p):(x.f0.size=1\/x.f0∈madeOf o)/\(x.f1.size=1\/x.f1∈madeOf o)/\x.f0++x.f1∉madeOf o:=by
 obtain⟨t,ht,hp⟩:=h o x p e
 obtain⟨A,C,hw⟩:=Ku _ hp
 have side:∀s,s∈nJ o (base t)->s.size=1\/s∈madeOf o:=fun s hs=>by
  rcases aap o t s hs with⟨c,rfl⟩|⟨y,hy,rfl⟩
  ·exact .inl rfl
  ·exact .inr (List.mem_map.2 ⟨y,hy,rfl⟩)
 refine⟨side _ (by rw[hw];simp),side _ (by rw[hw];simp),fun hm=>?_⟩
 obtain⟨y,hy,hye⟩:=List.mem_map.1 hm
 obtain⟨o1,o2,rfl⟩:=List.append_of_mem hy
 obtain⟨t',ht',hp'⟩:=h o1 y (o2++x::p) (by rw[e];simp)
 have e2:o1++y::o2=o1++[⟨y.f0,y.f1⟩]++o2:=by simp
 rw[e2] at hp
 exact Ia hp' hp hye
theorem nK.sizes {ts cs} (h:iW ts cs) {budget least:Int} {o r:List eu} (hr:nK ts cs budget least o r) (ho:∀x∈o,x.f0.size<=300/\x.f1.size<=300):∀x∈r,x.f0.size<=300/\x.f1.size<=300:=by
 induction hr with
 |full _=>exact ho
 |stop _ _ _=>exact ho
 |step _ h2 _ _ ih=>
  refine ih fun x hx=>?_
  rcases List.mem_append.1 hx with hx|hx
  ·exact ho x hx
  ·rw[List.mem_singleton.1 hx]
   exact gU.sizes h h2
end Go.Proofs.YtilpincgjlclpaaGreat.gJ
end
section
namespace Go.Proofs.YtilpincgjlclpaaGreat.Ob
open Go.RowKit jL Mp Hp
open Tm (It St Ak Po mg vz)
open gJ (iW nK jR madeOf)
structure OkO (ts:List (List UInt8)) (o:List J):Prop where
 sy:∀x∈o,VP o x.1/\x.2=fI o x.1.1++fI o x.1.2
 inj:Ak o
 ch:jR ts (mg o)
theorem Uh {ts:List (List UInt8)} {cs:List Int} {mn:Int} {N:Nat} (hk:iW ts cs) (uB:1<=mn):∀(k:Nat) {s:St},Po ts cs mn N s->OkO ts (Tm.run cs mn k s).o
 |0,s,h=>⟨h.ok.sy,h.ok.inj,h.ok.ch⟩
 |k+1,s,h=>by
  rw[Tm.run]
  rcases h.step hk uB with⟨e,ho,_⟩|⟨e,hi,_⟩
  ·rw[if_neg (by simp[e]),ho]
   exact⟨h.ok.sy,h.ok.inj,h.ok.ch⟩
  ·rw[if_pos e]
   exact Uh hk uB k hi
theorem VL {ts:List (List UInt8)} {cs:List Int} {mn:Int} (hk:iW ts cs) (uB:1<=mn) (bu:Int):OkO ts (Tm.learn ts cs bu mn).o:=by
 unfold Tm.learn
 exact Uh hk uB _ (vz hk uB)
theorem XW:∀(p:List J) (i:Nat) (t:ByteArray) (v:Int),Mp.get (mf i p) t=some v->∃j x,p[j]?=some x/\x.2=t/\v=((256+(i+j):Nat):Int)
 |[],i,t,v,h=>by simp[mf,Mp.get] at h
 |x::p,i,t,v,h=>by
  rw[mf,Mp.get] at h
  split at h
  ·rename_i e
   cases h
   exact⟨0,x,rfl,e,by simp⟩
  ·obtain⟨j,y,h1,h2,h3⟩:=XW p (i+1) t v h
   exact⟨j+1,y,by simpa using h1,h2,by rw[h3];congr 1;omega⟩
theorem Mk:∀(p:List J) (i:Nat) (t:ByteArray) {j:Nat} {x:J},p[j]?=some x->x.2=t->∃v,Mp.get (mf i p) t=some v
 |[],i,t,j,x,h,_=>by simp at h
 |y::p,i,t,j,x,h,e=>by
  rw[mf,Mp.get]
  split
  ·exact⟨_,rfl⟩
  ·rename_i hn
   cases j with
   |zero=>simp at h;subst h;exact(hn e).elim
   |succ j=>exact Mk p (i+1) t (by simpa using h) e
theorem Ae {o:List J} {j:Nat} {x:J} (h:o[j]?=some x):fI o ((256+j:Nat):Int)=x.2:=by
 unfold fI txt
 rw[if_neg (by omega)]
 rw[show((256+j:Nat):Int).toNat-256=j by omega,h]
 rfl
theorem FJ (o:List J) (c:UInt8):fI o (c.toNat:Int)=Gf c:=by
 unfold fI
 rw[Int.toNat_natCast,wz o c.toNat_lt,UInt8.ofNat_toNat]
theorem byte_of {s:ByteArray} (h:s.size=1):s=Gf s[0]/\0<=(s[0].toNat:Int)/\(s[0].toNat:Int)<256:=by
 refine⟨?_,by omega,by have:=s[0].toNat_lt;omega⟩
 have hl:s.data.toList.length=1:=by rw[Array.length_toList];exact h
 apply ByteArray.ext
 apply Array.toList_inj.1
 match hd:s.data.toList,hl with
 |[c],_=>
  have h0:s[0]=c:=by
   have:s.data.toList[0]?=some s[0]:=by
    rw[Array.getElem?_toList,Array.getElem?_eq_getElem (show 0<s.data.size by have:s.data.size=s.size:=rfl;omega)]
    rfl
   rw[hd] at this
   simpa using this.symm
  rw[h0]
  rfl
structure UX (o:List J) (k:Nat) (x:J):Prop where
 vp:VP (o.take k) x.1
 tx:x.2=fI (o.take k) x.1.1++fI (o.take k) x.1.2
 f1:find (o.take k) (fI (o.take k) x.1.1)=(x.1.1,true)
 f2:find (o.take k) (fI (o.take k) x.1.2)=(x.1.2,true)
 fr:(find (o.take k) x.2).2=false
theorem nQ {o:List J} {k:Nat} {y:Int} (h:Vl (o.take k) y):fI o y=fI (o.take k) y:=by
 conv=>lhs;rw[<-List.take_append_drop k o]
 exact iI h _
theorem Uy {o:List J} (hi:Ak o) (hs:∀x∈o,VP o x.1/\x.2=fI o x.1.1++fI o x.1.2) {k:Nat} (hk:k<=o.length) {y:Int} (hv:Vl o y) (h:(fI o y).size=1\/fI o y∈madeOf ((mg o).take k)):
  Vl (o.take k) y/\find (o.take k) (fI (o.take k) y)=(y,true):=by
 have hl:(o.take k).length=k:=by rw[List.length_take];omega
 rcases h with h|h
 ·obtain⟨e1,e2,e3⟩:=byte_of h
  have hvb:Vl o ((fI o y)[0].toNat:Int):=⟨e2,by omega⟩
  have hb:fI o ((fI o y)[0].toNat:Int)=fI o y:=by
   rw[FJ]
   exact e1.symm
  have hy:=hi _ _ hvb hv hb
  have hvt:Vl (o.take k) y:=⟨hv.1,by rw[<-hy];omega⟩
  refine⟨hvt,?_⟩
  rw[<-nQ hvt]
  unfold find
  rw[dif_pos h]
  exact Prod.ext hy rfl
 ·obtain⟨z,hz,hze⟩:=List.mem_map.1 h
  obtain⟨j,hj⟩:=List.getElem?_of_mem hz
  have hjk:j<k:=by
   have:=(List.getElem?_eq_some_iff.1 hj).1
   rw[List.length_take] at this
   omega
  rw[List.getElem?_take_of_lt hjk,mg,List.getElem?_map] at hj
  obtain⟨u,hu,rfl⟩:=Option.map_eq_some_iff.1 hj
  have hsu:=(hs u (List.mem_of_getElem? hu)).2
  have hju:=(List.getElem?_eq_some_iff.1 hu).1
  have hvj:Vl o ((256+j:Nat):Int):=⟨by omega,by omega⟩
  have hy:=hi _ _ hvj hv (by rw[Ae hu,hsu];exact hze)
  have hvt:Vl (o.take k) y:=⟨hv.1,by rw[hl,<-hy];omega⟩
  refine⟨hvt,?_⟩
  rw[<-nQ hvt]
  have hut:(o.take k)[j]?=some u:=by rw[List.getElem?_take_of_lt hjk];exact hu
  have hue:u.2=fI o y:=by rw[hsu];exact hze
  by_cases h1:(fI o y).size=1
  ·obtain⟨e1,e2,e3⟩:=byte_of h1
   have hvb:Vl o ((fI o y)[0].toNat:Int):=⟨e2,by omega⟩
   have hb:fI o ((fI o y)[0].toNat:Int)=fI o y:=by
    rw[FJ]
    exact e1.symm
   have hy2:=hi _ _ hvb hv hb
   omega
  ·obtain⟨v,hv2⟩:=Mk (o.take k) 0 (fI o y) hut hue
   obtain⟨j',x',g1,g2,g3⟩:=XW (o.take k) 0 _ _ hv2
   have hj'k:j'<k:=by have:=(List.getElem?_eq_some_iff.1 g1).1;rw[hl] at this;exact this
   rw[List.getElem?_take_of_lt hj'k] at g1
   have hj'o:=(List.getElem?_eq_some_iff.1 g1).1
   have hy3:=hi _ _ (show Vl o ((256+j':Nat):Int) from⟨by omega,by omega⟩) hv (by rw[Ae g1,g2])
   unfold find
   rw[dif_neg h1,hv2]
   refine Prod.ext ?_ rfl
   show v=y
   rw[g3,<-hy3]
   congr 1
   omega
theorem OkO.at_ {ts:List (List UInt8)} {o:List J} (h:OkO ts o) {k:Nat} {x:J} (hx:o[k]?=some x):UX o k x:=by
 have hlt:=(List.getElem?_eq_some_iff.1 hx).1
 have hmem:=List.mem_of_getElem? hx
 obtain⟨hv,he⟩:=h.sy x hmem
 have hsp:mg o=(mg o).take k++⟨fI o x.1.1,fI o x.1.2⟩::(mg o).drop (k+1):=by
  have hl:k<(mg o).length:=by simpa[mg] using hlt
  have hge:(mg o)[k]=⟨fI o x.1.1,fI o x.1.2⟩:=by
   have:=hx
   rw[List.getElem?_eq_getElem hlt] at this
   cases this
   simp[mg]
  conv=>lhs;rw[<-List.take_append_drop k (mg o),List.drop_eq_getElem_cons hl,hge]
 obtain⟨p1,p2,p3⟩:=h.ch.parts hsp
 obtain⟨v1,g1⟩:=Uy h.inj h.sy (Nat.le_of_lt hlt) hv.1 p1
 obtain⟨v2,g2⟩:=Uy h.inj h.sy (Nat.le_of_lt hlt) hv.2 p2
 have htx:x.2=fI (o.take k) x.1.1++fI (o.take k) x.1.2:=by rw[<-nQ v1,<-nQ v2];exact he
 have hl:(o.take k).length=k:=by rw[List.length_take];omega
 have hvk:Vl o ((256+k:Nat):Int):=⟨by omega,by omega⟩
 refine⟨⟨v1,v2⟩,htx,g1,g2,DZ (fun y hy e=>?_) (fun e=>?_)⟩
 ·have hyo:Vl o y:=⟨hy.1,by have:=hy.2;rw[hl] at this;omega⟩
  rw[<-nQ hy] at e
  have:=h.inj y _ hyo hvk (by rw[Ae hx];exact e)
  have h2:=hy.2
  rw[hl] at h2
  omega
 ·obtain⟨e1,e2,e3⟩:=byte_of e
  have hvb:Vl o (x.2[0].toNat:Int):=⟨e2,by omega⟩
  have hb:fI o (x.2[0].toNat:Int)=fI o ((256+k:Nat):Int):=by
   rw[Ae hx,FJ]
   exact e1.symm
  have:=h.inj _ _ hvb hvk hb
  omega
end Go.Proofs.YtilpincgjlclpaaGreat.Ob
end
