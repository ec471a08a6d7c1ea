import Derived.ArgAppend
import Derived.Below
import Derived.BigQuiet
import Derived.Deep.AppendLies
import Derived.Deep.CutBlock
import Derived.Deep.DeepCutAuto
import Derived.Deep.Draws
import Derived.Deep.LoopGhost
import Derived.Deep.OwnRows
import Derived.Deep.QuietTactic
import Derived.Deep.RegionHeld3
import Derived.KernelRfl
import Derived.Laws.BitsLemmas
import Derived.Laws.BytesArg
import Derived.Laws.IdiomCopy
import Derived.Laws.MakeOwn
import Derived.Laws.OwnMore
import Derived.Laws.Rows
import Derived.Laws.Slices
import Derived.Laws.StructEq
import Derived.Lib.AppendStr
import Derived.Lib.ConvBytes
import Derived.Maps.AppendAt
import Derived.OrdersHeld
import Derived.OwnWalk
import Derived.RowKit
import Derived.RowKit3
import Derived.Tactics
import Derived.Test.YtilpincgjlclpaaGreatProg
import Derived.WalkKit
import Derived.WideLaws
import Derived.Test.YtilpincgjlclpaaGreatB1
set_option linter.unusedVariables false
set_option linter.unusedSimpArgs false
section
namespace Go.Proofs.ae.bE
open Go.RowKit Go.Proofs.ae.au
theorem bQ (k k':IntKind) (x y:Int):Builtin.max2 (.int k x) (.int k' y)=pure (.int k (if x<y then y else x)):=by simp only[Builtin.max2,gt_iff_lt]
theorem min2_int (k k':IntKind) (x y:Int):Builtin.min2 (.int k x) (.int k' y)=pure (.int k (if y<x then y else x)):=by simp only[Builtin.min2]
theorem cB (ats:Array TypeId) (ty:TypeId) (a b:Value):Builtin.max_ ats ty #[a,b]=(Builtin.max2 a b >>= fun s=>pure s):=by simp only[Builtin.max_,List.foldlM_cons,List.foldlM_nil]
theorem min_two (ats:Array TypeId) (ty:TypeId) (a b:Value):Builtin.min_ ats ty #[a,b]=(Builtin.min2 a b >>= fun s=>pure s):=by simp only[Builtin.min_,List.foldlM_cons,List.foldlM_nil]
theorem max_three (ats:Array TypeId) (ty:TypeId) (a b c:Value):Builtin.max_ ats ty #[a,b,c]=(Builtin.max2 a b >>= fun s=>Builtin.max2 s c >>= fun s=>pure s):=by simp only[Builtin.max_,List.foldlM_cons,List.foldlM_nil]
theorem min_three (ats:Array TypeId) (ty:TypeId) (a b c:Value):Builtin.min_ ats ty #[a,b,c]=(Builtin.min2 a b >>= fun s=>Builtin.min2 s c >>= fun s=>pure s):=by simp only[Builtin.min_,List.foldlM_cons,List.foldlM_nil]
theorem max_four (ats:Array TypeId) (ty:TypeId) (a b c d:Value):Builtin.max_ ats ty #[a,b,c,d]=(Builtin.max2 a b >>= fun s=>Builtin.max2 s c >>= fun s=>Builtin.max2 s d >>= fun s=>pure s):=by simp only[Builtin.max_,List.foldlM_cons,List.foldlM_nil]
theorem min_four (ats:Array TypeId) (ty:TypeId) (a b c d:Value):Builtin.min_ ats ty #[a,b,c,d]=(Builtin.min2 a b >>= fun s=>Builtin.min2 s c >>= fun s=>Builtin.min2 s d >>= fun s=>pure s):=by simp only[Builtin.min_,List.foldlM_cons,List.foldlM_nil]
end Go.Proofs.ae.bE
namespace Go.Proofs.ae.au
open Go.RowKit
section
variable {P:Program} {ops:Array Oper} {rest:List Oper} {o:Oper} {a:Act} {Q:Exit->Act->World->Prop} {W:World}
theorem bL {f:FuncId} {aa:Array Operand} {ts:Array TypeId} (_ho:o.op= .call {callee:= .value (.func f),args:=aa,argTypes:=ts}) (h:wpList P ops Q (o::rest) a W):wpList P ops Q (o::rest) a W:=h
theorem bH {b:Builtin} {xs:Array Operand} {ts:Array TypeId} (_ho:o.op= .call {callee:= .builtin b,args:=xs,argTypes:=ts}) (h:wpList P ops Q (o::rest) a W):wpList P ops Q (o::rest) a W:=h
end
def mx (a b:Int):Int:=if a<b then b else a
def mn (a b:Int):Int:=if b<a then b else a
end Go.Proofs.ae.au
end
section
namespace Go.Proofs.YtilpincgjlclpaaGreat.Pr
open Go.RowKit Go.Proofs.ae.au Go.Proofs.ae.aZ Go.Proofs.ae.bE
attribute [local go_sem] bQ min2_int cB min_two max_three min_three max_four min_four
def errW:Option Int->Value
 |none=> .nilIface
 |some c=> .iface 0 (.int .i64 c)
theorem aC:errW none= .nilIface:=rfl
theorem aD (c:Int):errW (some c)= .iface 0 (.int .i64 c):=rfl
theorem info3:(Tryz.prog.info? 3).map (fun i=>(i.zero,i.size,i.bytes))=some (some (.int .i64 0),1,8):=by kernel_rfl
theorem ig:(Tryz.prog.info? 9).map (fun i=>(i.zero,i.size,i.bytes))=some (some (.string ⟨#[]⟩),1,16):=by kernel_rfl
structure eu where
 f0:ByteArray
 f1:ByteArray
structure dN where
 f0:ByteArray
 f1:Int
def z45:dN:=⟨(⟨#[]⟩:ByteArray),(0:Int)⟩
def lQ:Kd dN:=Kd.iso (Kd.pair Kd.string (Kd.int .i64)) (fun x:dN=>(x.f0,x.f1))
theorem Zt {w:World} {x:dN} {cs:List Value} (h:lQ.K w x cs):cs=[.string x.f0,.int .i64 x.f1]:=by
 obtain⟨_,_,rfl,rfl,rfl⟩:=h
 exact rfl
theorem Eo (w:World) (x:dN):lQ.K w x [.string x.f0,.int .i64 x.f1]:=⟨[.string x.f0],[.int .i64 x.f1],rfl,rfl,rfl⟩
def aU (xs:List dN) (i:Int):dN:=xs.getD i.toNat z45
theorem eP {w:World} {A:Option Addr} {n:Nat} {xs:List dN} (h:Kd.C lQ w A n xs) (i:Int) (h0:0<=i) (h1:i<n):∃ad,A=some ad/\w.cell? (ad.add (i.toNat*2))=some (.string (aU xs i).f0)/\w.cell? ⟨(ad.add (i.toNat*2)).block,(ad.add (i.toNat*2)).off+1,none⟩=some (.int .i64 (aU xs i).f1):=by
 obtain⟨ad,c,e,_,hK,hc0⟩:=Kd.Dm h z45 i h0 h1
 have hc:∀j u,c[j]?=some u->w.cell? (ad.add (i.toNat*2+j))=some u:=hc0
 obtain rfl:=Zt hK
 exact⟨ad,e,hc 0 _ rfl,by rw[<-wH _ _ 1 (by omega)];exact hc 1 _ rfl⟩
def lh (xs:List (List ByteArray)) (i:Int):(List ByteArray):=xs.getD i.toNat ([]:List ByteArray)
end Go.Proofs.YtilpincgjlclpaaGreat.Pr
end
section
namespace Go.Proofs.YtilpincgjlclpaaGreat.jL
abbrev P2:=Int×Int
def mI (p:P2) (s:Int):List Int->List Int
 |x::y::r=>if x=p.1/\y=p.2 then s::mI p s r else x::mI p s (y::r)
 |w=>w
def jy (q:P2):List Int->Int
 |x::y::r=>(if x=q.1/\y=q.2 then 1 else 0)+jy q (y::r)
 |_=>0
def link (q:P2):Option Int->Option Int->Int
 |some x,some y=>if x=q.1/\y=q.2 then 1 else 0
 |_,_=>0
section
variable {p q:P2} {s:Int}
@[simp] theorem jnI_nil:mI p s []=[]:=rfl
@[simp] theorem jnI_one (x:Int):mI p s [x]=[x]:=rfl
theorem nD (x y:Int) (r:List Int):mI p s (x::y::r)=if x=p.1/\y=p.2 then s::mI p s r else x::mI p s (y::r):=by rw[mI]
@[simp] theorem pcI_nil:jy q []=0:=rfl
@[simp] theorem pcI_one (x:Int):jy q [x]=0:=rfl
theorem pg (x y:Int) (r:List Int):jy q (x::y::r)=(if x=q.1/\y=q.2 then 1 else 0)+jy q (y::r):=by rw[jy]
@[simp] theorem link_none (o:Option Int):link q none o=0:=rfl
@[simp] theorem link_none' (o:Option Int):link q o none=0:=by cases o<;>rfl
theorem lH (x y:Int):link q (some x) (some y)=if x=q.1/\y=q.2 then 1 else 0:=rfl
theorem jE (x:Int) (r:List Int):jy q (x::r)=link q (some x) r.head?+jy q r:=by
 cases r with
 |nil=>simp
 |cons y r=>rw[pg,List.head?_cons,lH]
theorem EN (A B:List Int):jy q (A++B)=jy q A+jy q B+link q A.getLast? B.head?:=by
 induction A with
 |nil=>simp
 |cons x A ih=>
  rw[List.cons_append,jE,ih,jE]
  cases A with
  |nil=>simp;omega
  |cons y A=>simp only[List.cons_append,List.head?_cons,List.getLast?_cons_cons];omega
theorem iU:∀w:List Int,0<=jy q w
 |[]=>by simp
 |[x]=>by simp
 |x::y::r=>by
  have:=iU (y::r)
  rw[pg]
  split<;>omega
theorem De:∀w:List Int,jy q w<=(w.length:Int)
 |[]=>by simp
 |[x]=>by simp
 |x::y::r=>by
  have:=De (y::r)
  rw[pg]
  simp only[List.length_cons] at this ⊢
  split<;>omega
theorem NK:∀w:List Int,jy q w<=((w.length-1:Nat):Int)
 |[]=>by simp
 |[x]=>by simp
 |x::y::r=>by
  have:=NK (y::r)
  rw[pg]
  simp only[List.length_cons] at this ⊢
  split<;>omega
theorem zM {w:List Int} (h:1<=jy q w):q.1∈w/\q.2∈w:=by
 induction w with
 |nil=>simp at h
 |cons x w ih=>
  cases w with
  |nil=>simp at h
  |cons y w=>
   rw[pg] at h
   by_cases hx:x=q.1/\y=q.2
   ·exact⟨by simp[hx.1],by simp[hx.2]⟩
   ·rw[if_neg hx] at h
    have:=ih (by omega)
    exact⟨List.mem_cons_of_mem _ this.1,List.mem_cons_of_mem _ this.2⟩
theorem ZR (A C:List Int) (a c s:Int):jy q (A++s::C)=jy q (A++a::c::C)-link q A.getLast? (some a)-link q (some a) (some c)-link q (some c) C.head?+link q A.getLast? (some s)+link q (some s) C.head?:=by
 rw[EN,EN,jE,jE,jE]
 simp only[List.head?_cons]
 omega
theorem mh:∀w:List Int,(mI p s w).length<=w.length
 |[]=>by simp
 |[x]=>by simp
 |x::y::r=>by
  have h1:=mh r
  have h2:=mh (y::r)
  rw[nD]
  split<;>simp only[List.length_cons] at * <;>omega
theorem wX:∀(w:List Int),∀x∈mI p s w,x∈w\/x=s
 |[],x,h=>by simp at h
 |[y],x,h=>by simp at h;simp[h]
 |y::z::r,x,h=>by
  rw[nD] at h
  split at h
  ·rcases List.mem_cons.1 h with h|h
   ·exact .inr h
   ·rcases wX r x h with h|h
    ·exact .inl (by simp[h])
    ·exact .inr h
  ·rcases List.mem_cons.1 h with h|h
   ·exact .inl (by simp[h])
   ·rcases wX (z::r) x h with h|h
    ·exact .inl (List.mem_cons_of_mem _ h)
    ·exact .inr h
theorem Nn:∀w:List Int,jy p w=0->mI p s w=w
 |[],_=>rfl
 |[x],_=>rfl
 |x::y::r,h=>by
  have:=iU (q:=p) (y::r)
  rw[pg] at h
  rw[nD]
  split at h
  ·omega
  ·rename_i hn
   rw[if_neg hn,Nn (y::r) (by omega)]
theorem El:∀w:List Int,1<=jy p w->(mI p s w).length+1<=w.length
 |[],h=>by simp at h
 |[x],h=>by simp at h
 |x::y::r,h=>by
  have h1:=mh (p:=p) (s:=s) r
  rw[pg] at h
  rw[nD]
  split
  ·simp only[List.length_cons] at *;omega
  ·rename_i hn
   rw[if_neg hn] at h
   have h2:=El (y::r) (by omega)
   simp only[List.length_cons] at *;omega
end
def zO (p q:P2):Prop:=p.1<q.1\/p.1=q.1/\p.2<q.2
theorem tQ (p:P2):¬zO p p:=by unfold zO;omega
theorem Bj {p q r:P2} (h:zO p q) (h':zO q r):zO p r:=by unfold zO at *;omega
theorem Kw (p q:P2):zO p q\/p=q\/zO q p:=by
 unfold zO
 by_cases h1:p.1=q.1
 ·by_cases h2:p.2=q.2
  ·exact .inr (.inl (Prod.ext h1 h2))
  ·omega
 ·omega
theorem Fv {α:Type} {R:α->α->Prop} (hi:∀a,¬R a a) (ht:∀a b c,R a b->R b c->R a c):∀(l m:List α),l.Pairwise R->m.Pairwise R->(∀x,x∈l↔x∈m)->l=m
 |[],[],_,_,_=>rfl
 |[],y::m,_,_,h=>by have:=(h y).2 (by simp);simp at this
 |x::l,[],_,_,h=>by have:=(h x).1 (by simp);simp at this
 |x::l,y::m,hl,hm,h=>by
  rw[List.pairwise_cons] at hl hm
  have hxy:x=y:=by
   rcases List.mem_cons.1 ((h x).1 (by simp)) with e|h1
   ·exact e
   ·rcases List.mem_cons.1 ((h y).2 (by simp)) with e|h2
    ·exact e.symm
    ·exact(hi x (ht _ _ _ (hl.1 y h2) (hm.1 x h1))).elim
  subst hxy
  rw[Fv hi ht l m hl.2 hm.2 (fun z=>?_)]
  constructor
  ·intro hz
   rcases List.mem_cons.1 ((h z).1 (List.mem_cons_of_mem _ hz)) with e|h1
   ·exact(hi _ (e▸hl.1 z hz)).elim
   ·exact h1
  ·intro hz
   rcases List.mem_cons.1 ((h z).2 (List.mem_cons_of_mem _ hz)) with e|h1
   ·exact(hi _ (e▸hm.1 z hz)).elim
   ·exact h1
theorem KN {l m:List P2} (hl:l.Pairwise zO) (hm:m.Pairwise zO) (h:∀x,x∈l↔x∈m):l=m:=Fv tQ (fun _ _ _=>Bj) l m hl hm h
end Go.Proofs.YtilpincgjlclpaaGreat.jL
end
section
namespace Go.Proofs.YtilpincgjlclpaaGreat.jL
abbrev C3:=Int×Int×Int
abbrev NI:=Nat×Int
def Hl:List NI->Int->Int
 |[],e=>e
 |x::_,_=>(x.1:Int)
def Kn:List NI->Int->Int
 |[],b=>b
 |x::L,_=>Kn L x.1
def IW (row:List C3):Int->List NI->Int->Prop
 |_,[],_=>True
 |b,x::L,e=>row[x.1]?=some (x.2,b,Hl L e)/\IW row x.1 L e
section
variable {row:List C3} {b e:Int} {A C L:List NI} {i:Nat} {s:Int}
@[simp] theorem hdI_nil:Hl [] e=e:=rfl
@[simp] theorem hdI_cons (x:NI):Hl (x::L) e=(x.1:Int):=rfl
@[simp] theorem lsI_nil:Kn [] b=b:=rfl
@[simp] theorem Ev (x:NI):Kn (x::L) b=Kn L x.1:=rfl
theorem yf:Hl (A++C) e=Hl A (Hl C e):=by cases A<;>rfl
theorem yl:∀{A:List NI} {b:Int},Kn (A++C) b=Kn C (Kn A b)
 |[],_=>rfl
 |x::A,b=>by rw[List.cons_append,Ev,Ev,yl]
theorem su:∀{A:List NI} {b:Int},IW row b (A++C) e↔IW row b A (Hl C e)/\IW row (Kn A b) C e
 |[],b=>by simp[IW]
 |x::A,b=>by
  rw[List.cons_append,IW,IW,su,yf,Ev,and_assoc]
theorem IW.set {L:List NI}:∀{b:Int},IW row b L e->i∉L.map Prod.fst->∀v,IW (row.set i v) b L e:=by
 induction L with
 |nil=>intro b _ _ _;trivial
 |cons x L ih=>
  intro b h hn v
  rw[List.map_cons,List.mem_cons,not_or] at hn
  exact⟨by rw[List.getElem?_set_ne (fun h1=>hn.1 h1)];exact h.1,ih h.2 hn.2 v⟩
theorem IW.lt {L:List NI}:∀{b:Int},IW row b L e->∀x∈L,x.1<row.length:=by
 induction L with
 |nil=>intro b _ x hx;simp at hx
 |cons y L ih=>
  intro b h x hx
  rcases List.mem_cons.1 hx with rfl|hx
  ·exact(List.getElem?_eq_some_iff.1 h.1).1
  ·exact ih h.2 x hx
theorem IW.at {x:NI} (h:IW row b (A++x::C) e):row[x.1]?=some (x.2,Kn A b,Hl C e):=(su.1 h).2.1
def wZ (row:List C3) (i:Nat) (s back:Int) (C:List NI) (e:Int):List C3:=
 match C with
 |[]=>row.set i (s,back,e)
 |k::C'=>(row.set i (s,back,(k.1:Int))).set k.1 (k.2,(i:Int),Hl C' e)
theorem kY (back:Int) (C:List NI):(wZ row i s back C e).length=row.length:=by
 unfold wZ
 split<;>simp
theorem IW.join {j:Nat} {a t:Int} (h:IW row b (A++(i,a)::(j,t)::C) e) (hn:((A++(i,a)::(j,t)::C).map Prod.fst).Nodup):IW (wZ row i s (Kn A b) C e) b (A++(i,s)::C) e:=by
 have h1:=su.1 h
 have hlt:=h.lt (i,a) (by simp)
 simp only at hlt
 rw[List.map_append,List.map_cons,List.map_cons,List.nodup_append] at hn
 obtain⟨nA,nC,nAC⟩:=hn
 rw[List.nodup_cons,List.nodup_cons] at nC
 have hiA:i∉A.map Prod.fst:=fun hm=>nAC i hm i (by simp) rfl
 have hiC:i∉C.map Prod.fst:=fun hm=>nC.1 (List.mem_cons_of_mem _ hm)
 rw[su]
 cases C with
 |nil=>
  refine⟨h1.1.set hiA _,?_,trivial⟩
  show(row.set i (s,Kn A b,e))[i]?=_
  rw[List.getElem?_set_self hlt]
  rfl
 |cons k C=>
  have hkA:k.1∉A.map Prod.fst:=fun hm=>nAC k.1 hm k.1 (by simp) rfl
  have hki:i≠k.1:=fun e1=>hiC (by rw[e1];simp)
  have hkC:k.1∉C.map Prod.fst:=fun hm=>by
   have:=nC.2.2
   rw[List.map_cons,List.nodup_cons] at this
   exact this.1 hm
  have hiC':i∉C.map Prod.fst:=fun hm=>hiC (by simp only[List.map_cons];exact List.mem_cons_of_mem _ hm)
  have hk:=h.lt k (by simp)
  refine⟨(h1.1.set hiA _).set hkA _,?_,?_,?_⟩
  ·show((row.set i (s,Kn A b,(k.1:Int))).set k.1 _)[i]?=_
   rw[List.getElem?_set_ne (fun e1=>hki e1.symm),List.getElem?_set_self hlt]
   rfl
  ·show((row.set i (s,Kn A b,(k.1:Int))).set k.1 (k.2,(i:Int),Hl C e))[k.1]?=_
   rw[List.getElem?_set_self (by simpa using hk)]
  ·exact(h1.2.2.2.2.set hiC' _).set hkC _
theorem EC {j:Nat} {a t:Int} (hn:((A++(i,a)::(j,t)::C).map Prod.fst).Nodup) (s:Int):((A++(i,s)::C).map Prod.fst).Nodup:=by
 refine hn.sublist ?_
 simp only[List.map_append,List.map_cons]
 exact List.Sublist.append (List.Sublist.refl _) ((List.sublist_cons_self _ _).cons_cons _)
end
def rc (row:List C3):List Value:=row.flatMap fun x=>[.int .i64 x.1,.int .i64 x.2.1,.int .i64 x.2.2]
theorem Io (o:List C3):(rc o).length=o.length*3:=by
 induction o with
 |nil=>rfl
 |cons x o ih=>rw[rc,List.flatMap_cons,List.length_append,<-rc,ih];simp;omega
theorem KE (y:C3) (o:List C3) (j:Nat):(rc (y::o))[j+3]?=(rc o)[j]?:=by
 rw[rc,List.flatMap_cons,<-rc,List.getElem?_append_right (by simp)]
 simp
theorem Uf {o:List C3} {i:Nat} {x:C3} (h:o[i]?=some x):(rc o)[i*3]?=some (.int .i64 x.1)/\(rc o)[i*3+1]?=some (.int .i64 x.2.1)/\(rc o)[i*3+2]?=some (.int .i64 x.2.2):=by
 induction o generalizing i with
 |nil=>simp at h
 |cons y o ih=>
  cases i with
  |zero=>simp at h;subst h;exact⟨rfl,rfl,rfl⟩
  |succ i=>
   have:=ih (by simpa using h)
   rw[show(i+1)*3=i*3+3 by omega,show i*3+3+1=i*3+1+3 by omega,show i*3+3+2=i*3+2+3 by omega,KE,KE,KE]
   exact this
theorem KD (o:List C3) (x:C3):rc (o++[x])=rc o++[.int .i64 x.1,.int .i64 x.2.1,.int .i64 x.2.2]:=by simp[rc]
theorem VW (A B:List C3):rc (A++B)=rc A++rc B:=by simp[rc]
theorem yx {o:List C3} {i:Nat} {x:C3} (h:o[i]?=some x) (u:Int):(rc o).set (i*3) (.int .i64 u)=rc (o.set i (u,x.2.1,x.2.2))/\(rc o).set (i*3+1) (.int .i64 u)=rc (o.set i (x.1,u,x.2.2))/\(rc o).set (i*3+2) (.int .i64 u)=rc (o.set i (x.1,x.2.1,u)):=by
 obtain⟨hi,hx⟩:=List.getElem?_eq_some_iff.1 h
 have e:o=o.take i++x::o.drop (i+1):=by rw[<-hx];simp
 have hl:(o.take i).length=i:=by simp;omega
 have hlr:(rc (o.take i)).length=i*3:=by rw[Io,hl]
 have hs:∀v,o.set i v=o.take i++v::o.drop (i+1):=fun v=>by
  conv=>lhs;rw[e]
  rw[List.set_append_right _ _ (by omega),hl,Nat.sub_self,List.set_cons_zero]
 have hc:∀v:C3,rc (o.take i++v::o.drop (i+1))=rc (o.take i)++(.int .i64 v.1:: .int .i64 v.2.1:: .int .i64 v.2.2::rc (o.drop (i+1))):=fun v=>by rw[VW];rfl
 rw[hs,hs,hs,hc,hc,hc]
 have hr:rc o=rc (o.take i)++(.int .i64 x.1:: .int .i64 x.2.1:: .int .i64 x.2.2::rc (o.drop (i+1))):=by
  conv=>lhs;rw[e]
  exact hc x
 rw[hr]
 refine⟨?_,?_,?_⟩<;>rw[List.set_append_right _ _ (by omega),hlr]
 ·rw[show i*3-i*3=0 by omega];rfl
 ·rw[show i*3+1-i*3=1 by omega];rfl
 ·rw[show i*3+2-i*3=2 by omega];rfl
end Go.Proofs.YtilpincgjlclpaaGreat.jL
end
section
namespace Go.Proofs.YtilpincgjlclpaaGreat.jL
abbrev J:=(Int×Int)×ByteArray
def Gf (c:UInt8):ByteArray:=⟨#[c]⟩
def txt (o:List J) (i:Nat):ByteArray:=if i<256 then Gf (UInt8.ofNat i) else((o[i-256]?).map (·.2)).getD ByteArray.empty
def fI (o:List J) (x:Int):ByteArray:=txt o x.toNat
def Vl (o:List J) (x:Int):Prop:=0<=x/\x<256+(o.length:Int)
def VP (o:List J) (p:P2):Prop:=Vl o p.1/\Vl o p.2
theorem txt_more {o:List J} {i:Nat} (h:i<256+o.length) (p:List J):txt (o++p) i=txt o i:=by
 unfold txt
 split
 ·rfl
 ·rw[List.getElem?_append_left (by omega)]
theorem iI {o:List J} {x:Int} (h:Vl o x) (p:List J):fI (o++p) x=fI o x:=txt_more (by have:=h.1;have:=h.2;omega) p
theorem txt_last (o:List J) (x:J):txt (o++[x]) (256+o.length)=x.2:=by
 unfold txt
 rw[if_neg (by omega),List.getElem?_append_right (by omega)]
 simp
theorem txi_last (o:List J) (x:J):fI (o++[x]) (256+(o.length:Int))=x.2:=by
 unfold fI
 rw[show(256+(o.length:Int)).toNat=256+o.length by omega,txt_last]
theorem Vl.more {o:List J} {x:Int} (h:Vl o x) (p:List J):Vl (o++p) x:=⟨h.1,by have:=h.2;rw[List.length_append];omega⟩
theorem VP.more {o:List J} {x:P2} (h:VP o x) (p:List J):VP (o++p) x:=⟨h.1.more p,h.2.more p⟩
theorem Vl.last (o:List J) (x:J):Vl (o++[x]) (256+(o.length:Int)):=⟨by omega,by rw[List.length_append];simp;omega⟩
theorem wz (o:List J) {i:Nat} (h:i<256):txt o i=Gf (UInt8.ofNat i):=by unfold txt;rw[if_pos h]
theorem mkT_inj {a b:UInt8} (h:Gf a=Gf b):a=b:=by simpa[Gf] using h
def ids (t:List UInt8):List Int:=t.map fun c=>(c.toNat:Int)
theorem Ht (o:List J) (t:List UInt8):∀x∈ids t,Vl o x:=fun x hx=>by
 obtain⟨c,_,rfl⟩:=List.mem_map.1 hx
 have:=c.toNat_lt
 exact⟨by omega,by omega⟩
theorem ids_txi (o:List J) (t:List UInt8):(ids t).map (fI o)=t.map Gf:=by
 unfold ids
 rw[List.map_map]
 apply List.map_congr_left
 intro c _
 have:=c.toNat_lt
 show txt o ((c.toNat:Int)).toNat=Gf c
 rw[Int.toNat_natCast,wz o this,UInt8.ofNat_toNat]
def SD (f g:P2->Int) (l:List P2):Prop:=l.Pairwise zO/\∀q,q∈l↔f q≠g q
open Classical in
noncomputable def sd (f g:P2->Int):List P2:=if h:∃l,SD f g l then Classical.choose h else[]
theorem aao {f g:P2->Int} {l:List P2} (h:SD f g l):sd f g=l:=by
 unfold sd
 rw[dif_pos ⟨l,h⟩]
 have h2:=Classical.choose_spec (p:=SD f g) ⟨l,h⟩
 exact KN h2.1 h.1 (fun x=>(h2.2 x).trans (h.2 x).symm)
def bR:List Int->List (List Int)->P2->Int
 |c::cs,w::ws,q=>c*jy q w+bR cs ws q
 |_,_,_=>0
theorem Ce {cs:List Int} (h:∀c∈cs,0<=c) (q:P2):∀ws,0<=bR cs ws q:=by
 induction cs with
 |nil=>intro ws;simp[bR]
 |cons c cs ih=>
  intro ws
  cases ws with
  |nil=>simp[bR]
  |cons w ws=>
   have h1:=ih (fun x hx=>h x (List.mem_cons_of_mem _ hx)) ws
   have h2:0<=c*jy q w:=Int.mul_nonneg (h c (by simp)) (iU w)
   rw[bR]
   omega
def FO:List Int->List (List Int)->Int
 |c::cs,w::ws=>c*((w.length-1:Nat):Int)+FO cs ws
 |_,_=>0
theorem RU {cs:List Int} (h:∀c∈cs,0<=c):∀ws,0<=FO cs ws:=by
 induction cs with
 |nil=>intro ws;simp[FO]
 |cons c cs ih=>
  intro ws
  cases ws with
  |nil=>simp[FO]
  |cons w ws=>
   have h1:=ih (fun x hx=>h x (List.mem_cons_of_mem _ hx)) ws
   have h2:0<=c*((w.length-1:Nat):Int):=Int.mul_nonneg (h c (by simp)) (by omega)
   rw[FO]
   omega
theorem totI_le {cs:List Int} (h:∀c∈cs,0<=c) (q:P2):∀ws,bR cs ws q<=FO cs ws:=by
 induction cs with
 |nil=>intro ws;simp[bR,FO]
 |cons c cs ih=>
  intro ws
  cases ws with
  |nil=>simp[bR,FO]
  |cons w ws=>
   have h1:=ih (fun x hx=>h x (List.mem_cons_of_mem _ hx)) ws
   have h2:c*jy q w<=c*((w.length-1:Nat):Int):=Int.mul_le_mul_of_nonneg_left (NK w) (h c (by simp))
   rw[bR,FO]
   omega
theorem totI_set {cs:List Int} (q:P2):∀(ws:List (List Int)) (i:Nat) (c:Int) (w w':List Int),cs[i]?=some c->ws[i]?=some w->bR cs (ws.set i w') q=bR cs ws q+c*(jy q w'-jy q w):=by
 induction cs with
 |nil=>intro ws i c w w' h;simp at h
 |cons d cs ih=>
  intro ws i c w w' h1 h2
  cases ws with
  |nil=>simp at h2
  |cons u ws=>
   cases i with
   |zero=>
    simp at h1 h2
    subst h1 h2
    rw[List.set_cons_zero,bR,bR,Int.mul_sub]
    omega
   |succ i=>
    simp only[List.getElem?_cons_succ] at h1 h2
    rw[List.set_cons_succ,bR,bR,ih ws i c w w' h1 h2]
    omega
end Go.Proofs.YtilpincgjlclpaaGreat.jL
end
