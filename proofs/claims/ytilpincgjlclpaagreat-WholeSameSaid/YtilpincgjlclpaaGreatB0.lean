import Derived.ArgAppend
import Derived.Below
import Derived.BigQuiet
import Derived.Deep.AppendLies
import Derived.Deep.CutBlock
import Derived.Deep.DeepCutAuto
import Derived.Deep.Draws
import Derived.Deep.LoopGhost
import Derived.Deep.OwnRows
import Derived.Deep.QuietTactic
import Derived.Deep.RegionHeld3
import Derived.DeepKeys5
import Derived.KernelRfl
import Derived.Laws.BitsLemmas
import Derived.Laws.BytesArg
import Derived.Laws.IdiomCopy
import Derived.Laws.MakeOwn
import Derived.Laws.OwnMore
import Derived.Laws.Rows
import Derived.Laws.Slices
import Derived.Lib.AppendStr
import Derived.Lib.ConvBytes
import Derived.Maps.AppendAt
import Derived.Maps.OwnSet
import Derived.Maps.RangeWalk
import Derived.OrdersHeld
import Derived.OwnWalk
import Derived.RowKit
import Derived.RowKit3
import Derived.Tactics
import Derived.WalkKit
import Derived.WideKeyEntry
import Derived.WideLaws
set_option linter.unusedVariables false
set_option linter.unusedSimpArgs false
section
namespace Go.Proofs.YtilpincgjlclpaaGreat.Mp
open Go Go.RowKit Go.ChangeMaps Go.MapKept
open Go.Maps (Keyed)
section
variable {κ β:Type} [DecidableEq κ]
def get:List (κ×β)->κ->Option β
 |[],_=>none
 |(x,v)::m,a=>if x=a then some v else get m a
def put:List (κ×β)->κ->β->List (κ×β)
 |[],a,u=>[(a,u)]
 |(x,v)::m,a,u=>if x=a then(a,u)::m else(x,v)::put m a u
def del (m:List (κ×β)) (a:κ):List (κ×β):=m.filter fun p=>decide (p.1≠a)
theorem get_put (m:List (κ×β)) (a c:κ) (u:β):get (put m a u) c=if a=c then some u else get m c:=by
 induction m with
 |nil=>rfl
 |cons p m ih=>
  obtain⟨x,v⟩:=p
  rw[put]
  by_cases h:x=a
  ·subst h
   rw[if_pos rfl,get,get]
   by_cases h2:x=c
   ·rw[if_pos h2,if_pos h2]
   ·rw[if_neg h2,if_neg h2,if_neg h2]
  ·rw[if_neg h,get,get,ih]
   by_cases h2:x=c
   ·subst h2
    rw[if_pos rfl,if_neg (fun e=>h e.symm),if_pos rfl]
   ·rw[if_neg h2,if_neg h2]
theorem zg (m:List (κ×β)) (a c:κ):get (del m a) c=if a=c then none else get m c:=by
 induction m with
 |nil=>simp[del,get]
 |cons p m ih=>
  obtain⟨x,v⟩:=p
  unfold del at ih ⊢
  rw[List.filter_cons]
  by_cases h:x=a
  ·subst h
   rw[if_neg (by simp),ih,get]
   by_cases h2:x=c
   ·rw[if_pos h2,if_pos h2]
   ·rw[if_neg h2,if_neg h2,if_neg h2]
  ·rw[if_pos (by simpa using h),get,get,ih]
   by_cases h2:x=c
   ·subst h2
    rw[if_pos rfl,if_neg (fun e=>h e.symm),if_pos rfl]
   ·rw[if_neg h2,if_neg h2]
theorem get_none {m:List (κ×β)} {a:κ}:get m a=none↔∀p∈m,p.1≠a:=by
 induction m with
 |nil=>simp[get]
 |cons p m ih=>
  obtain⟨x,v⟩:=p
  rw[get]
  by_cases h:x=a
  ·simp[h]
  ·simp[h,ih]
theorem get_mem {m:List (κ×β)} {a:κ} {v:β} (h:get m a=some v):(a,v)∈m:=by
 induction m with
 |nil=>simp[get] at h
 |cons p m ih=>
  obtain⟨x,u⟩:=p
  rw[get] at h
  by_cases e:x=a
  ·rw[if_pos e] at h
   cases h
   simp[e]
  ·rw[if_neg e] at h
   exact List.mem_cons_of_mem _ (ih h)
theorem tH {m:List (κ×β)} (hn:(m.map Prod.fst).Nodup) {a:κ} {v:β} (h:(a,v)∈m):get m a=some v:=by
 induction m with
 |nil=>simp at h
 |cons p m ih=>
  obtain⟨x,u⟩:=p
  rw[List.map_cons,List.nodup_cons] at hn
  rw[get]
  rcases List.mem_cons.1 h with h|h
  ·cases h
   rw[if_pos rfl]
  ·rw[if_neg (fun e=>hn.1 (by subst e;exact List.mem_map.2 ⟨_,h,rfl⟩)),ih hn.2 h]
theorem ET {m:List (κ×β)} {a:κ} {u:β}:∀p∈put m a u,p=(a,u)\/p∈m:=by
 induction m with
 |nil=>simp[put]
 |cons q m ih=>
  obtain⟨x,v⟩:=q
  rw[put]
  by_cases h:x=a
  ·rw[if_pos h]
   intro p hp
   rcases List.mem_cons.1 hp with hp|hp
   ·exact .inl hp
   ·exact .inr (List.mem_cons_of_mem _ hp)
  ·rw[if_neg h]
   intro p hp
   rcases List.mem_cons.1 hp with hp|hp
   ·exact .inr (by simp[hp])
   ·rcases ih p hp with h1|h1
    ·exact .inl h1
    ·exact .inr (List.mem_cons_of_mem _ h1)
theorem KA {m:List (κ×β)} {a:κ} {u:β} (h:get m a=none):put m a u=m++[(a,u)]:=by
 induction m with
 |nil=>rfl
 |cons q m ih=>
  obtain⟨x,v⟩:=q
  rw[get] at h
  by_cases e:x=a
  ·rw[if_pos e] at h
   cases h
  ·rw[if_neg e] at h
   rw[put,if_neg e,ih h]
   rfl
theorem jO {m:List (κ×β)} {a:κ} {u:β}:(put m a u).length<=m.length+1:=by
 induction m with
 |nil=>simp[put]
 |cons q m ih=>
  obtain⟨x,v⟩:=q
  rw[put]
  split<;>simp at * <;>omega
end
structure Kv (P:Program) (κ β:Type) where
 t:TypeId
 k:TypeId
 e:TypeId
 kv:κ->Value
 vv:β->Value
 ok:κ->Prop
 z:β
 law:Keyed P k
 ht:P.underlying t=some (.map k e)
 inj:∀a c,kv a=kv c->a=c
 key:∀a,ok a->∃l,keyOf P k (kv a)=some l
 hz:∀w:World,(zeroValue e).run P w= .ok (vv z) w
section
variable {P:Program} {κ β:Type} {T:Kv P κ β} {w w':World} {b r:Nat} {m todo:List (κ×β)}
structure Fits (T:Kv P κ β) (es:Array MapEntry) (clock:Nat) (m:List (κ×β)):Prop where
 st:Stamped es clock
 size:es.size<=maxLen
 is:es.toList.map (fun e=>(e.key,e.val))=m.map (fun p=>(T.kv p.1,T.vv p.2))
 ok:∀p∈m,T.ok p.1
theorem Fits.length {es clock} (F:Fits T es clock m):es.size=m.length:=by simpa using congrArg List.length F.is
theorem Fits.at {es clock} (F:Fits T es clock m) {j:Nat} {p:κ×β} (h:m[j]?=some p):∃e,es[j]?=some e/\e.key=T.kv p.1/\e.val=T.vv p.2:=by
 have:=congrArg (fun l=>l[j]?) F.is
 simp only[List.getElem?_map,h,Option.map_some] at this
 obtain⟨e,he,h1⟩:=Option.map_eq_some_iff.1 this
 exact⟨e,by simpa using he,by simpa using congrArg Prod.fst h1,by simpa using congrArg Prod.snd h1⟩
theorem Fits.from {es clock} (F:Fits T es clock m) {j:Nat} {e:MapEntry} (h:es[j]?=some e):∃p,m[j]?=some p/\e.key=T.kv p.1/\e.val=T.vv p.2:=by
 have h':es.toList[j]?=some e:=by simpa using h
 have:=congrArg (fun l=>l[j]?) F.is
 simp only[List.getElem?_map,h',Option.map_some] at this
 obtain⟨p,hp,h1⟩:=Option.map_eq_some_iff.1 this.symm
 exact⟨p,hp,by simpa using(congrArg Prod.fst h1).symm,by simpa using(congrArg Prod.snd h1).symm⟩
theorem Fits.nodup {es clock} (F:Fits T es clock m):(m.map Prod.fst).Nodup:=by
 have h:=((stamped_iff es clock).1 F.st).2.2
 have h1:(es.toList.map (fun e=>(e.key,e.val))).Pairwise (fun p q=>p.1≠q.1):=by
  rw[List.pairwise_map];exact h
 rw[F.is,List.pairwise_map] at h1
 rw[List.Nodup,List.pairwise_map]
 exact h1.imp fun{a c} hne e=>hne (by simp[e])
theorem Fits.keys {es clock} (F:Fits T es clock m):∀e∈es.toList,∃l,keyOf P T.k e.key=some l:=by
 intro e he
 obtain⟨j,hj⟩:=List.getElem?_of_mem he
 obtain⟨p,hp,h1,_⟩:=F.from (by simpa using hj)
 rw[h1]
 exact T.key _ (F.ok _ (List.mem_of_getElem? hp))
theorem Fits.find [DecidableEq κ] {es clock} (F:Fits T es clock m) (w:World) {a:κ} (ha:T.ok a):
  ((Instr.findKey T.k (T.kv a) es.toList).run P w= .ok none w/\(∀e∈es.toList,e.key≠T.kv a)/\get m a=none)\/
  ∃j e v,(Instr.findKey T.k (T.kv a) es.toList).run P w= .ok (some (j,e.val)) w/\es[j]?=some e/\e.key=T.kv a/\e.val=T.vv v/\m[j]?=some (a,v)/\get m a=some v:=by
 obtain⟨l,hl⟩:=T.key a ha
 rcases T.law.find w hl es.toList F.keys with⟨h1,h2⟩|⟨j,e,h1,h2,h3⟩
 ·refine .inl ⟨h1,h2,get_none.2 fun p hp he=>?_⟩
  obtain⟨j,hj⟩:=List.getElem?_of_mem hp
  obtain⟨e,g1,g2,_⟩:=F.at hj
  exact h2 e (List.mem_of_getElem? (by simpa using g1)) (by rw[g2,he])
 ·obtain⟨⟨x,v⟩,g1,g2,g3⟩:=F.from (by simpa using h2)
  have hx:x=a:=T.inj _ _ (by rw[<-h3];exact g2.symm)
  subst hx
  exact .inr ⟨j,e,v,h1,by simpa using h2,h3,g3,g1,tH F.nodup (List.mem_of_getElem? g1)⟩
def mp (T:Kv P κ β) (w:World) (b:Nat) (m:List (κ×β)):Prop:=∃es clock,w.heap[b]?=some (.map es clock)/\Fits T es clock m
theorem oW (w:World):mp T (w.alloc (.map #[] 0)) w.heap.size []:=⟨#[],0,(MapKept.heap_alloc w _).1,⟨stamped_empty 0,by simp,rfl,by simp⟩⟩
theorem mp.lt (h:mp T w b m):b<w.heap.size:=by
 obtain⟨es,clock,hb,_⟩:=h
 exact(Array.getElem?_eq_some_iff.1 hb).1
theorem mp.same (h:mp T w b m) (he:w'.heap[b]?=w.heap[b]?):mp T w' b m:=by
 obtain⟨es,clock,hb,F⟩:=h
 exact⟨es,clock,he.trans hb,F⟩
theorem mp.alloc (h:mp T w b m) (o:Obj):mp T (w.alloc o) b m:=h.same ((MapKept.heap_alloc w o).2 b h.lt)
theorem mp.drew (h:mp T w b m):mp T w.drew b m:=h.same rfl
theorem mp.drewN (h:mp T w b m) (n:Nat):mp T (w.drewN n) b m:=h.same rfl
theorem mp.nodup (h:mp T w b m):(m.map Prod.fst).Nodup:=by
 obtain⟨es,clock,hb,F⟩:=h
 exact F.nodup
theorem mp.length (h:mp T w b m):m.length<=maxLen:=by
 obtain⟨es,clock,hb,F⟩:=h
 have:=F.length
 have:=F.size
 omega
theorem mp.ok (h:mp T w b m):∀p∈m,T.ok p.1:=by
 obtain⟨es,clock,hb,F⟩:=h
 exact F.ok
theorem mp.set (h:mp T w b m) {a:Addr} (ha:b≠a.block) (u:Value):mp T (w.setCell a u) b m:=h.same (RowKit.Below.heap_setCell _ _ _ _ ha)
theorem mp.grown {row:Option Nat} (h:mp T w b m) (hg:w.grownBy w' row) (hne:some b≠row):mp T w' b m:=h.same (hg.block b h.lt hne)
theorem mp.look [DecidableEq κ] (h:mp T w b m) {a:κ} (ha:T.ok a):(Instr.lookup T.t (.map (some b)) (T.kv a) false).run P w= .ok (T.vv ((get m a).getD T.z)) w:=by
 obtain⟨es,clock,hb,F⟩:=h
 obtain⟨l,hl⟩:=T.key a ha
 rcases F.find w ha with⟨h1,_,h3⟩|⟨j,e,v,h1,h2,h3,h4,_,h6⟩
 ·rw[h3]
  simp[Instr.lookup,run_underlying T.ht,MapKept.run_getObj_map hb,T.law.check w es.isEmpty hl,h1,T.hz,Result.andThen]
 ·rw[h6]
  simp[Instr.lookup,run_underlying T.ht,MapKept.run_getObj_map hb,T.law.check w es.isEmpty hl,h1,h4,Result.andThen]
theorem mp.Qo [DecidableEq κ] (h:mp T w b m) {a:κ} (ha:T.ok a):(Instr.lookup T.t (.map (some b)) (T.kv a) true).run P w= .ok (.tuple #[T.vv ((get m a).getD T.z),.bool (get m a).isSome]) w:=by
 obtain⟨es,clock,hb,F⟩:=h
 obtain⟨l,hl⟩:=T.key a ha
 rcases F.find w ha with⟨h1,_,h3⟩|⟨j,e,v,h1,h2,h3,h4,_,h6⟩
 ·rw[h3]
  simp[Instr.lookup,run_underlying T.ht,MapKept.run_getObj_map hb,T.law.check w es.isEmpty hl,h1,T.hz,Result.andThen]
 ·rw[h6]
  simp[Instr.lookup,run_underlying T.ht,MapKept.run_getObj_map hb,T.law.check w es.isEmpty hl,h1,h4,Result.andThen]
theorem mp.len (h:mp T w b m) (ty:TypeId):(Builtin.len_ #[T.t] ty #[.map (some b)]).run P w= .ok (.int .i64 m.length) w:=by
 obtain⟨es,clock,hb,F⟩:=h
 have:=F.length
 simp[Builtin.len_,run_underlying T.ht,MapKept.run_getObj_map hb,goInt,Result.andThen,this]
theorem aab [DecidableEq κ] {f:κ×β->Value×Value} (hf:∀x y u v,(f (x,u)).1=(f (y,v)).1->x=y) {a:κ} {v u:β}:∀{m:List (κ×β)} {j:Nat},(m.map Prod.fst).Nodup->m[j]?=some (a,v)->(put m a u).map f=(m.map f).set j (f (a,u))
 |[],_,_,h=>by simp at h
 |(x,y)::m,0,_,h=>by
  simp at h
  rw[put,if_pos h.1]
  rfl
 |(x,y)::m,j+1,hn,h=>by
  simp at h
  rw[List.map_cons,List.nodup_cons] at hn
  have hm:(a,v)∈m:=List.mem_of_getElem? h
  rw[put,if_neg (fun e=>hn.1 (by subst e;exact List.mem_map.2 ⟨_,hm,rfl⟩)),List.map_cons,List.map_cons,aab hf hn.2 h]
  rfl
theorem aac [DecidableEq κ] (hm:∀p∈m,T.ok p.1) {a:κ} (ha:T.ok a) (u:β):∀p∈put m a u,T.ok p.1:=fun p hp=>by
 rcases ET p hp with rfl|h
 ·exact ha
 ·exact hm p h
theorem Fits.new [DecidableEq κ] {es:Array MapEntry} {clock:Nat} (F:Fits T es clock m) (hsz:m.length<maxLen) {a:κ} (ha:T.ok a) (hn:∀e∈es.toList,e.key≠T.kv a) (hg:get m a=none) (u:β):Fits T (es.push ⟨T.kv a,T.vv u,clock⟩) (clock+1) (put m a u):=by
 refine⟨stamped_push F.st hn,by have:=F.length;simp;omega,?_,aac F.ok ha u⟩
 rw[KA hg]
 simp[F.is]
theorem Fits.over [DecidableEq κ] {es:Array MapEntry} {clock:Nat} (F:Fits T es clock m) {a:κ} {j:Nat} {e:MapEntry} {v:β} (ha:T.ok a) (hj:es[j]?=some e) (hk:e.key=T.kv a) (hm:m[j]?=some (a,v)) (u:β):
  Fits T (es.modify j (fun e'=>{e' with key:=T.kv a,val:=T.vv u})) clock (put m a u):=by
 have hj':es.toList[j]?=some e:=by simpa using hj
 refine⟨stamped_modify F.st _ _ (fun _ _=>rfl) (fun e' _ he'=>by rw[hj] at he';cases he';exact hk.symm),by simpa using F.size,?_,aac F.ok ha u⟩
 rw[aab (f:=fun p=>(T.kv p.1,T.vv p.2)) (fun x y u v h=>T.inj x y h) F.nodup hm,<-F.is,Array.toList_modify,modify_eq_set _ _ _ _ hj',List.map_set]
theorem mp.store [DecidableEq κ] (h:mp T w b m) (hsz:m.length<maxLen) {a:κ} (ha:T.ok a) (u:β):∃w',(Instr.mapUpdate T.t (.map (some b)) (T.kv a) (T.vv u)).run P w= .ok () w'/\mp T w' b (put m a u)/\w.mapTurned w' b:=by
 obtain⟨es,clock,hb,F⟩:=h
 obtain⟨l,hl⟩:=T.key a ha
 rcases F.find w ha with⟨h1,h2,h3⟩|⟨j,e,v,h1,h2,h3,h4,h5,h6⟩
 ·refine⟨setBlock w b (.map (es.push ⟨T.kv a,T.vv u,clock⟩) (clock+1)),?_,⟨_,_,heap_setBlock_same hb _,F.new hsz ha h2 h3 u⟩,⟨es,clock,_,_,hb,rfl⟩⟩
  simp[Instr.mapUpdate,run_underlying T.ht,MapKept.run_getObj_map hb,T.law.check w false hl,h1,MapKept.run_setObj_map _ hb,Result.andThen,setBlock]
 ·refine⟨setBlock w b (.map (es.modify j (fun e'=>{e' with key:=T.kv a,val:=T.vv u})) clock),?_,⟨_,_,heap_setBlock_same hb _,F.over ha h2 h3 h5 u⟩,⟨es,clock,_,_,hb,rfl⟩⟩
  simp[Instr.mapUpdate,run_underlying T.ht,MapKept.run_getObj_map hb,T.law.check w false hl,h1,h2,h3,T.law.stays w hl,MapKept.run_setObj_map _ hb,Result.andThen,setBlock]
theorem vZ (w:World) (b:Nat) (o o':Obj):setBlock (setBlock w b o) b o'=setBlock w b o':=by simp[setBlock]
theorem IA {t:TypeId} {es:Array MapEntry} {clock st j:Nat} {v:Value} (hb:w.heap[b]?=some (.map es clock)) (hi:es.findIdx? (fun e=>((e.born:Nat):Int)==((st:Nat):Int))=some j):
  (Instr.entryStore t (.map (some b)) (.int .i64 st) v).run P w= .ok () (setBlock w b (.map (es.modify j fun e=>{e with val:=v}) clock)):=by
 simp[Instr.entryStore,MapKept.run_getObj_map hb,asInt,asIntOf,hi,MapKept.run_setObj_map _ hb,Result.andThen,setBlock]
theorem mp.entry [DecidableEq κ] (h:mp T w b m) (hsz:m.length<maxLen) {a:κ} (ha:T.ok a):∃(st:Nat) (w1:World),(Instr.mapEntry T.t (.map (some b)) (T.kv a)).run P w= .ok (.tuple #[T.vv ((get m a).getD T.z),.int .i64 st]) w1/\w.mapTurned w1 b/\
  (Instr.lookup T.t (.map (some b)) (T.kv a) false).run P w1= .ok (T.vv ((get m a).getD T.z)) w1/\
  ∀u,∃w2,(Instr.entryStore T.t (.map (some b)) (.int .i64 st) (T.vv u)).run P w1= .ok () w2/\mp T w2 b (put m a u)/\w.mapTurned w2 b:=by
 obtain⟨es,clock,hb,F⟩:=h
 obtain⟨l,hl⟩:=T.key a ha
 obtain⟨s1,s2,_⟩:=(stamped_iff es clock).1 F.st
 rcases F.find w ha with⟨h1,h2,h3⟩|⟨j,e,v,h1,h2,h3,h4,h5,h6⟩
 ·have F1:=F.new hsz ha h2 h3 T.z
  have hb1:=heap_setBlock_same hb (.map (es.push ⟨T.kv a,T.vv T.z,clock⟩) (clock+1))
  have hl1:=mp.look ⟨_,_,hb1,F1⟩ ha
  rw[get_put,if_pos rfl,Option.getD_some] at hl1
  refine⟨clock,setBlock w b (.map (es.push ⟨T.kv a,T.vv T.z,clock⟩) (clock+1)),?_,⟨es,clock,_,_,hb,rfl⟩,?_,fun u=>⟨setBlock w b (.map (es.push ⟨T.kv a,T.vv u,clock⟩) (clock+1)),?_,⟨_,_,heap_setBlock_same hb _,F.new hsz ha h2 h3 u⟩,⟨es,clock,_,_,hb,rfl⟩⟩⟩
  ·rw[h3,Option.getD_none]
   simp[Instr.mapEntry,run_underlying T.ht,MapKept.run_getObj_map hb,T.law.check w false hl,h1,T.hz,MapKept.run_setObj_map _ hb,Result.andThen,setBlock,goInt]
  ·rw[h3,Option.getD_none]
   exact hl1
  ·have hidx:(es.push ⟨T.kv a,T.vv T.z,clock⟩).findIdx? (fun e=>((e.born:Nat):Int)==((clock:Nat):Int))=some es.size:=by
    rw[WideElems.findIdx_arr]
    exact WideElems.findIdx_born (l:=(es.push ⟨T.kv a,T.vv T.z,clock⟩).toList) (j:=es.size) (e0:=⟨T.kv a,T.vv T.z,clock⟩) (by
     simp only[Array.toList_push,List.map_append,List.map_cons,List.map_nil]
     refine List.nodup_append.2 ⟨s2,by simp,fun a ha c hc e1=>?_⟩
     simp only[List.mem_singleton] at hc
     obtain⟨x,hx,rfl⟩:=List.mem_map.1 ha
     have:=s1 x hx
     omega) (by simp)
   have hmod:(es.push ⟨T.kv a,T.vv T.z,clock⟩).modify es.size (fun e=>{e with val:=T.vv u})=es.push ⟨T.kv a,T.vv u,clock⟩:=by
    apply Array.ext'
    rw[Array.toList_modify,Array.toList_push,Array.toList_push,<-Array.length_toList,WideElems.modify_last]
   rw[IA hb1 hidx,hmod,vZ]
 ·have hj:es.toList[j]?=some e:=by simpa using h2
  have hsame:es.modify j (fun e=>{e with key:=T.kv a})=es:=by
   apply Array.ext'
   rw[Array.toList_modify,modify_eq_set _ _ _ _ hj]
   have:({e with key:=T.kv a}:MapEntry)=e:=by rw[<-h3]
   rw[this]
   exact WideElems.set_self _ _ _ hj
  have hlk:=mp.look ⟨_,_,heap_setBlock_same hb (.map es clock),F⟩ ha
  have hb1:=heap_setBlock_same hb (.map es clock)
  refine⟨e.born,setBlock w b (.map es clock),?_,⟨es,clock,_,_,hb,rfl⟩,hlk,fun u=>⟨setBlock w b (.map (es.modify j (fun e'=>{e' with key:=T.kv a,val:=T.vv u})) clock),?_,⟨_,_,heap_setBlock_same hb _,F.over ha h2 h3 h5 u⟩,⟨es,clock,_,_,hb,rfl⟩⟩⟩
  ·rw[h6,Option.getD_some,<-h4]
   simp[Instr.mapEntry,run_underlying T.ht,MapKept.run_getObj_map hb,T.law.check w false hl,h1,h2,h3,T.law.stays w hl,hsame,MapKept.run_setObj_map _ hb,Result.andThen,setBlock,goInt]
  ·have hidx:es.findIdx? (fun e'=>((e'.born:Nat):Int)==((e.born:Nat):Int))=some j:=by
    rw[WideElems.findIdx_arr]
    exact WideElems.findIdx_born s2 hj
   have hmod:es.modify j (fun e=>{e with val:=T.vv u})=es.modify j (fun e'=>{e' with key:=T.kv a,val:=T.vv u}):=by
    apply Array.ext'
    rw[Array.toList_modify,Array.toList_modify,modify_eq_set _ _ _ _ hj,modify_eq_set _ _ _ _ hj,<-h3]
   rw[IA hb1 hidx,hmod,vZ]
theorem mp.drop [DecidableEq κ] (h:mp T w b m) {a:κ} (ha:T.ok a) (ty:TypeId):∃w',(Builtin.delete_ #[T.t,T.k] ty #[.map (some b),T.kv a]).run P w= .ok (.tuple #[]) w'/\mp T w' b (del m a)/\w.mapTurned w' b:=by
 obtain⟨es,clock,hb,F⟩:=h
 obtain⟨l,hl⟩:=T.key a ha
 rcases F.find w ha with⟨h1,h2,h3⟩|⟨j,e,v,h1,h2,h3,h4,h5,h6⟩
 ·refine⟨setBlock w b (.map es clock),?_,⟨_,_,heap_setBlock_same hb _,?_⟩,⟨es,clock,_,_,hb,rfl⟩⟩
  ·simp[Builtin.delete_,run_underlying T.ht,MapKept.run_getObj_map hb,T.law.check w _ hl,h1,MapKept.run_setObj_map _ hb,Result.andThen,setBlock]
  ·rw[show del m a=m from List.filter_eq_self.2 fun p hp=>by simpa using get_none.1 h3 p hp]
   exact F
 ·have hjl:j<es.toList.length:=by simpa using(Array.getElem?_eq_some_iff.1 h2).1
  have hjs:j<es.size:=by simpa using hjl
  have hsub:(es.eraseIdxIfInBounds j).toList=es.toList.eraseIdx j:=by
   unfold Array.eraseIdxIfInBounds
   rw[dif_pos hjs]
   simp
  have hdel:∀{m:List (κ×β)} {j:Nat},(m.map Prod.fst).Nodup->m[j]?=some (a,v)->del m a=m.eraseIdx j:=by
   intro m
   induction m with
   |nil=>intro j _ h;simp at h
   |cons p m ih=>
    intro j hn h
    rw[List.map_cons,List.nodup_cons] at hn
    cases j with
    |zero=>
     simp at h
     subst h
     unfold del
     rw[List.filter_cons_of_neg (by simp)]
     exact List.filter_eq_self.2 fun q hq=>by
      simp only[decide_eq_true_eq]
      exact fun e=>hn.1 (List.mem_map.2 ⟨q,hq,e⟩)
    |succ j=>
     simp at h
     have hm:(a,v)∈m:=List.mem_of_getElem? h
     unfold del at ih ⊢
     rw[List.filter_cons_of_pos (by simp only[decide_eq_true_eq];exact fun e=>hn.1 (by rw[e];exact List.mem_map.2 ⟨_,hm,rfl⟩)),ih hn.2 h]
     rfl
  refine⟨setBlock w b (.map (es.eraseIdxIfInBounds j) clock),?_,⟨_,_,heap_setBlock_same hb _,⟨stamped_erase F.st j,Nat.le_trans (MapFrom.size_erase es j) F.size,?_,fun p hp=>F.ok p ((List.mem_filter.1 hp).1)⟩⟩,⟨es,clock,_,_,hb,rfl⟩⟩
  ·simp[Builtin.delete_,run_underlying T.ht,MapKept.run_getObj_map hb,T.law.check w _ hl,h1,MapKept.run_setObj_map _ hb,Result.andThen,setBlock]
  ·rw[hsub,hdel F.nodup h5,map_eraseIdx,map_eraseIdx,F.is]
def ow (T:Kv P κ β) (w:World) (b r:Nat) (m todo:List (κ×β)):Prop:=
 ∃es clock since seen c0,w.heap[b]?=some (.map es clock)/\Fits T es clock m/\w.heap[r]?=some (.mapIter (some b) since seen c0)/\(∀x∈es.toList,x.born<since)/\since<=c0/\since<=clock/\
  todo=((es.toList.zip m).filter fun q=> !seen.contains q.1.born).map Prod.snd
theorem ow.mp (h:ow T w b r m todo):mp T w b m:=by
 obtain⟨es,clock,since,seen,c0,hb,F,_⟩:=h
 exact⟨es,clock,hb,F⟩
theorem ow.lt (h:ow T w b r m todo):r<w.heap.size:=by
 obtain⟨es,clock,since,seen,c0,hb,F,hr,_⟩:=h
 exact(Array.getElem?_eq_some_iff.1 hr).1
theorem ow.ne (h:ow T w b r m todo):r≠b:=by
 obtain⟨es,clock,since,seen,c0,hb,F,hr,_⟩:=h
 intro e
 rw[e,hb] at hr
 cases hr
theorem ow.same (h:ow T w b r m todo) (h1:w'.heap[b]?=w.heap[b]?) (h2:w'.heap[r]?=w.heap[r]?):ow T w' b r m todo:=by
 obtain⟨es,clock,since,seen,c0,hb,F,hr,rest⟩:=h
 exact⟨es,clock,since,seen,c0,h1.trans hb,F,h2.trans hr,rest⟩
theorem ow.alloc (h:ow T w b r m todo) (o:Obj):ow T (w.alloc o) b r m todo:=h.same ((MapKept.heap_alloc w o).2 b h.mp.lt) ((MapKept.heap_alloc w o).2 r h.lt)
theorem ow.below (h:ow T w b r m todo) (hB:RowKit.Below w.heap.size w w'):ow T w' b r m todo:=h.same (hB.block b h.mp.lt) (hB.block r h.lt)
theorem zip_sub {α γ:Type} (p:α×γ->Bool) (l:List α) (m:List γ):(((l.zip m).filter p).map Prod.snd).Sublist m:=by
 induction l generalizing m with
 |nil=>simp
 |cons x l ih=>
  cases m with
  |nil=>simp
  |cons y m=>
   rw[List.zip_cons_cons,List.filter_cons]
   split
   ·exact(ih m).cons_cons y
   ·exact(ih m).cons y
theorem ow.sub (h:ow T w b r m todo):todo.Sublist m:=by
 obtain⟨es,clock,since,seen,c0,hb,F,hr,_,_,_,rfl⟩:=h
 exact zip_sub _ _ _
theorem zip_fst {α γ:Type}:∀(l:List α) (m:List γ),l.length=m.length->(l.zip m).map Prod.fst=l/\(l.zip m).map Prod.snd=m
 |[],[],_=>⟨rfl,rfl⟩
 |[],_::_,h=>by simp at h
 |_::_,[],h=>by simp at h
 |x::l,y::m,h=>by
  have:=zip_fst l m (by simpa using h)
  exact⟨by rw[List.zip_cons_cons,List.map_cons,this.1],by rw[List.zip_cons_cons,List.map_cons,this.2]⟩
theorem mp.range (h:mp T w b m):∃w',(Instr.range T.t (.map (some b))).run P w= .ok (.pointer (some ⟨w.heap.size,0,none⟩)) w'/\ow T w' b w.heap.size m m/\w.grownBy w' none/\w'.heap.size=w.heap.size+1:=by
 have hlt:=h.lt
 obtain⟨es,clock,hb,F⟩:=h
 have hlen:es.toList.length=m.length:=by simpa using F.length
 refine⟨_,run_range_map w T.t T.k T.e b es clock T.ht hb,⟨es,clock,clock,#[],clock,((MapKept.heap_alloc w _).2 b hlt).trans hb,F,(MapKept.heap_alloc w _).1,((stamped_iff es clock).1 F.st).1,Nat.le_refl _,Nat.le_refl _,?_⟩,World.grownBy_alloc w _ none,by simp⟩
 rw[List.filter_eq_self.2 (fun q _=>by simp),(zip_fst _ _ hlen).2]
theorem wF {α γ:Type} (p:α->Bool):∀(l:List α) (m:List γ),l.length=m.length->(((l.zip m).filter fun q=>p q.1).map Prod.snd).length=(l.filter p).length
 |[],[],_=>rfl
 |[],_::_,h=>by simp at h
 |_::_,[],h=>by simp at h
 |x::l,y::m,h=>by
  have:=wF p l m (by simpa using h)
  rw[List.zip_cons_cons,List.filter_cons,List.filter_cons]
  cases hp:p x
  ·simp only[hp,Bool.false_eq_true,if_false]
   exact this
  ·simp only[hp,if_true,List.map_cons,List.length_cons]
   rw[this]
theorem ow.left (h:ow T w b r m todo):w.rangeLeft b r=todo.length:=by
 obtain⟨es,clock,since,seen,c0,hb,F,hr,_,_,_,rfl⟩:=h
 have hlen:es.toList.length=m.length:=by simpa using F.length
 rw[wF (fun e:MapEntry=> !seen.contains e.born) es.toList m hlen]
 simp only[World.rangeLeft,hb,hr,leftOf]
 rw[<-Array.toList_filter,Array.length_toList]
theorem ow.next [DecidableEq κ] (h:ow T w b r m todo) (ty:TypeId):
  (todo=[]/\(Instr.next (.pointer (some ⟨r,0,none⟩)) false ty).run P w= .ok (.tuple #[.bool false]) w)\/
  ∃x v w',(x,v)∈todo/\(Instr.next (.pointer (some ⟨r,0,none⟩)) false ty).run P w= .ok (.tuple #[.bool true,T.kv x,T.vv v]) w'/\ow T w' b r m (del todo x)/\w.grownBy w' (some r)/\w'.heap.size=w.heap.size/\
   (Instr.entry (.pointer (some ⟨r,0,none⟩))).run P w'= .ok (.tuple #[T.kv x,T.vv v]) w':=by
 have hne:=h.ne
 obtain⟨es,clock,since,seen,c0,hb,F,hr,hold,hsc,hsk,rfl⟩:=h
 have hlen:es.toList.length=m.length:=by simpa using F.length
 have hst:=(stamped_iff es clock).1 F.st
 rcases run_next_at (P:=P) w ty r b since c0 seen es clock hr hb hold hsc with⟨h0,hrun⟩|⟨e,he,w1,hal,hrun⟩
 ·refine .inl ⟨?_,hrun⟩
  have h1:∀x∈es.toList,seen.contains x.born=true:=fun x hx=>by
   have:=all_seen es seen h0 x hx
   simpa using this
  rw[List.filter_eq_nil_iff.2 (fun q hq=>by
   have:=h1 q.1 (List.of_mem_zip hq).1
   simp only[this]
   simp)]
  rfl
 ·obtain⟨hem,hes⟩:=mem_left he
  obtain⟨j,hj⟩:=List.getElem?_of_mem hem
  obtain⟨⟨x,v⟩,hm,hk,hv⟩:=F.from (by simpa using hj)
  have hr1:w1.heap[r]?=some (.mapIter (some b) since seen c0):=by rcases hal with rfl|rfl<;>exact hr
  have hb1:w1.heap[b]?=some (.map es clock):=by rcases hal with rfl|rfl<;>exact hb
  have hset:=heap_set (o':= .mapIter (some b) since (seen.push e.born) clock) hr1
  have hb':(setBlock w1 r (.mapIter (some b) since (seen.push e.born) clock)).heap[b]?=some (.map es clock):=(hset.2 b (fun e1=>hne e1.symm)).trans hb1
  have hz:(es.toList.zip m)[j]?=some (e,(x,v)):=by
   rw[List.getElem?_zip_eq_some]
   exact⟨hj,hm⟩
  have hent:(Instr.entry (.pointer (some ⟨r,0,none⟩))).run P (setBlock w1 r (.mapIter (some b) since (seen.push e.born) clock))= .ok (.tuple #[T.kv x,T.vv v]) (setBlock w1 r (.mapIter (some b) since (seen.push e.born) clock)):=by
   rw[run_entry_at _ r b since seen es clock e hset.1 hb' hem hst.2.1,hk,hv]
  refine .inr ⟨x,v,_,?_,by rw[hrun,hk,hv],⟨es,clock,since,seen.push e.born,clock,hb',F,hset.1,hold,hsk,hsk,?_⟩,?_,?_,hent⟩
  ·refine List.mem_map.2 ⟨(e,(x,v)),List.mem_filter.2 ⟨List.mem_of_getElem? hz,?_⟩,rfl⟩
   simp only[Bool.not_eq_true']
   simpa using hes
  ·unfold del
   rw[List.filter_map,List.filter_filter]
   congr 1
   apply List.filter_congr
   intro q hq
   obtain⟨i,hi⟩:=List.getElem?_of_mem hq
   rw[List.getElem?_zip_eq_some] at hi
   obtain⟨p,hp,hpk,_⟩:=F.from (by simpa using hi.1)
   rw[hi.2] at hp
   cases hp
   have hqe:q.1.born=e.born↔q.2.1=x:=by
    constructor
    ·intro hbe
     obtain hqe:=born_inj hst.2.1 (List.mem_of_getElem? hi.1) hem hbe
     exact T.inj _ _ (by rw[<-hpk,hqe,hk])
    ·intro hx
     have hqe:=entry_eq_of_key hst.2.2 (List.mem_of_getElem? hi.1) hem (by rw[hpk,hk,hx])
     rw[hqe]
   rw[contains_push]
   simp only[Function.comp]
   by_cases hx:q.2.1=x
   ·have:=hqe.2 hx
    simp[hx,this]
   ·have:¬q.1.born=e.born:=fun e1=>hx (hqe.1 e1)
    simp[hx,this]
  ·rcases hal with rfl|rfl<;>exact⟨rfl,rfl,rfl,by simp[setBlock],fun i _ hi=>hset.2 i (fun e1=>hi (by rw[e1]))⟩
  ·rcases hal with rfl|rfl<;>simp[setBlock]
end
section
variable {P:Program} {κ β:Type} {T:Kv P κ β} {b r:Nat} {m todo:List (κ×β)} (w:World) {ops:Array Oper} {rest:List Oper} {o:Oper} {a:Act} {Q:Exit->Act->World->Prop}
theorem oH (hg:o.guard=none) (mo:Operand) (t:TypeId) (et:T.t=t) (hop:o.op=Op.range t mo) (hm:a.eval mo= .map (some b)) (h:mp T w b m)
  (hK:∀w',ow T w' b w.heap.size m m->w.grownBy w' none->w'.heap.size=w.heap.size+1->wpList P ops Q rest (a.put o.dst (.pointer (some ⟨w.heap.size,0,none⟩))) w'):
  wpList P ops Q (o::rest) a w:=by
 subst et
 refine wpList_plain hg fun K' hK'=>?_
 obtain⟨w',hrun,r1,r2,r3⟩:=h.range
 unfold Oper.wp
 simp[execOp,hop,hm,hrun,Result.andThen]
 exact hK' _ _ (hK w' r1 r2 r3)
theorem qh [DecidableEq κ] (hg:o.guard=none) (it:Operand) (hop:o.op=Op.next it false) (hit:a.eval it= .pointer (some ⟨r,0,none⟩)) (h:ow T w b r m todo) (mk:κ->Value) (mv:β->Value) (ek:T.kv=mk) (ev:T.vv=mv)
  (hDone:todo=[]->wpList P ops Q rest (a.put o.dst (.tuple #[.bool false])) w)
  (hMore:∀x v w',(x,v)∈todo->ow T w' b r m (del todo x)->w.grownBy w' (some r)->w'.heap.size=w.heap.size->(Instr.entry (.pointer (some ⟨r,0,none⟩))).run P w'= .ok (.tuple #[mk x,mv v]) w'->wpList P ops Q rest (a.put o.dst (.tuple #[.bool true,mk x,mv v])) w'):
  wpList P ops Q (o::rest) a w:=by
 subst ek ev
 refine wpList_plain hg fun K' hK'=>?_
 unfold Oper.wp
 rcases h.next o.type with⟨h0,hrun⟩|⟨x,v,w',hx,hrun,hr,hgr,hsz,hen⟩
 ·simp[execOp,hop,hit,hrun,Result.andThen]
  exact hK' _ _ (hDone h0)
 ·simp[execOp,hop,hit,hrun,Result.andThen]
  exact hK' _ _ (hMore x v w' hx hr hgr hsz hen)
end
theorem nE {κ β:Type} [DecidableEq κ] {m:List (κ×β)} {x:κ} {v:β} (h:(x,v)∈m):(del m x).length<m.length:=by
 unfold del
 induction m with
 |nil=>simp at h
 |cons p m ih=>
  rw[List.filter_cons]
  rcases List.mem_cons.1 h with h|h
  ·subst h
   rw[if_neg (by simp)]
   have:=List.length_filter_le (fun p:κ×β=>decide (p.1≠x)) m
   simp only[List.length_cons]
   omega
  ·have:=ih h
   split<;>simp only[List.length_cons]<;>omega
end Go.Proofs.YtilpincgjlclpaaGreat.Mp
end
section
namespace Go.Proofs.ae.au
open Go.RowKit
structure ai (p:Prop):Prop where mk::(out:p)
structure aJ (w w':World):Prop where mk::(out:∃n,w'=w.drewN n)
theorem aJ.refl (w:World):aJ w w:=⟨⟨0,rfl⟩⟩
theorem aJ.step {w w':World} (h:aJ w w') (n:Nat):aJ w (w'.drewN n):=by
 obtain⟨m,rfl⟩:=h
 exact⟨⟨m+n,World.drewN_drewN ..⟩⟩
def rd (xs:List Int) (i:Int):Int:=xs.getD i.toNat 0
def bt (s:ByteArray) (i:Int):Int:=if h:i.toNat<s.size then((s[i.toNat]'h).toNat:Int) else 0
def nums (k:IntKind) (xs:List Int):List Value:=xs.map fun x=> .int k x
theorem ag {w W:World} (h:Below w.heap.size w W) (o:Obj):Below w.heap.size w (W.alloc o):=h.alloc h.size o
theorem af {B:Nat} {w W:World} (h:Below B w W) (n:Nat):Below B w (W.drewN n):=⟨h.os,h.tape,h.output,h.size,h.block⟩
theorem Ps {B:Nat} {w w1 w2:World} (h:Below B w w1) (hB:B<=w1.heap.size) (k:Below w1.heap.size w1 w2):Below B w w2:=
 h.trans ⟨k.os,k.tape,k.output,k.size,fun i hi=>k.block i (Nat.lt_of_lt_of_le hi hB)⟩
theorem Gt {w w1:World} (h:Below w.heap.size w w1) {a:Addr} {v:Value} (hc:w.cell? a=some v):w1.cell? a=some v:=(h.cell (World.block_lt_of_cell? w a hc)).trans hc
def LK (w:World) (k:IntKind) (A:Option Addr) (n:Nat) (xs:List Int):Prop:=
 xs.length=n/\n<=9223372036854775807/\(0<n->∃ad,A=some ad/\∀j,j<n->w.cell? (ad.add j)=some (.int k (xs.getD j 0)))
theorem LK.at_ {w:World} {k:IntKind} {A:Option Addr} {n:Nat} {xs:List Int} (h:LK w k A n xs) (i:Int) (h0:0<=i) (h1:i<n):∃ad,A=some ad/\w.cell? (ad.add i.toNat)=some (.int k (rd xs i)):=by
 obtain⟨ad,e,hc⟩:=h.2.2 (by omega)
 exact⟨ad,e,hc _ (by omega)⟩
theorem own_nil (W:World) (base:Nat) (e:TypeId) (size:Nat):W.ownsRow base e size (.slice none 0 0) 0 []:=⟨by simp,.inl ⟨rfl,rfl⟩⟩
theorem jD {w:World} {base:Nat} {e:TypeId} {size n:Nat} {v:Value} {xs:List Value} (h:w.ownsRow base e size v n xs) (k:Nat) (hk:v.ownBlock=some k):base<=k:=by
 rcases h.2 with⟨rfl,_⟩|⟨g,cap,cur,rfl,hb,_⟩
 ·simp[Value.ownBlock] at hk
 ·have:g=k:=by simpa[Value.ownBlock] using hk
  omega
theorem eG {w:World} {base:Nat} {e:TypeId} {size n:Nat} {v:Value} {xs:List Value} (h:w.ownsRow base e size v n xs) (k:Nat) (hk:v.ownBlock=some k):k<w.heap.size:=by
 rcases h.2 with⟨rfl,_⟩|⟨g,cap,cur,rfl,hb,hh,_⟩
 ·simp[Value.ownBlock] at hk
 ·have:g=k:=by simpa[Value.ownBlock] using hk
  subst this
  exact(Array.getElem?_eq_some_iff.1 hh).1
theorem Qv {P:Program} {w:World} {base n:Nat} {e' src dst e:TypeId} {v:Value} {xs:List Int} (hs:P.underlying src=some (.slice e)) (he:P.underlying e=some (.int .u8)) (hd:P.underlying dst=some .string)
  (h:w.ownsRow base e' 1 v n (nums .u8 xs)):(convert src dst v).run P w= .ok (.string (strOfNums xs)) w:=by
 have hl:xs.length=n:=by have:=h.1;simp[nums] at this;exact this
 rcases h.2 with⟨rfl,rfl⟩|⟨g,cap,cur,rfl,_⟩
 ·obtain rfl:xs=[]:=List.eq_nil_of_length_eq_zero hl
  exact run_convert_bytes_nil w src e hs he 0 0 dst hd
 ·refine run_convert_bytes_arg w src e hs he g 0 n cap xs hl (fun i hi=>?_) dst hd
  have hc:=h.cells (g:=g) rfl i (.int .u8 (xs.getD i 0)) (by simp[nums,List.getElem?_eq_getElem (show i<xs.length by omega),List.getD_eq_getElem?_getD])
  have ha:(⟨g,0,none⟩:Addr).add i=⟨g,0+i,none⟩:=by unfold Addr.add;split<;>simp_all
  rwa[ha] at hc
def iM {α:Type} (a b:Option α):Prop:=∀r,a=some r->b=some r
theorem iM.refl {α:Type} (a:Option α):iM a a:=fun _ h=>h
theorem iM.none {α:Type} (b:Option α):iM Option.none b:=fun _ h=>by cases h
theorem iM.ite {α:Type} {c:Prop} [Decidable c] {a a' b b':Option α} (h:iM a a') (k:iM b b'):iM (if c then a else b) (if c then a' else b'):=by
 split
 ·exact h
 ·exact k
theorem iM.bind {α β:Type} {a a':Option α} {f f':α->Option β} (h:iM a a') (k:∀x,iM (f x) (f' x)):iM (a.bind f) (a'.bind f'):=by
 intro r hr
 obtain⟨x,hx,hf⟩:=Option.bind_eq_some_iff.1 hr
 exact Option.bind_eq_some_iff.2 ⟨x,h x hx,k x r hf⟩
def oP {α:Type} (R:α->List Value->Prop) (size:Nat) (ps:List α) (cs:List Value):Prop:=
 cs.length=ps.length*size/\∀j p,ps[j]?=some p->R p ((cs.drop (j*size)).take size)
theorem oP.none {α:Type} (R:α->List Value->Prop) (size:Nat):oP R size [] []:=⟨by simp,fun j p h=>by simp at h⟩
theorem oP.snoc {α:Type} {R:α->List Value->Prop} {size:Nat} {ps:List α} {cs c:List Value} {p:α} (h:oP R size ps cs) (hp:R p c) (hc:c.length=size):oP R size (ps++[p]) (cs++c):=by
 refine⟨by rw[List.length_append,h.1,hc,List.length_append,List.length_singleton,Nat.add_mul,Nat.one_mul],fun j q hq=>?_⟩
 rcases Nat.lt_or_ge j ps.length with hj|hj
 ·rw[List.getElem?_append_left hj] at hq
  have h1:j*size+size<=cs.length:=by rw[h.1,<-Nat.succ_mul];exact Nat.mul_le_mul_right _ hj
  have h2:=h.2 j q hq
  rw[List.drop_append_of_le_length (by omega),List.take_append_of_le_length (by rw[List.length_drop];omega)]
  exact h2
 ·have hj':j=ps.length:=by
   have:=(List.getElem?_eq_some_iff.1 hq).1
   rw[List.length_append,List.length_singleton] at this
   omega
  subst hj'
  have hq':p=q:=by simpa using hq
  subst hq'
  rw[<-h.1,List.drop_left,<-hc,List.take_length]
  exact hp
theorem oP.Cq {α:Type} {R R':α->List Value->Prop} {size:Nat} {ps:List α} {cs:List Value} (h:oP R size ps cs) (hR:∀p c,R p c->R' p c):oP R' size ps cs:=⟨h.1,fun j p hj=>hR _ _ (h.2 j p hj)⟩
def lT {α:Type} (R:α->List Value->Prop) (size:Nat) (w:World) (A:Option Addr) (n:Nat) (ps:List α):Prop:=
 ps.length=n/\n<=9223372036854775807/\(0<n->∃ad,A=some ad/\∀j p,ps[j]?=some p->∃c,c.length=size/\R p c/\∀i u,c[i]?=some u->w.cell? (ad.add (j*size+i))=some u)
theorem lT.get_ {α:Type} {R:α->List Value->Prop} {size:Nat} {w:World} {A:Option Addr} {n:Nat} {ps:List α} (h:lT R size w A n ps) (d:α) (i:Int) (h0:0<=i) (h1:i<n):
  ∃ad c,A=some ad/\c.length=size/\R (ps.getD i.toNat d) c/\∀j u,c[j]?=some u->w.cell? (ad.add (i.toNat*size+j))=some u:=by
 obtain⟨ad,e,hc⟩:=h.2.2 (by omega)
 have hl:i.toNat<ps.length:=by have:=h.1;omega
 obtain⟨c,hs,hr,hcell⟩:=hc i.toNat _ (List.getElem?_eq_getElem hl)
 refine⟨ad,c,e,hs,?_,hcell⟩
 rw[List.getD_eq_getElem?_getD,List.getElem?_eq_getElem hl]
 exact hr
theorem lT.Cq {α:Type} {R R':α->List Value->Prop} {size:Nat} {w w1:World} {A:Option Addr} {n:Nat} {ps:List α} (h:lT R size w A n ps) (hb:Below w.heap.size w w1) (hR:∀p c,R p c->R' p c):lT R' size w1 A n ps:=
 ⟨h.1,h.2.1,fun hn=>by
  obtain⟨ad,e,hc⟩:=h.2.2 hn
  refine⟨ad,e,fun j p hj=>?_⟩
  obtain⟨c,hs,hr,hcell⟩:=hc j p hj
  exact⟨c,hs,hR _ _ hr,fun i u hu=>Gt hb (hcell i u hu)⟩⟩
theorem Gr {α:Type} {R:α->List Value->Prop} {w:World} {base n size:Nat} {e:TypeId} {v:Value} {ps:List α} {cs:List Value} (h:w.ownsRow base e size v n cs) (hR:oP R size ps cs) (hn:ps.length=n):
  ∃A c,v= .slice A n c/\lT R size w A n ps:=by
 rcases Nat.eq_zero_or_pos n with h0|h0
 ·rcases h.2 with⟨rfl,rfl⟩|⟨g,cap,cur,rfl,_⟩
  ·exact⟨none,0,rfl,hn,by omega,fun hp=>absurd hp (by omega)⟩
  ·exact⟨_,cap,rfl,hn,by omega,fun hp=>absurd hp (by omega)⟩
 ·obtain⟨g,cap,rfl,_,_⟩:=h.form h0
  have hm:n<=9223372036854775807:=by
   rcases h.2 with⟨_,h1⟩|⟨g',cap',cur,he,_,_,h1,h2,_⟩
   ·omega
   ·simp only[maxLen] at h2
    omega
  refine⟨_,cap,rfl,hn,hm,fun _=>⟨_,rfl,fun j p hj=>⟨(cs.drop (j*size)).take size,?_,hR.2 j p hj,fun i u hu=>?_⟩⟩⟩
  ·have hjl:=(List.getElem?_eq_some_iff.1 hj).1
   have h1:j*size+size<=cs.length:=by rw[hR.1,<-Nat.succ_mul];exact Nat.mul_le_mul_right _ hjl
   rw[List.length_take,List.length_drop]
   omega
  ·refine h.cells (g:=g) rfl _ u ?_
   rw[List.getElem?_take] at hu
   split at hu
   ·rw[List.getElem?_drop] at hu
    exact hu
   ·cases hu
theorem wH (ad:Addr) (m j:Nat) (hj:0<j):ad.add (m+j)=⟨(ad.add m).block,(ad.add m).off+j,none⟩:=by
 unfold Addr.add
 by_cases hm:m=0
 ·subst hm
  simp[Nat.ne_of_gt hj]
 ·simp[hm,Nat.add_assoc]
section
variable {P:Program} {ops:Array Oper} {rest:List Oper} {o:Oper} {a:Act} {Q:Exit->Act->World->Prop}
theorem yt {w0 W:World} (base:Nat) (hgd:o.guard=none) (s x:Operand) (t e:TypeId) (z:Value) (size bytes:Nat)
  (ho:o.op= .call {callee:= .builtin .append,args:=#[s,x],argTypes:=#[t,t]})
  (ht:P.underlying t=some (.slice e)) (hinfo:(P.info? e).map (fun i=>(i.zero,i.size,i.bytes))=some (some z,size,bytes)) (hz:z.cells.size=size) (hs0:0<size) (hb0:0<bytes)
  (v:Value) (n:Nat) (xs ys:List Value) (hs:a.eval s=v) (hx:a.eval x= .slice (some ⟨W.heap.size,0,none⟩) 1 1) (hys:ys.length=size) (h1:∀u∈ys,u.oneCell'=true)
  (HO:W.ownsRow base e size v n xs) (HB:Below base w0 W) (hbase:base<=W.heap.size) (hl:(n+1)*bytes<=140737488355328)
  (h:∀v1 w1,w1.ownsRow base e size v1 (n+1) (xs++ys)->Below base w0 w1->W.grownBy w1 v.ownBlock->(v1.ownBlock=v.ownBlock\/∃b,v1.ownBlock=some b/\W.heap.size<=b)->wpList P ops Q rest (a.put o.dst v1) w1):
  wpList P ops Q (o::rest) a (W.alloc (.cells ys.toArray e)):=by
 obtain⟨i0,hi,hzz⟩:=Option.map_eq_some_iff.1 hinfo
 simp only[Prod.mk.injEq] at hzz
 obtain⟨hz0,hz1,hz2⟩:=hzz
 have hlen:n+1<=140737488355328:=Nat.le_trans (Nat.le_mul_of_pos_right _ hb0) hl
 refine wpList_append_own_at (W.alloc (.cells ys.toArray e)) hgd s x t ho base e i0 z size bytes ht hi hz0 hz1 hz2 hz hs0 v n xs hs (HO.alloc _) ⟨W.heap.size,0,none⟩ 1 1 ys hx (by rw[hys];simp)
  (by simpa using World.news_of_block (cs:=ys.toArray) (t:=e) (fr:=(0,0)) (heap_alloc_new W (.cells ys.toArray e))) h1 (by simp only[maxLen];omega) hl (by simp;omega) ?_
 intro v1 w1 hown hg _ hat
 refine h v1 w1 hown ((HB.alloc hbase _).grown hg (by simp;omega) (jD HO)) (World.grownBy.trans (World.grownBy_alloc W _ _) hg) ?_
 rcases hat with hat|hat
 ·exact .inl hat
 ·exact .inr ⟨_,hat,by simp⟩
end
theorem own_ne {w:World} {base:Nat} {e t:TypeId} {size n g:Nat} {v:Value} {xs:List Value} {cs:Array Value} (h:w.ownsRow base e size v n xs) (hg:w.heap[g]?=some (.cells cs t (0,0))) (hne:e≠t):some g≠v.ownBlock:=by
 rcases h.2 with⟨rfl,_⟩|⟨g',cap,cur,rfl,_,hh,_⟩
 ·simp[Value.ownBlock]
 ·intro he
  have:g=g':=by simpa[Value.ownBlock] using he
  subst this
  rw[hg] at hh
  injection hh with hh
  injection hh with _ ht
  exact hne ht.symm
theorem blk_set {w:World} {g:Nat} {t:TypeId} {cs:Array Value} (h:w.heap[g]?=some (.cells cs t (0,0))) (i:Nat) (u:Value):(w.setCell ⟨g,i,none⟩ u).heap[g]?=some (.cells (cs.setIfInBounds i u) t (0,0)):=by
 simp[World.setCell,Array.getElem?_modify,h]
theorem Sn {w:World} {g:Nat} {t:TypeId} {cs:Array Value} (h:w.heap[g]?=some (.cells cs t (0,0))) {p:Addr} (hp:g≠p.block) (u:Value):(w.setCell p u).heap[g]?=some (.cells cs t (0,0)):=(Below.heap_setCell w p u g hp).trans h
theorem bA {w:World} {g:Nat} {o:Obj} (h:w.heap[g]?=some o):g<w.heap.size:=(Array.getElem?_eq_some_iff.1 h).1
theorem ax {w:World} {g:Nat} {t:TypeId} {cs:Array Value} (h:w.heap[g]?=some (.cells cs t (0,0))) (i:Nat):w.cell? ⟨g,i,none⟩=cs[i]?:=cell_of_row w g i cs t (0,0) h
theorem ak {w:World} {g:Nat} {t:TypeId} {cs:Array Value} (h:w.heap[g]?=some (.cells cs t (0,0))) (i:Nat):w.frozen? ⟨g,i,none⟩=false:=by simp[World.frozen?,h]
theorem dF {w w1:World} {g:Nat} {o:Obj} {row:Option Nat} (h:w.heap[g]?=some o) (hg:w.grownBy w1 row) (hne:some g≠row):w1.heap[g]?=some o:=(hg.block g (bA h) hne).trans h
def Cx (w w':World) (g:Nat) (row:Option Nat):Prop:=w.heap.size<=w'.heap.size/\∀i,i<w.heap.size->i≠g->some i≠row->w'.heap[i]?=w.heap[i]?
theorem Cx.trans {w w1 w2:World} {g:Nat} {row row1:Option Nat} (h:Cx w w1 g row) (k:Cx w1 w2 g row1) (hr:row1=row\/∃b,row1=some b/\w.heap.size<=b):Cx w w2 g row:=
 ⟨Nat.le_trans h.1 k.1,fun i hi hg hn=>by
  refine(k.2 i (Nat.lt_of_lt_of_le hi h.1) hg ?_).trans (h.2 i hi hg hn)
  rcases hr with rfl|⟨b,rfl,hb⟩
  ·exact hn
  ·intro e
   injection e with e
   omega⟩
def Ev {α:Type} (g:Nat->Option α) (r:α):Prop:=∃K,∀k,K<=k->g k=some r
theorem Ev.step {α:Type} {g f:Nat->Option α} {r:α} (h:∀k,g (k+1)=f k) (k:Ev f r):Ev g r:=by
 obtain⟨K,k⟩:=k
 refine⟨K+1,fun n hn=>?_⟩
 obtain⟨m,rfl⟩:∃m,n=m+1:=⟨n-1,by omega⟩
 rw[h]
 exact k m (by omega)
theorem Qw {w:World} {base base':Nat} {e:TypeId} {size n:Nat} {v:Value} {xs:List Value} (h:w.ownsRow base e size v n xs) (hb:base'<=base):w.ownsRow base' e size v n xs:=by
 obtain⟨h1,h2⟩:=h
 refine⟨h1,?_⟩
 rcases h2 with h2|⟨g,cap,cur,rfl,hg,r⟩
 ·exact .inl h2
 ·exact .inr ⟨g,cap,cur,rfl,Nat.le_trans hb hg,r⟩
section
variable {α:Type} {enc:α->Value} {d:α}
def encs (enc:α->Value) (xs:List α):List Value:=xs.map enc
def dH (d:α) (xs:List α) (i:Int):α:=xs.getD i.toNat d
theorem MC (xs:List α):(encs enc xs).length=xs.length:=by simp[encs]
def yN (enc:α->Value) (d:α) (w:World) (A:Option Addr) (n:Nat) (xs:List α):Prop:=
 xs.length=n/\n<=9223372036854775807/\(0<n->∃ad,A=some ad/\∀j,j<n->w.cell? (ad.add j)=some (enc (xs.getD j d)))
theorem yN.at_ {w:World} {A:Option Addr} {n:Nat} {xs:List α} (h:yN enc d w A n xs) (i:Int) (h0:0<=i) (h1:i<n):∃ad,A=some ad/\w.cell? (ad.add i.toNat)=some (enc (dH d xs i)):=by
 obtain⟨ad,e,hc⟩:=h.2.2 (by omega)
 exact⟨ad,e,hc _ (by omega)⟩
end
def NeRow (v v':Value):Prop:=∀k,v.ownBlock=some k->v'.ownBlock≠some k
theorem ne_below {W w1:World} {v1 v':Value} {base n size n1 size1:Nat} {e e1:TypeId} {xs xs1:List Value} (h1:w1.ownsRow W.heap.size e1 size1 v1 n1 xs1) (ho:W.ownsRow base e size v' n xs):NeRow v1 v':=by
 intro k hk hk'
 have h2:=jD h1 k hk
 have h3:=eG ho k hk'
 omega
theorem fQ {w w1:World} {g:Nat} {o:Obj} (h:w.heap[g]?=some o) (hb:Below w.heap.size w w1):w1.heap[g]?=some o:=(hb.block g (bA h)).trans h
theorem blk_new (w:World) (o:Obj):(w.alloc o).heap[w.heap.size]?=some o:=heap_alloc_new w o
section
variable {P:Program}
theorem iV {fn:Func} {p u:Tmp} {ty:TypeId} (h:fn.results=#[.cell p ty,.tmp u]) (tmps:Array Value) (w:World) (g:Nat) (t:TypeId) (cs:Array Value) (fr:Nat×Nat) (d:TypeDesc)
  (hp:tmps.getD p undef= .pointer (some ⟨g,0,none⟩)) (hg:w.heap[g]?=some (.cells cs t fr))
  (hu:P.underlying ty=some d) (hd:(match d with| .struct _| .array _ _=>true|_=>false)=true) (hi:(P.info? ty).map (·.size)=some cs.size):
  (results fn tmps).run P w= .ok (.tuple #[.agg cs,tmps.getD u undef]) w:=by
 have hp':tmps[p]?.getD undef= .pointer (some ⟨g,0,none⟩):=by simpa using hp
 simp[results,h,hp',asAddr,run_loadVar_row w g t ty cs fr d hg hu hd hi]
end
theorem own_le {w:World} {base n m c size:Nat} {e:TypeId} {A:Option Addr} {xs:List Value} (h:w.ownsRow base e size (.slice A m c) n xs):m<=c:=by
 rcases h.2 with⟨he,_⟩|⟨g,cap,cur,he,_,_,hnc,_⟩
 ·injection he with _ h2 h3
  omega
 ·injection he with _ h2 h3
  omega
def nM {α:Type} (R:α->List Value->Prop) (e:TypeId) (size:Nat) (w:World) (base:Nat) (v:Value) (ps:List α):Prop:=
 ∃inner,w.ownsRow base e size v ps.length inner/\oP R size ps inner
section
variable {α:Type} {R R':α->List Value->Prop} {e:TypeId} {size:Nat} {w w1:World} {base:Nat} {v:Value} {ps:List α}
theorem nM.none_ (R:α->List Value->Prop) (e:TypeId) (size:Nat) (w:World) (base:Nat):nM R e size w base (.slice none 0 0) []:=⟨[],own_nil _ _ _ _,oP.none _ _⟩
theorem nM.Cq (h:nM R e size w base v ps) (hR:∀p c,R p c->R' p c):nM R' e size w base v ps:=by
 obtain⟨inner,ho,hr⟩:=h
 exact⟨inner,ho,hr.Cq hR⟩
theorem nM.reads (h:nM R e size w base v ps):∃A c,v= .slice A ps.length c/\ps.length<=c/\lT R size w A ps.length ps:=by
 obtain⟨inner,ho,hr⟩:=h
 obtain⟨A,c,rfl,hrow⟩:=Gr ho hr rfl
 exact⟨A,c,rfl,own_le ho,hrow⟩
theorem nM.ZG (h:nM R e size w base v ps) {g:Nat} {t:TypeId} {cells:Array Value} (hb:w.heap[g]?=some (.cells cells t (0,0))) (ht:e≠t):some g≠v.ownBlock:=by
 obtain⟨inner,ho,hr⟩:=h
 exact own_ne ho hb ht
end
structure Kd (α:Type) where
 sz:Nat
 E:List Nat
 K:World->α->List Value->Prop
 M:World->Nat->(Nat->Prop)->α->List Value->Prop
 oI:∀{w x cs},K w x cs->cs.length=sz
 pJ:∀{w x cs},K w x cs->∀u∈cs,u.oneCell'=true
 kN:∀{w w1:World} {x cs},Below w.heap.size w w1->K w x cs->K w1 x cs
 ku:∀{w base ok x cs},M w base ok x cs->K w x cs
 gP:∀{w base ok ok' x cs},(∀k,ok k->ok' k)->M w base ok x cs->M w base ok' x cs
 jP:∀{w:World} {base ok x cs},M w base ok x cs->M w base (fun k=>ok k/\base<=k/\k<w.heap.size/\∃q,q∈E/\∃cells,w.heap[k]?=some (.cells cells q (0,0))) x cs
 lK:∀{w w1:World} {base ok x cs},(∀k,ok k->w1.heap[k]?=w.heap[k]?)->M w base ok x cs->M w1 base ok x cs
 kP:∀{w base base' ok x cs},base'<=base->M w base ok x cs->M w base' ok x cs
theorem ZN {w w1:World} {base:Nat} {e:TypeId} {size n:Nat} {v:Value} {xs:List Value} (h:w.ownsRow base e size v n xs) (hm:∀k,v.ownBlock=some k->w1.heap[k]?=w.heap[k]?):w1.ownsRow base e size v n xs:=by
 obtain⟨h1,h2⟩:=h
 refine⟨h1,?_⟩
 rcases h2 with h2|⟨g,cap,cur,rfl,hg,hh,r⟩
 ·exact .inl h2
 ·exact .inr ⟨g,cap,cur,rfl,hg,(hm g (by simp[Value.ownBlock])).trans hh,r⟩
theorem rP {w:World} {base:Nat} {e:TypeId} {size n:Nat} {v:Value} {xs:List Value} (h:w.ownsRow base e size v n xs) (k:Nat) (hk:v.ownBlock=some k):∃cells,w.heap[k]?=some (.cells cells e (0,0)):=by
 rcases h.2 with⟨rfl,_⟩|⟨g,cap,cur,rfl,hg,hh,r⟩
 ·simp[Value.ownBlock] at hk
 ·have:g=k:=by simpa[Value.ownBlock] using hk
  subst this
  exact⟨cur,hh⟩
namespace Kd
def C {α:Type} (d:Kd α) (w:World) (A:Option Addr) (n:Nat) (xs:List α):Prop:=lT (d.K w) d.sz w A n xs
def R {α:Type} (d:Kd α) (e:Nat) (w:World) (base:Nat) (ok:Nat->Prop) (v:Value) (xs:List α):Prop:=
 (∀k,v.ownBlock=some k->ok k)/\nM (d.M w base (fun k=>ok k/\some k≠v.ownBlock)) e d.sz w base v xs
section
variable {α:Type} {d:Kd α} {e:Nat} {w w1:World} {base:Nat} {ok ok':Nat->Prop} {v:Value} {xs:List α}
theorem bY {A:Option Addr} {n:Nat} (h:d.C w A n xs) (hb:Below w.heap.size w w1):d.C w1 A n xs:=lT.Cq h hb (fun _ _ hp=>d.kN hb hp)
theorem jM (d:Kd α) (e:Nat) (w:World) (base:Nat) (ok:Nat->Prop):d.R e w base ok (.slice none 0 0) []:=⟨fun k hk=>by simp[Value.ownBlock] at hk,nM.none_ _ _ _ _ _⟩
theorem dU (h:d.R e w base ok v xs) (hok:∀k,ok k->ok' k):d.R e w base ok' v xs:=⟨fun k hk=>hok k (h.1 k hk),h.2.Cq (fun _ _ hp=>d.gP (fun k hk=>⟨hok k hk.1,hk.2⟩) hp)⟩
theorem jb (h:d.R e w base ok v xs):d.R e w base (fun k=>ok k/\base<=k/\k<w.heap.size/\∃q,q∈e::d.E/\∃cells,w.heap[k]?=some (.cells cells q (0,0))) v xs:=by
 obtain⟨h0,inner,ho,hr⟩:=h
 refine⟨fun k hk=>?_,inner,ho,hr.Cq (fun _ _ hp=>d.gP (fun k hk=>?_) (d.jP hp))⟩
 ·obtain⟨cells,hc⟩:=rP ho k hk
  exact⟨h0 k hk,jD ho k hk,eG ho k hk,e,List.mem_cons_self,cells,hc⟩
 ·obtain⟨⟨h1,h2⟩,h3,h4,q,hq,hc⟩:=hk
  exact⟨⟨h1,h3,h4,q,List.mem_cons_of_mem _ hq,hc⟩,h2⟩
theorem pM (h:d.R e w base ok v xs) (hm:∀k,ok k->w1.heap[k]?=w.heap[k]?):d.R e w1 base ok v xs:=by
 obtain⟨h0,inner,ho,hr⟩:=h
 exact⟨h0,inner,ZN ho (fun k hk=>hm k (h0 k hk)),hr.Cq (fun _ _ hp=>d.lK (fun k hk=>hm k hk.1) hp)⟩
theorem lF {base':Nat} (h:d.R e w base ok v xs) (hb:base'<=base):d.R e w base' ok v xs:=by
 obtain⟨h0,inner,ho,hr⟩:=h
 exact⟨h0,inner,Qw ho hb,hr.Cq (fun _ _ hp=>d.kP hb hp)⟩
theorem XC (h:d.R e w base ok v xs) (hm:∀k,ok k->k<w.heap.size->w1.heap[k]?=w.heap[k]?):d.R e w1 base ok v xs:=
 dU (pM (jb h) (fun k hk=>hm k hk.1 hk.2.2.1)) (fun _ hk=>hk.1)
theorem ja (h:d.R e w base ok v xs) (hb:Below w.heap.size w w1):d.R e w1 base ok v xs:=XC h (fun k _ hk=>hb.block k hk)
theorem mi (h:d.R e w base ok v xs) {p:Addr} (hok:∀k,ok k->k≠p.block) (u:Value):d.R e (w.setCell p u) base ok v xs:=XC h (fun k ho _=>Below.heap_setCell w p u k (hok k ho))
theorem yM (h:d.R e w base ok v xs) {g t:Nat} {cells:Array Value} (hb:w.heap[g]?=some (.cells cells t (0,0))) (ht:∀q,q∈e::d.E->q≠t):d.R e w base (fun k=>ok k/\k≠g) v xs:=
 dU (jb h) (fun k hk=>⟨hk.1,by
  obtain⟨_,_,_,q,hq,cells',hc⟩:=hk
  rintro rfl
  rw[hc] at hb
  injection hb with hb
  injection hb with _ hb
  exact ht q hq hb⟩)
theorem lZ (h:d.R e w base ok v xs):∃A c,v= .slice A xs.length c/\xs.length<=c/\d.C w A xs.length xs:=by
 obtain⟨A,c,he,hl,hr⟩:=nM.reads h.2
 exact⟨A,c,he,hl,hr.Cq (Below.refl _ _) (fun _ _ hp=>d.ku hp)⟩
theorem gL (h:d.R e w base ok v xs):∃A c,v= .slice A xs.length c:=by
 obtain⟨A,c,he,_⟩:=lZ h
 exact⟨A,c,he⟩
theorem xD (h:d.R e w base ok v xs):∃inner,w.ownsRow base e d.sz v xs.length inner:=by
 obtain⟨_,inner,ho,_⟩:=h
 exact⟨inner,ho⟩
theorem kC (h:d.R e w base ok v xs) {g t:Nat} {cells:Array Value} (hb:w.heap[g]?=some (.cells cells t (0,0))) (ht:e≠t):some g≠v.ownBlock:=nM.ZG h.2 hb ht
end
def scalar {α:Type} (enc:α->Value) (h1:∀x,(enc x).oneCell'=true):Kd α where
 sz:=1
 E:=[]
 K:=fun _ x cs=>cs=[enc x]
 M:=fun _ _ _ x cs=>cs=[enc x]
 oI:=fun h=>by rw[h];rfl
 pJ:=fun h u hu=>by
  rw[h] at hu
  rw[List.mem_singleton.1 hu]
  exact h1 _
 kN:=fun _ h=>h
 ku:=fun h=>h
 gP:=fun _ h=>h
 jP:=fun h=>h
 lK:=fun _ h=>h
 kP:=fun _ h=>h
def int (k:IntKind):Kd Int:=scalar (Value.int k) (fun _=>rfl)
def bool:Kd Bool:=scalar Value.bool (fun _=>rfl)
def string:Kd ByteArray:=scalar Value.string (fun _=>rfl)
def slice {α:Type} (e:Nat) (d:Kd α):Kd (List α) where
 sz:=1
 E:=e::d.E
 K:=fun w xs cs=>∃A c,cs=[.slice A xs.length c]/\xs.length<=c/\d.C w A xs.length xs
 M:=fun w base ok xs cs=>∃v,cs=[v]/\d.R e w base ok v xs
 oI:=by
  rintro w x cs ⟨A,c,rfl,_⟩
  rfl
 pJ:=by
  rintro w x cs ⟨A,c,rfl,_⟩ u hu
  rw[List.mem_singleton.1 hu]
  rfl
 kN:=by
  rintro w w1 x cs hb ⟨A,c,rfl,hl,hr⟩
  exact⟨A,c,rfl,hl,bY hr hb⟩
 ku:=by
  rintro w base ok x cs ⟨v,rfl,h⟩
  obtain⟨A,c,rfl,hl,hr⟩:=lZ h
  exact⟨A,c,rfl,hl,hr⟩
 gP:=by
  rintro w base ok ok' x cs hok ⟨v,rfl,h⟩
  exact⟨v,rfl,dU h hok⟩
 jP:=by
  rintro w base ok x cs ⟨v,rfl,h⟩
  exact⟨v,rfl,jb h⟩
 lK:=by
  rintro w w1 base ok x cs hm ⟨v,rfl,h⟩
  exact⟨v,rfl,pM h hm⟩
 kP:=by
  rintro w base base' ok x cs hb ⟨v,rfl,h⟩
  exact⟨v,rfl,lF h hb⟩
def pair {α β:Type} (a:Kd α) (b:Kd β):Kd (α×β) where
 sz:=a.sz+b.sz
 E:=a.E++b.E
 K:=fun w x cs=>∃c0 c1,cs=c0++c1/\a.K w x.1 c0/\b.K w x.2 c1
 M:=fun w base ok x cs=>∃c0 c1,cs=c0++c1/\a.M w base ok x.1 c0/\b.M w base ok x.2 c1
 oI:=by
  rintro w x cs ⟨c0,c1,rfl,h0,h1⟩
  rw[List.length_append,a.oI h0,b.oI h1]
 pJ:=by
  rintro w x cs ⟨c0,c1,rfl,h0,h1⟩ u hu
  rcases List.mem_append.1 hu with hu|hu
  ·exact a.pJ h0 u hu
  ·exact b.pJ h1 u hu
 kN:=by
  rintro w w1 x cs hb ⟨c0,c1,rfl,h0,h1⟩
  exact⟨c0,c1,rfl,a.kN hb h0,b.kN hb h1⟩
 ku:=by
  rintro w base ok x cs ⟨c0,c1,rfl,h0,h1⟩
  exact⟨c0,c1,rfl,a.ku h0,b.ku h1⟩
 gP:=by
  rintro w base ok ok' x cs hok ⟨c0,c1,rfl,h0,h1⟩
  exact⟨c0,c1,rfl,a.gP hok h0,b.gP hok h1⟩
 jP:=by
  rintro w base ok x cs ⟨c0,c1,rfl,h0,h1⟩
  refine⟨c0,c1,rfl,a.gP ?_ (a.jP h0),b.gP ?_ (b.jP h1)⟩
  ·rintro k ⟨h2,h3,h4,q,hq,hc⟩
   exact⟨h2,h3,h4,q,List.mem_append_left _ hq,hc⟩
  ·rintro k ⟨h2,h3,h4,q,hq,hc⟩
   exact⟨h2,h3,h4,q,List.mem_append_right _ hq,hc⟩
 lK:=by
  rintro w w1 base ok x cs hm ⟨c0,c1,rfl,h0,h1⟩
  exact⟨c0,c1,rfl,a.lK hm h0,b.lK hm h1⟩
 kP:=by
  rintro w base base' ok x cs hb ⟨c0,c1,rfl,h0,h1⟩
  exact⟨c0,c1,rfl,a.kP hb h0,b.kP hb h1⟩
def iso {α β:Type} (d:Kd α) (f:β->α):Kd β where
 sz:=d.sz
 E:=d.E
 K:=fun w x cs=>d.K w (f x) cs
 M:=fun w base ok x cs=>d.M w base ok (f x) cs
 oI:=d.oI
 pJ:=d.pJ
 kN:=d.kN
 ku:=d.ku
 gP:=d.gP
 jP:=d.jP
 lK:=d.lK
 kP:=d.kP
def bot {α:Type} (sz:Nat) (E:List Nat):Kd α where
 sz:=sz
 E:=E
 K:=fun _ _ _=>False
 M:=fun _ _ _ _ _=>False
 oI:=fun h=>h.elim
 pJ:=fun h=>h.elim
 kN:=fun _ h=>h
 ku:=fun h=>h
 gP:=fun _ h=>h
 jP:=fun h=>h
 lK:=fun _ h=>h
 kP:=fun _ h=>h
def upto {α:Type} (F:Kd α->Kd α) (sz:Nat) (E:List Nat):Nat->Kd α
 |0=>bot sz E
 |n+1=>F (upto F sz E n)
theorem Dm {α:Type} {d:Kd α} {w:World} {A:Option Addr} {n:Nat} {xs:List α} (h:d.C w A n xs) (z:α) (i:Int) (h0:0<=i) (h1:i<n):
  ∃ad c,A=some ad/\c.length=d.sz/\d.K w (xs.getD i.toNat z) c/\∀j u,c[j]?=some u->w.cell? (ad.add (i.toNat*d.sz+j))=some u:=lT.get_ h z i h0 h1
theorem Dv {α:Type} {d:Kd α} {e base:Nat} {ok oZ:Nat->Prop} {W w1:World} {v v1:Value} {xs:List α} {p:α} {inner cs:List Value} (h0:∀k,v.ownBlock=some k->ok k) (hr:oP (d.M W base (fun k=>ok k/\some k≠v.ownBlock)) d.sz xs inner) (hp:d.M W base oZ p cs) (Ba:∀k,oZ k->ok k/\some k≠v.ownBlock) (hfresh:∀k,W.heap.size<=k->ok k)
  (hown:w1.ownsRow base e d.sz v1 (xs.length+1) (inner++cs)) (hg:W.grownBy w1 v.ownBlock) (hat:v1.ownBlock=v.ownBlock\/∃b,v1.ownBlock=some b/\W.heap.size<=b):d.R e w1 base ok v1 (xs++[p]):=by
 have hne:∀k,some k≠v.ownBlock->k<W.heap.size->some k≠v1.ownBlock:=by
  intro k hk hlt
  rcases hat with hat|⟨b,hb,hle⟩
  ·rw[hat];exact hk
  ·rw[hb]
   intro he
   injection he with he
   omega
 have step:∀{q:α} {c:List Value} {o:Nat->Prop},d.M W base o q c->(∀k,o k->ok k/\some k≠v.ownBlock)->d.M w1 base (fun k=>ok k/\some k≠v1.ownBlock) q c:=by
  intro q c o hq ho
  have h1:=d.lK (w1:=w1) (fun k hk=>hg.block k hk.2.2.1 (ho k hk.1).2) (d.jP hq)
  exact d.gP (fun k hk=>⟨(ho k hk.1).1,hne k (ho k hk.1).2 hk.2.2.1⟩) h1
 refine⟨fun k hk=>?_,inner++cs,by rw[List.length_append,List.length_singleton];exact hown,?_⟩
 ·rcases hat with hat|⟨b,hb,hle⟩
  ·exact h0 k (hat▸hk)
  ·rw[hb] at hk
   injection hk with hk
   exact hfresh k (by omega)
 ·exact(hr.Cq (fun _ _ hq=>step hq (fun _ hk=>hk))).snoc (step hp Ba) (d.oI (d.ku hp))
section
variable {P:Program} {ops:Array Oper} {rest:List Oper} {o:Oper} {a:Act} {Q:Exit->Act->World->Prop} {α:Type}
theorem bT (d:Kd α) {w0 W:World} (base:Nat) (hgd:o.guard=none) (s x:Operand) (t e:TypeId) (z:Value) (bytes:Nat)
  (ho:o.op= .call {callee:= .builtin .append,args:=#[s,x],argTypes:=#[t,t]})
  (ht:P.underlying t=some (.slice e)) (hinfo:(P.info? e).map (fun i=>(i.zero,i.size,i.bytes))=some (some z,d.sz,bytes)) (hz:z.cells.size=d.sz) (hs0:0<d.sz) (hb0:0<bytes)
  (v:Value) (xs:List α) (p:α) (cs:List Value) (ok oZ:Nat->Prop) (hs:a.eval s=v) (hx:a.eval x= .slice (some ⟨W.heap.size,0,none⟩) 1 1) (hp:d.M W base oZ p cs) (Ba:∀k,oZ k->ok k/\some k≠v.ownBlock) (hfresh:∀k,W.heap.size<=k->ok k)
  (HO:d.R e W base ok v xs) (HB:Below base w0 W) (hbase:base<=W.heap.size) (hl:(xs.length+1)*bytes<=140737488355328)
  (h:∀v1 w1,d.R e w1 base ok v1 (xs++[p])->Below base w0 w1->W.grownBy w1 v.ownBlock->(v1.ownBlock=v.ownBlock\/∃b,v1.ownBlock=some b/\W.heap.size<=b)->wpList P ops Q rest (a.put o.dst v1) w1):
  wpList P ops Q (o::rest) a (W.alloc (.cells cs.toArray e)):=by
 obtain⟨h0,inner,hown,hr⟩:=HO
 refine yt base hgd s x t e z d.sz bytes ho ht hinfo hz hs0 hb0 v xs.length inner cs hs hx (d.oI (d.ku hp)) (d.pJ (d.ku hp)) hown HB hbase hl ?_
 intro v1 w1 hown1 hb1 hg1 YM
 exact h v1 w1 (Dv h0 hr hp Ba hfresh hown1 hg1 YM) hb1 hg1 YM
end
theorem NV {α:Type} {enc:α->Value} (xs:List α):oP (fun(x:α) (cs:List Value)=>cs=[enc x]) 1 xs (encs enc xs):=by
 refine⟨by simp[encs],fun j p hj=>?_⟩
 obtain⟨hl,hp⟩:=List.getElem?_eq_some_iff.1 hj
 have hl':j<(encs enc xs).length:=by rw[MC];exact hl
 rw[Nat.mul_one,List.drop_eq_getElem_cons hl']
 simp[encs,hp]
theorem Dx {α:Type} {enc:α->Value} {h1:∀x,(enc x).oneCell'=true} {e:Nat} {w:World} {base:Nat} {ok:Nat->Prop} {v:Value} {xs:List α} (ho:w.ownsRow base e 1 v xs.length (encs enc xs)) (hok:∀k,v.ownBlock=some k->ok k):(scalar enc h1).R e w base ok v xs:=⟨hok,encs enc xs,ho,NV xs⟩
theorem Fg {α:Type} {enc:α->Value} {d:α} {h1:∀x,(enc x).oneCell'=true} {w:World} {A:Option Addr} {n:Nat} {xs:List α} (h:(scalar enc h1).C w A n xs):yN enc d w A n xs:=by
 refine⟨h.1,h.2.1,fun hn=>?_⟩
 obtain⟨ad,e,hc⟩:=h.2.2 hn
 refine⟨ad,e,fun j hj=>?_⟩
 have hl:j<xs.length:=by have:=h.1;omega
 obtain⟨c,_,hK,hcell⟩:=hc j _ (List.getElem?_eq_getElem hl)
 have hK':c=[enc xs[j]]:=hK
 subst hK'
 have:=hcell 0 _ rfl
 simpa[scalar,List.getD_eq_getElem?_getD,List.getElem?_eq_getElem hl] using this
end Kd
namespace Kd
theorem oN {α:Type} {d:Kd α} {e base:Nat} {ok:Nat->Prop} {W w1:World} {u v v1:Value} {xs:List α} (h:d.R e W base (fun k=>ok k/\some k≠v.ownBlock) u xs) (hg:W.grownBy w1 v.ownBlock) (hat:v1.ownBlock=v.ownBlock\/∃b,v1.ownBlock=some b/\W.heap.size<=b):d.R e w1 base (fun k=>ok k/\some k≠v1.ownBlock) u xs:=by
 refine dU (pM (jb h) (fun k hk=>hg.block k hk.2.2.1 hk.1.2)) (fun k hk=>⟨hk.1.1,?_⟩)
 rcases hat with hat|⟨b,hb,hle⟩
 ·rw[hat];exact hk.1.2
 ·rw[hb]
  intro he
  injection he with he
  have:=hk.2.2.1
  omega
end Kd
namespace Kd
section
variable {α β:Type} {d:Kd α} {d':Kd β} {e e':Nat} {w w1 W:World} {base b b':Nat} {ok ok' Ct OX:Nat->Prop} {v u:Value} {xs:List α} {ys:List β}
theorem aK (h:d.R e w base ok v xs) (m:Nat):d.R e (w.drewN m) base ok v xs:=ja h (af (Below.refl _ _) m)
theorem dB {A:Option Addr} {n:Nat} (h:d.C w A n xs) (m:Nat):d.C (w.drewN m) A n xs:=bY h (af (Below.refl _ _) m)
theorem dP {A:Option Addr} {n c:Nat} (h:d.R e w base ok (.slice A n c) xs):n=xs.length/\n<=c/\d.C w A xs.length xs:=by
 obtain⟨A',c',he,hl,hr⟩:=lZ h
 injection he with h1 h2 h3
 subst h1
 exact⟨h2,by omega,hr⟩
theorem AJ (h:d.R e w base ok v xs):∀k,v.ownBlock=some k->k<w.heap.size:=by
 obtain⟨inner,ho⟩:=xD h
 exact eG ho
end
section
variable {w W:World} {A:Option Addr} {n:Nat}
theorem kW {k:IntKind} {xs:List Int} (h:(Kd.int k).C w A n xs) (i:Int) (h0:0<=i) (h1:i<n):∃ad,A=some ad/\w.cell? (ad.add i.toNat)=some (.int k (rd xs i)):=
 yN.at_ (Fg (enc:=Value.int k) (d:=(0:Int)) (h1:=fun _=>rfl) h) i h0 h1
theorem dx {xs:List ByteArray} (h:Kd.string.C w A n xs) (i:Int) (h0:0<=i) (h1:i<n):∃ad,A=some ad/\w.cell? (ad.add i.toNat)=some (.string (dH ByteArray.empty xs i)):=
 yN.at_ (Fg (enc:=Value.string) (d:=ByteArray.empty) (h1:=fun _=>rfl) h) i h0 h1
variable {α:Type} {enc:α->Value} {h1:∀x,(enc x).oneCell'=true} {e base g cap:Nat} {ok:Nat->Prop} {xs:List α}
end
section
variable {P:Program} {ops:Array Oper} {rest:List Oper} {o:Oper} {a:Act} {Q:Exit->Act->World->Prop}
theorem GY {W w1:World} {v:Value} (hgd:o.guard=none) (hrun:(execOp a.eval o).run P W= .ok (.value v) w1) (h:wpList P ops Q rest (a.put o.dst v) w1):wpList P ops Q (o::rest) a W:=by
 refine wpList_plain hgd fun K hK=>?_
 unfold Oper.wp
 rw[hrun]
 exact hK _ _ h
variable {α:Type}
end
end Kd
namespace Kd
section
variable {α:Type} {d:Kd α} {e e':Nat} {w w1 W:World} {base:Nat} {ok:Nat->Prop} {u v:Value} {xs:List α}
theorem fresh' (hlt:∀k,u.ownBlock=some k->k<W.heap.size):∀k,W.heap.size<=k->some k≠u.ownBlock:=fun k hk he=>by have:=hlt k he.symm;omega
end
end Kd
theorem add_add (a:Addr) (i j:Nat):(a.add i).add j=a.add (i+j):=by
 unfold Addr.add
 by_cases h1:i=0<;>by_cases h2:j=0<;>simp[h1,h2,Nat.add_assoc]
theorem ay {w W:World} (h:Below w.heap.size w W):w.heap.size<=W.heap.size:=h.size
theorem bn {w W w2:World} (h:Below w.heap.size w W) (k:Below W.heap.size W w2):Below w.heap.size w w2:=Ps h h.size k
theorem az {w W:World} {g j:Nat} {v:Value} (h:Below w.heap.size w W) (hg:w.heap.size<=g):Below w.heap.size w (W.setCell ⟨g,j,none⟩ v):=h.setCell hg _
theorem add_block (a:Addr) (i:Nat):(a.add i).block=a.block:=by unfold Addr.add;split<;>rfl
theorem nS {w:World} {g:Nat} {t:TypeId} {cs cs':Array Value} (h:w.heap[g]?=some (.cells cs t (0,0))) (i:Nat) (u:Value) (e:cs.setIfInBounds i u=cs'):(w.setCell ⟨g,i,none⟩ u).heap[g]?=some (.cells cs' t (0,0)):=e▸blk_set h i u
section
variable {P:Program} {ops:Array Oper} {rest:List Oper} {o:Oper} {a:Act} {Q:Exit->Act->World->Prop}
theorem bW {W:World} (hgd:o.guard=none) {N:Tmp} (_hd:o.dst=some N) {cs:Array Value} {t:TypeId}
  (hrun:(execOp a.eval o).run P W= .ok (.value (.pointer (some ⟨W.heap.size,0,none⟩))) (W.alloc (.cells cs t (0,0))))
  (h:∀g,g=W.heap.size->∀w1,w1.heap[g]?=some (.cells cs t (0,0))->Below W.heap.size W w1->wpList P ops Q rest (a.put o.dst (.pointer (some ⟨g,0,none⟩))) w1):wpList P ops Q (o::rest) a W:=
 Kd.GY hgd hrun (h _ rfl _ (blk_new W _) (ag (Below.refl _ _) _))
end
section
variable {P:Program} {ops:Array Oper} {rest:List Oper} {o:Oper} {a:Act} {Q:Exit->Act->World->Prop} {W:World}
theorem di {N:Tmp} (_hN:o.dst=some N) (h:wpList P ops Q (o::rest) a W):wpList P ops Q (o::rest) a W:=h
end
inductive xR (P:Program) (tmps:Array Value) (w:World):List ResultVar->List Value->Prop where
 |nil:xR P tmps w [] []
 |tmp {u:Tmp} {rs:List ResultVar} {vs:List Value} (h:xR P tmps w rs vs):xR P tmps w (.tmp u::rs) (tmps.getD u undef::vs)
 |cell {p:Tmp} {ty:TypeId} {rs:List ResultVar} {vs:List Value} (g:Nat) (t:TypeId) (cs:Array Value) (fr:Nat×Nat) (d:TypeDesc)
   (hp:tmps.getD p undef= .pointer (some ⟨g,0,none⟩)) (hg:w.heap[g]?=some (.cells cs t fr))
   (hu:P.underlying ty=some d) (hd:(match d with| .struct _| .array _ _=>true|_=>false)=true) (hi:(P.info? ty).map (·.size)=some cs.size)
   (h:xR P tmps w rs vs):xR P tmps w (.cell p ty::rs) (.agg cs::vs)
section
variable {P:Program} {tmps:Array Value} {w:World}
theorem OD {rs:List ResultVar} {vs:List Value} (hv:xR P tmps w rs vs) (f:ResultVar->Sem Value) (hf:∀u,f (.tmp u)=pure (tmps.getD u undef)) (hc:∀a t,f (.cell a t)=(do loadVar t (<-asAddr (tmps.getD a undef)))):
  (rs.mapM f).run P w= .ok vs w:=by
 induction hv with
 |nil=>simp
 |tmp h ih=>simp[List.mapM_cons,hf,ih]
 |cell g t cs fr d hp hg hu hd hi h ih=>
  rw[List.mapM_cons,hc,hp]
  simp[asAddr,run_loadVar_row w g t _ cs fr d hg hu hd hi,ih]
theorem zU {fn:Func} {rs:List ResultVar} {vs:List Value} (h:fn.results=rs.toArray) (hl:vs.length≠1) (hv:xR P tmps w rs vs):(results fn tmps).run P w= .ok (.tuple vs.toArray) w:=by
 unfold results
 rw[h,List.mapM_toArray]
 simp only[Sem.run_bind,Sem.run_map]
 rw[OD hv]
 ·simp[hl]
 ·intro u
  rfl
 ·intro a t
  rfl
theorem eY {fn:Func} {r:ResultVar} {v:Value} (h:fn.results=#[r]) (hv:xR P tmps w [r] [v]):(results fn tmps).run P w= .ok v w:=by
 unfold results
 rw[show fn.results=[r].toArray from h,List.mapM_toArray]
 simp only[Sem.run_bind,Sem.run_map]
 rw[OD hv]
 ·simp
 ·intro u
  rfl
 ·intro a t
  rfl
end
end Go.Proofs.ae.au
end
section
namespace Go.Proofs.ae.aZ
section
variable {P:Program} {ops:Array Oper} {Q:Exit->Act->World->Prop} {md:Region.Mode} {S:World->Prop} {ds:List Nat}
theorem SA {f:FuncId} {fn:Func} (hf:P.funcs[f]?=some fn) (hname:(fn.name== "runtime.NumGoroutine")=false) (hb:fn.body.isSome=true) (args:Array Value) (w:World):(callFunc f args).run P w= .ok (.enter f args) w:=by
 have h1:fn.name≠ "runtime.NumGoroutine" :=by simpa using hname
 obtain⟨c,hc⟩:=Option.isSome_iff_exists.1 hb
 simp[callFunc,hf,h1,hc]
theorem eQ {rest:List Oper} {oi:Oper} {a:Act} {w:World} (N:Option Tmp) (hd:oi.dst=N) (hg:oi.guard=none) {f:FuncId} {fn:Func} {aa:Array Operand} {ts:Array TypeId} (hf:P.funcs[f]?=some fn) (hname:(fn.name== "runtime.NumGoroutine")=false) (hb:fn.body.isSome=true) (args:Array Value)
  (hop:oi.op= .call {callee:= .value (.func f),args:=aa,argTypes:=ts}) (hargs:aa.map a.eval=args)
  (h:Calls P f args w fun e w'=>∃v,e= .returned v/\wpList P ops Q rest (a.put N v) w'):wpList P ops Q (oi::rest) a w:=by
 refine wpList_plain hg fun K hK=>?_
 have he:=SA hf hname hb args w
 have hrun:(execOp a.eval oi).run P w= .ok (.enter f args) w:=by
  unfold execOp
  simp[hop,resolve,Deferred.ofValue,invoke,Act.eval,hargs,he]
 unfold Oper.wp
 rw[hrun,Oper.upon_enter]
 refine h.mono fun e w'' hh=>?_
 obtain⟨v,rfl,hk⟩:=hh
 subst hd
 exact hK _ _ hk
theorem jY (n:Int):IntKind.i64.wrap n=Go.RowKit.wrap64 n:=by unfold Go.RowKit.wrap64;exact IntKind.wrap_i64 n
theorem lV (n:Int):IntKind.i32.wrap n=Go.RowKit.wrap32 n:=by unfold Go.RowKit.wrap32;exact IntKind.wrap_i32 n
end
end Go.Proofs.ae.aZ
end
section
namespace Go.Proofs.ae.au
open Go.RowKit
namespace Kd
section
variable {α β:Type} {d:Kd α} {d':Kd β} {e e':Nat} {w w1 W:World} {base b:Nat} {ok ok' Ct OX:Nat->Prop} {u v:Value} {xs:List α} {ys:List β}
theorem yL (hE:d.E=[]) (h:d.R e w base ok v xs):d.R e w base (fun k=>some k=v.ownBlock) v xs:=by
 obtain⟨h0,inner,ho,hr⟩:=h
 refine⟨fun k hk=>hk.symm,inner,ho,hr.Cq (fun p c hp=>d.gP (fun k hk=>?_) (d.jP hp))⟩
 obtain⟨_,_,_,q,hq,_⟩:=hk
 rw[hE] at hq
 cases hq
end
def gap {α:Type} (f:Nat->Nat) (d:Kd α) (i:Nat) (c:List Value):Kd (α×Nat) where
 sz:=d.sz
 E:=d.E
 K:=fun w x cs=>(x.2=i->cs=c/\cs.length=d.sz/\∀u∈cs,u.oneCell'=true)/\(x.2≠i->d.K w x.1 cs)
 M:=fun w base ok x cs=>(x.2=i->cs=c/\cs.length=d.sz/\∀u∈cs,u.oneCell'=true)/\(x.2≠i->d.M w base (fun k=>ok k/\f k=x.2) x.1 cs)
 oI:=fun{w x cs} h=>by
  by_cases hx:x.2=i
  ·exact(h.1 hx).2.1
  ·exact d.oI (h.2 hx)
 pJ:=fun{w x cs} h=>by
  by_cases hx:x.2=i
  ·exact(h.1 hx).2.2
  ·exact d.pJ (h.2 hx)
 kN:=fun hb h=>⟨h.1,fun hx=>d.kN hb (h.2 hx)⟩
 ku:=fun h=>⟨h.1,fun hx=>d.ku (h.2 hx)⟩
 gP:=fun hok h=>⟨h.1,fun hx=>d.gP (fun k hk=>⟨hok k hk.1,hk.2⟩) (h.2 hx)⟩
 jP:=fun h=>⟨h.1,fun hx=>d.gP (fun _ hk=>⟨⟨hk.1.1,hk.2⟩,hk.1.2⟩) (d.jP (h.2 hx))⟩
 lK:=fun hm h=>⟨h.1,fun hx=>d.lK (fun k hk=>hm k hk.1) (h.2 hx)⟩
 kP:=fun hb h=>⟨h.1,fun hx=>d.kP hb (h.2 hx)⟩
end Kd
end Go.Proofs.ae.au
end
