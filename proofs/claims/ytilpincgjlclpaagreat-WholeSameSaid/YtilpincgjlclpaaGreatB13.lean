import Derived.Deep.RegionHeld
import Derived.LoopIn
import Derived.LoopNIn
import Derived.OwnWalkIn
import Derived.RangeFuncBound
import Derived.RangeFuncBox
import Derived.RangeFuncCalls
import Derived.RangeFuncLeaves
import Derived.RangeFuncNested
import Derived.Shelf.Abstract
import Derived.Shelf.RegionOpen
import Derived.Shelf.SlIter.Nil
import Derived.Sort.MapsRangeIn
import Derived.TacticsInMore
import Derived.WalkKit
import Derived.Test.YtilpincgjlclpaaGreatB12
set_option linter.unusedVariables false
set_option linter.unusedSimpArgs false
section
namespace Go.Proofs.YtilpincgjlclpaaGreat.Ob
open Go Go.RowKit Go.ChangeMaps Go.MapKept Bs Mp jL
theorem ze {α:Type} (p:α->Bool):∀(l:List α) (j:Nat) (x:α),l[j]?=some x->p x=false->(l.eraseIdx j).filter p=l.filter p
 |[],_,_,h,_=>by simp at h
 |y::l,0,x,h,hp=>by
  simp at h
  subst h
  rw[List.eraseIdx_zero,List.tail_cons,List.filter_cons_of_neg (by simp[hp])]
 |y::l,j+1,x,h,hp=>by
  rw[List.eraseIdx_cons_succ,List.filter_cons,List.filter_cons,ze p l j x (by simpa using h) hp]
theorem IQ {α β:Type}:∀(l:List α) (m:List β) (j:Nat),(l.eraseIdx j).zip (m.eraseIdx j)=(l.zip m).eraseIdx j
 |[],m,j=>by simp
 |x::l,[],j=>by simp
 |x::l,y::m,0=>by simp
 |x::l,y::m,j+1=>by simp[IQ l m j]
theorem aak {P:Program} {κ β:Type} [DecidableEq κ] {T:Kv P κ β} {w:World} {b r:Nat} {m todo:List (κ×β)} (h:ow T w b r m todo) {a:κ} (ha:T.ok a) (hn:∀v,(a,v)∉todo) (ty:TypeId):
  ∃w',(Builtin.delete_ #[T.t,T.k] ty #[.map (some b),T.kv a]).run P w= .ok (.tuple #[]) w'/\ow T w' b r (Mp.del m a) todo/\Fr (fun k=>k=b) w w'/\w'.heap.size=w.heap.size:=by
 have hrb:=h.ne
 have hmp:=h.mp
 obtain⟨es,clock,since,seen,c0,hb,F,hr,hold,hsc,hsk,hto⟩:=h
 obtain⟨l,hl⟩:=T.key a ha
 have hset:∀o',(setBlock w b o').heap[b]?=some o'/\(setBlock w b o').heap[r]?=some (.mapIter (some b) since seen c0)/\Fr (fun k=>k=b) w (setBlock w b o')/\(setBlock w b o').heap.size=w.heap.size:=fun o'=>
  ⟨heap_setBlock_same hb o',((heap_set hb).2 r hrb).trans hr,⟨rfl,rfl,rfl,by simp[setBlock],fun k _ hn=>(heap_set hb).2 k hn⟩,by simp[setBlock]⟩
 rcases F.find w ha with⟨h1,h2,h3⟩|⟨j,e,v,h1,h2,h3,h4,h5,h6⟩
 ·obtain⟨s1,s2,s3,s4⟩:=hset (.map es clock)
  refine⟨setBlock w b (.map es clock),?_,⟨es,clock,since,seen,c0,s1,?_,s2,hold,hsc,hsk,?_⟩,s3,s4⟩
  ·simp[Builtin.delete_,run_underlying T.ht,MapKept.run_getObj_map hb,T.law.check w _ hl,h1,MapKept.run_setObj_map _ hb,Result.andThen,setBlock]
  ·rw[show Mp.del m a=m from List.filter_eq_self.2 fun p hp=>by simpa using get_none.1 h3 p hp]
   exact F
  ·rw[show Mp.del m a=m from List.filter_eq_self.2 fun p hp=>by simpa using get_none.1 h3 p hp]
   exact hto
 ·have hjl:j<es.toList.length:=by simpa using(Array.getElem?_eq_some_iff.1 h2).1
  have hjs:j<es.size:=by simpa using hjl
  have hsub:(es.eraseIdxIfInBounds j).toList=es.toList.eraseIdx j:=by
   unfold Array.eraseIdxIfInBounds
   rw[dif_pos hjs]
   simp
  have hdel:∀{m:List (κ×β)} {j:Nat},(m.map Prod.fst).Nodup->m[j]?=some (a,v)->Mp.del m a=m.eraseIdx j:=by
   intro m
   induction m with
   |nil=>intro j _ h;simp at h
   |cons p m ih=>
    intro j hn h
    rw[List.map_cons,List.nodup_cons] at hn
    cases j with
    |zero=>
     simp at h
     subst h
     unfold Mp.del
     rw[List.filter_cons_of_neg (by simp)]
     exact List.filter_eq_self.2 fun q hq=>by
      simp only[decide_eq_true_eq]
      exact fun e=>hn.1 (List.mem_map.2 ⟨q,hq,e⟩)
    |succ j=>
     simp at h
     have hm:(a,v)∈m:=List.mem_of_getElem? h
     unfold Mp.del at ih ⊢
     rw[List.filter_cons_of_pos (by simp only[decide_eq_true_eq];exact fun e=>hn.1 (by rw[e];exact List.mem_map.2 ⟨_,hm,rfl⟩)),ih hn.2 h]
     rfl
  obtain⟨s1,s2,s3,s4⟩:=hset (.map (es.eraseIdxIfInBounds j) clock)
  have he:es.toList[j]?=some e:=by simpa using h2
  refine⟨setBlock w b (.map (es.eraseIdxIfInBounds j) clock),?_,⟨es.eraseIdxIfInBounds j,clock,since,seen,c0,s1,⟨stamped_erase F.st j,Nat.le_trans (MapFrom.size_erase es j) F.size,?_,fun p hp=>F.ok p ((List.mem_filter.1 hp).1)⟩,s2,fun x hx=>hold x ?_,hsc,hsk,?_⟩,s3,s4⟩
  ·simp[Builtin.delete_,run_underlying T.ht,MapKept.run_getObj_map hb,T.law.check w _ hl,h1,MapKept.run_setObj_map _ hb,Result.andThen,setBlock]
  ·rw[hsub,hdel F.nodup h5,map_eraseIdx,map_eraseIdx,F.is]
  ·rw[hsub] at hx
   exact List.mem_of_mem_eraseIdx hx
  ·rw[hsub,hdel F.nodup h5,IQ,ze _ _ j (e,(a,v)) (by rw[List.getElem?_zip_eq_some];exact⟨he,h5⟩),hto]
   cases hc:seen.contains e.born with
   |true=>rfl
   |false=>
    refine(hn v ?_).elim
    rw[hto]
    refine List.mem_map.2 ⟨(e,(a,v)),List.mem_filter.2 ⟨List.mem_of_getElem? (i:=j) (by rw[List.getElem?_zip_eq_some];exact⟨he,h5⟩),by simpa using hc⟩,rfl⟩
def zB (p:P2->Int->Bool) (todo:List (P2×Int)) (y:P2×Int):Bool:=decide (y∈todo)|| !p y.1 y.2
theorem VH {p:P2->Int->Bool} {m todo:List (P2×Int)} (hn:(m.map Prod.fst).Nodup) (hs:todo.Sublist m) {x:P2} {v:Int} (hx:(x,v)∈todo):
  (if p x v=true then Mp.del (m.filter (zB p todo)) x else m.filter (zB p todo))=m.filter (zB p (Mp.del todo x)):=by
 have hone:∀y∈m,y.1=x->y=(x,v):=fun y hy e=>by
  have h1:=tH hn (show(y.1,y.2)∈m from hy)
  have h2:=tH hn (hs.subset hx)
  rw[e,h2] at h1
  injection h1 with h1
  exact Prod.ext e h1.symm
 have hmem:∀y:P2×Int,decide (y∈Mp.del todo x)=(decide (y∈todo)&&decide (y.1≠x)):=fun y=>by
  unfold Mp.del
  simp only[List.mem_filter,decide_eq_true_eq]
  by_cases h1:y∈todo<;>by_cases h2:y.1≠x<;>simp[h1,h2]
 by_cases hp:p x v=true
 ·rw[if_pos hp]
  unfold Mp.del
  rw[List.filter_filter]
  apply List.filter_congr
  intro y hy
  have:=hmem y
  unfold Mp.del at this
  unfold zB
  rw[this]
  by_cases e:y.1=x
  ·rw[hone y hy e]
   simp[hp]
  ·simp[e]
 ·rw[if_neg hp]
  apply List.filter_congr
  intro y hy
  unfold zB
  rw[hmem y]
  by_cases e:y.1=x
  ·rw[hone y hy e]
   simp[hp]
  ·simp[e]
set_option maxHeartbeats 2000000 in
set_option maxRecDepth 100000 in
theorem BM {g b:Nat} {cb:Value} (eg:∀args w,(callFunc g args).run Tryz.prog w= .ok (.enter g args) w) (p:P2->Int->Bool) (m:List (P2×Int)) (w:World) (hM:mp ou w b m)
  (hcl:∀(W:World) (q:P2) (n:Int),Fr (fun k=>k=b) w W->lD q.1/\lD q.2->Calls Tryz.prog g #[pv q,.int .i64 n,cb] W fun e w'=>e= .returned (.bool (p q n))/\Below W.heap.size W w'):
  Calls Tryz.prog 126 #[.map (some b),.func (.func g) #[] #[cb]] w fun e w'=>e= .returned (.tuple #[])/\mp ou w' b (m.filter fun x=> !p x.1 x.2)/\Fr (fun k=>k=b) w w':=by
 have HND:=Lib.hid hM.nodup
 have Sg:=Lib.hid hM.ok
 have hbl:=hM.lt
 go_enter Tryz.func126,Tryz.ntmps126
 go_wp2_with (at_range;refine oH (T:=ou) _ rfl _ 207 rfl rfl rfl hM ?_;intro w3 hr3 hg3 hs3;clear hs3)
 have Xg:=Lib.hid ((Fr.refl (fun k=>k=b) w).grown hg3 (fun k e=>by cases e))
 have HR3:=Lib.hid hr3
 have Sa:=Lib.hid hcl
 clear hr3 hg3 hM hcl
 try go_frame
 go_loopw [5] (fun v5 wr=>∃(todo:List (P2×Int)),Hid (ow ou wr b w.heap.size (m.filter (zB p todo)) todo)/\Hid (todo.Sublist m)/\Hid (Fr (fun k=>k=b) w wr)) (fun _ wr=>wr.rangeLeft b w.heap.size)
 case atStart=>exact⟨m,Lib.hid (by rw[List.filter_eq_self.2 (fun y hy=>by simp[zB,hy])];exact HR3.out),Lib.hid (List.Sublist.refl _),Xg⟩
 case round=>
  obtain⟨todo,HR,HS,HF⟩:=hrel
  go_wp2_with (at_next;refine qh (T:=ou) _ rfl _ rfl rfl HR.out pv (Value.int .i64) rfl rfl ?_ ?_)
  ·intro ht
   have hfin:=HR.out.mp
   rw[ht] at hfin
   have HE:=Lib.hid (show mp ou wr b (m.filter fun x=> !p x.1 x.2) by
    have e:zB p []=fun x:P2×Int=> !p x.1 x.2:=by funext y;simp[zB]
    rw[<-e]
    exact hfin)
   clear hfin ht
   go_wp2
   go_end0
   exact⟨rfl,HE.out,HF.out⟩
  ·intro p1 p2 c w4 hx4 hr4 hg4 hs4 hen
   clear hs4
   have hok:ou.ok (p1,p2):=Sg.out _ (HS.out.subset hx4)
   have JF:=HF.out.grown hg4 (fun k e=>by cases e;exact .inr (Nat.le_refl _))
   have hcl:=Sa.out (w4.alloc (.cells #[.int .i64 p1,.int .i64 p2] 160)) (p1,p2) c (JF.alloc _) hok
   have Tk:=hr4.alloc (.cells #[.int .i64 p1,.int .i64 p2] 160)
   have hb5:=bG w4 (.cells #[.int .i64 p1,.int .i64 p2] 160)
   have HK:=Lib.hid (VH (p:=p) HND.out HS.out hx4)
   have HT:=Lib.hid (nE hx4)
   have HX:=Lib.hid (And.intro Tk (And.intro hb5 JF))
   clear hx4 hr4 hg4 Tk hb5 JF
   cases hpc:p (p1,p2) c with
   |true=>
    rw[hpc] at hcl
    go_wp2_with (go_at_fn g;refine hcl.mono ?_;rintro e w6 ⟨rfl,xx⟩;have hb6:=(xx.block w4.heap.size (bA HX.out.2.1)).trans HX.out.2.1;have k0:=(aj hb6 0).trans rfl;have k1:=(aj hb6 1).trans rfl;have MO:=HX.out.1.below xx;obtain⟨w7,hd,hR7,hF7,hs7⟩:=aak MO hok (fun v h=>by simp[Mp.del] at h) 0;have hd':(Builtin.delete_ #[207,160] 0 #[.map (some b),.agg #[.int .i64 p1,.int .i64 p2]]).run Tryz.prog w6= .ok (.tuple #[]) w7:=hd;have HY:=Lib.hid (And.intro xx (And.intro hR7 hF7));clear hs7 hb6 xx MO hd hR7 hF7)
    have hk:=HK.out
    rw[if_pos hpc] at hk
    obtain⟨xx,hR7,hF7⟩:=HY.out
    rw[hk] at hR7
    have Au:=Lib.hid hR7
    go_roundw
    case rel=>exact⟨_,Au,Lib.hid (List.Sublist.trans List.filter_sublist HS.out),Lib.hid (((HX.out.2.2.alloc _).below xx).trans hF7 (fun i hi=> .inl hi))⟩
    case measure=>rw[ow.left Au.out,ow.left HR.out];exact HT.out
   |false=>
    rw[hpc] at hcl
    go_wp2_with (go_at_fn g;refine hcl.mono ?_;rintro e w6 ⟨rfl,xx⟩;have yJ:=Lib.hid xx;clear xx)
    have hk:=HK.out
    rw[if_neg (by rw[hpc];simp)] at hk
    have MO:=HX.out.1.below yJ.out
    rw[hk] at MO
    have Au:=Lib.hid MO
    go_roundw
    case rel=>exact⟨_,Au,Lib.hid (List.Sublist.trans List.filter_sublist HS.out),Lib.hid ((HX.out.2.2.alloc _).below yJ.out)⟩
    case measure=>rw[ow.left Au.out,ow.left HR.out];exact HT.out
end Go.Proofs.YtilpincgjlclpaaGreat.Ob
end
section
namespace Go.Proofs.YtilpincgjlclpaaGreat.Ob
open Go Go.RowKit Go.Shelf Bs Mp jL
attribute [local go_sem] Oper.semAt_some
section
variable {F:Fence} {n:Nat} {P:Program} {κ β:Type} {T:Kv P κ β} {b r:Nat} {m todo:List (κ×β)} (w:World) {ops:Array Oper} {rest:List Oper} {o:Oper} {a:Act} {Q:Exit->Act->World->Prop}
theorem qL (hg:o.guard=none) (mo:Operand) (t:TypeId) (et:T.t=t) (hop:o.op=Op.range t mo) (hm:a.eval mo= .map (some b)) (h:mp T w b m)
  (hK:∀w',ow T w' b w.heap.size m m->w.grownBy w' none->w'.heap.size=w.heap.size+1->wpListIn F n P ops Q rest (a.put o.dst (.pointer (some ⟨w.heap.size,0,none⟩))) w'):
  wpListIn F n P ops Q (o::rest) a w:=by
 subst et
 refine wpListIn_plain hg fun K' hK'=>?_
 obtain⟨w',hrun,r1,r2,r3⟩:=h.range
 unfold Oper.wpIn
 refine⟨by simp[Oper.about,hop],?_⟩
 rw[Oper.semAt_plain F _ _ (by rw[hop];intro c hc';cases hc')]
 simp[execOp,hop,hm,hrun,Result.andThen]
 exact hK' _ _ (hK w' r1 r2 r3)
theorem rX [DecidableEq κ] (hg:o.guard=none) (it:Operand) (hop:o.op=Op.next it false) (hit:a.eval it= .pointer (some ⟨r,0,none⟩)) (h:ow T w b r m todo) (mk:κ->Value) (mv:β->Value) (ek:T.kv=mk) (ev:T.vv=mv)
  (hDone:todo=[]->wpListIn F n P ops Q rest (a.put o.dst (.tuple #[.bool false])) w)
  (hMore:∀x v w',(x,v)∈todo->ow T w' b r m (Mp.del todo x)->w.grownBy w' (some r)->w'.heap.size=w.heap.size->(Instr.entry (.pointer (some ⟨r,0,none⟩))).run P w'= .ok (.tuple #[mk x,mv v]) w'->wpListIn F n P ops Q rest (a.put o.dst (.tuple #[.bool true,mk x,mv v])) w'):
  wpListIn F n P ops Q (o::rest) a w:=by
 subst ek ev
 refine wpListIn_plain hg fun K' hK'=>?_
 unfold Oper.wpIn
 refine⟨by simp[Oper.about,hop],?_⟩
 rw[Oper.semAt_plain F _ _ (by rw[hop];intro c hc';cases hc')]
 rcases h.next o.type with⟨h0,hrun⟩|⟨x,v,w',hx,hrun,hr,hgr,hsz,hen⟩
 ·simp[execOp,hop,hit,hrun,Result.andThen]
  exact hK' _ _ (hDone h0)
 ·simp[execOp,hop,hit,hrun,Result.andThen]
  exact hK' _ _ (hMore x v w' hx hr hgr hsz hen)
end
theorem Iu {P:Program} {κ β:Type} {T:Kv P κ β} {w w':World} {b r:Nat} {m todo:List (κ×β)} (h:ow T w b r m todo) (hk:KeepsWalks w w'):ow T w' b r m todo:=by
 obtain⟨es,clock,since,seen,c0,hb,F,hr,rest⟩:=h
 exact⟨es,clock,since,seen,c0,hk.same b _ hb rfl,F,hk.same r _ hr rfl,rest⟩
theorem NW {P:Program} {κ β:Type} {T:Kv P κ β} {w:World} {b r:Nat} {m todo:List (κ×β)} (h:ow T w b r m todo):∃o:Obj,w.heap[r]?=some o/\o.isWalk=true:=by
 obtain⟨es,clock,since,seen,c0,_,_,hr,_⟩:=h
 exact⟨_,hr,rfl⟩
set_option maxRecDepth 100000 in
set_option maxHeartbeats 1000000 in
theorem keys1_in (F:Fence) (n:Nat) (h1:F.fn 159) (hro:F.round=none) (hn:1<=n) (l Bm b:Nat) (m:List (P2×Int)) (J Jx:List P2->World->Prop)
  (hY:∀pre x W,J pre W->pre.length<m.length->YieldAt F (n-1) Tryz.prog l #[pv x] W fun e W'=>(e= .returned (.bool true)/\J (pre++[x]) W'/\KeepsWalks W W')\/(e= .returned (.bool false)/\Jx (pre++[x]) W'))
  (W:World) (hJ:AbidesFrom W.heap.size J) (hm:W.cell? ⟨Bm,0,none⟩=some (.map (some b))) (hown:mp ou W b m) (h0:J [] W):
  CallsIn F n Tryz.prog 159 #[.func (.yield l) #[] #[],.pointer (some ⟨Bm,0,none⟩)] W fun e W'=>(∃v,e= .returned v)/\((∃ss:List P2,ss.Perm (m.map Prod.fst)/\J ss W')\/∃pre,Jx pre W'):=by
 have hnd:=hown.nodup
 refine callsIn_of_wp Tryz.func159 rfl h1 ?_ hro
 simp only[Tryz.ntmps159,List.size_toArray,List.length_cons,List.length_nil,Nat.reduceAdd,Nat.reduceSub,Array.replicate_succ,Array.replicate_zero,List.push_toArray,List.append_toArray,List.nil_append,List.cons_append]
 gi_wp2_with (first
  |(gi_at_range;refine qL (T:=ou) _ rfl _ 207 rfl rfl rfl hown ?_;intro w0 hrg0 hg0 hs0)
  |gi_in)
 have HG0:=Lib.hid hg0
 have gq:=Lib.hid hrg0
 have HND:=Lib.hid hnd
 clear hs0 hg0 hrg0 hnd hown
 try go_frame
 gi_loopw [3] (fun _ wr=>∃(todo:List (P2×Int)) (ss:List P2),Hid (ow ou wr b W.heap.size m todo)/\Hid ((ss++todo.map Prod.fst).Perm (m.map Prod.fst))/\J ss wr)
  (fun _ wr=>wr.rangeLeft b W.heap.size)
 case atStart=>exact⟨m,[],gq,Lib.hid (List.Perm.refl _),hJ [] W w0 none h0 HG0.out (fun r e=>by cases e)⟩
 case round=>
  obtain⟨todo,ss,hrg,hP,hJs⟩:=hrel
  gi_wp2_with (first
   |(gi_at_next;refine rX (T:=ou) _ rfl _ rfl rfl hrg.out pv (Value.int .i64) rfl rfl ?_ ?_)
   |gi_in)
  ·intro ht
   have hp:=hP.out
   rw[ht,List.map_nil,List.append_nil] at hp
   have HP:=Lib.hid hp
   clear hp ht
   gi_wp2
   go_end0
   exact⟨⟨_,rfl⟩,.inl ⟨ss,HP.out,hJs⟩⟩
  ·intro x1 x2 v w2 hx hr2 hg2 hs2 hen
   clear hs2
   have hlen:ss.length<m.length:=by
    have h1:=hP.out.length_eq
    rw[List.length_append,List.length_map,List.length_map] at h1
    have h2:=List.length_pos_of_mem hx
    omega
   have hJ2:J ss w2:=hJ ss wr w2 (some W.heap.size) hJs hg2 (fun r e=>by cases e;exact⟨Nat.le_refl _,NW hrg.out⟩)
   have hJ3:J ss (w2.alloc (.cells #[.int .i64 x1,.int .i64 x2] 160)):=hJ ss w2 _ none hJ2 (World.grownBy_alloc w2 _ none) (fun r e=>by cases e)
   have hr3:=hr2.alloc (.cells #[.int .i64 x1,.int .i64 x2] 160)
   obtain⟨fn,tmps,assign,body,hy,hR⟩:=hY ss (x1,x2) (w2.alloc (.cells #[.int .i64 x1,.int .i64 x2] 160)) hJ3 hlen
   have hpm:((ss++[(x1,x2)])++(Mp.del todo (x1,x2)).map Prod.fst).Perm (m.map Prod.fst):=by
    refine List.Perm.trans ?_ hP.out
    rw[List.append_assoc]
    exact(((zN (List.Nodup.sublist (hrg.out.sub.map Prod.fst) HND.out) hx).map Prod.fst).symm).append_left ss
   have HX:=Lib.hid (And.intro hr3 (And.intro hpm (nE hx)))
   clear hx hr2 hg2 hJ2 hJ3 hr3 hpm hlen
   gi_wp2
   refine hR.mono ?_
   rintro e W3 (⟨rfl,hJ4,hk4⟩|⟨rfl,hJx⟩)
   ·have hr4:=Iu HX.out.1 hk4
    have HR4:=Lib.hid hr4
    clear hr4 hk4
    gi_wp2
    go_roundw
    case rel=>exact⟨_,ss++[(x1,x2)],HR4,Lib.hid HX.out.2.1,hJ4⟩
    case measure=>rw[ow.left HR4.out,ow.left hrg.out];exact HX.out.2.2
   ·gi_wp2
    refine bodyPost_ret (results_none rfl _ _ _) rfl ?_
    exact⟨⟨_,rfl⟩,.inr ⟨_,hJx⟩⟩
set_option maxHeartbeats 1000000 in
theorem keys_in (F:Fence) (n:Nat) (h1:F.fn 129) (hro:F.round=none) (mb:Option Nat) (w:World):
  CallsIn F n Tryz.prog 129 #[.map mb] w fun e w'=>e= .returned (.func (.func 159) #[] #[.pointer (some ⟨w.heap.size,0,none⟩)])/\w'=w.alloc (.cells #[.map mb] 207):=by
 refine callsIn_of_wp Tryz.func129 rfl h1 ?_ hro
 simp only[Tryz.ntmps129,List.size_toArray,List.length_cons,List.length_nil,Nat.reduceAdd,Nat.reduceSub,Array.replicate_succ,Array.replicate_zero,List.push_toArray,List.append_toArray,List.nil_append,List.cons_append]
 gi_wp2
 go_ret
 exact⟨rfl,rfl⟩
def MpO (w:World) (mb:Option Nat) (m:List (P2×Int)):Prop:=mb=none/\m=[]\/∃b,mb=some b/\mp ou w b m
set_option maxRecDepth 100000 in
set_option maxHeartbeats 1000000 in
theorem VI (F:Fence) (n:Nat) (h1:F.fn 159) (hro:F.round=none) (hn:1<=n) (l Bm:Nat) (J:List P2->World->Prop)
  (W:World) (hJ:AbidesFrom W.heap.size J) (hm:W.cell? ⟨Bm,0,none⟩=some (.map none)) (h0:J [] W):
  CallsIn F n Tryz.prog 159 #[.func (.yield l) #[] #[],.pointer (some ⟨Bm,0,none⟩)] W fun e W'=>(∃v,e= .returned v)/\J [] W':=by
 refine callsIn_of_wp Tryz.func159 rfl h1 ?_ hro
 simp only[Tryz.ntmps159,List.size_toArray,List.length_cons,List.length_nil,Nat.reduceAdd,Nat.reduceSub,Array.replicate_succ,Array.replicate_zero,List.push_toArray,List.append_toArray,List.nil_append,List.cons_append]
 have hrg:=run_range_nilMap (P:=Tryz.prog) W 207 160 3 Tryz.underlying207
 have hnx:∀ty,(Instr.next (.pointer (some ⟨W.heap.size,0,none⟩)) false ty).run Tryz.prog (W.alloc (.mapIter none 0 #[] 0))=_:=fun ty=>run_next_nilMap _ ty 0 0 #[]
 gi_wp2
 refine wpIn_loop_rounds 1 ?_
 rw[roundsIn_succ]
 gi_wp2
 go_end0
 exact⟨⟨_,rfl⟩,hJ [] W _ none h0 (World.grownBy_alloc W _ none) (fun r e=>by cases e)⟩
theorem keys_stops (F:Fence) (n:Nat) (h1:F.fn 159) (hro:F.round=none) (hn:1<=n) (Bm:Nat) (mb:Option Nat) (m:List (P2×Int)) (w:World) (hBm:Bm<w.heap.size) (hm:w.cell? ⟨Bm,0,none⟩=some (.map mb)) (hown:MpO w mb m):
  SeqStopsK F n Tryz.prog 159 #[.pointer (some ⟨Bm,0,none⟩)] (fun x:P2=>#[pv x]) KeepsWalks (fun xs=>xs.Perm (m.map Prod.fst)) (fun _=>True) m.length w:=fun l J Jx W hW hJ _ hY h0=>by
 have hm':=(hW.cell (p:=⟨Bm,0,none⟩) hBm).trans hm
 rcases hown with⟨rfl,rfl⟩|⟨b,rfl,hM⟩
 ·exact(VI F n h1 hro hn l Bm J W hJ hm' h0).mono fun _ _ ⟨he,hj⟩=>⟨he,.inl ⟨[],List.Perm.refl _,hj⟩⟩
 ·have hM':mp ou W b m:=hM.same (hW.block b hM.lt)
  exact(keys1_in F n h1 hro hn l Bm b m J Jx hY W hJ hm' hM' h0).mono fun _ _ ⟨he,hj⟩=>⟨he,hj.imp (fun h=>h) (fun⟨pre,hp⟩=>⟨pre,trivial,hp⟩)⟩
abbrev TP:Nat:=160
def qO (x:P2):List Value:=[.int .i64 x.1,.int .i64 x.2]
theorem infoP:(Tryz.prog.info? 160).map (fun i=>(i.zero,i.size,i.bytes))=some (some (.agg #[.int .i64 0,.int .i64 0]),2,16):=by kernel_rfl
theorem Va {β:Type} (B:Nat) (Bx:Nat) (cs:Array Value) (t:TypeId):OwnFrom (β:=β) B (fun _ W=>W.heap[Bx]?=some (.cells cs t (0,0))):=fun s W W' row hs hg hr=>by
 refine(hg.block Bx (Bs.bA hs) (fun e=>?_)).trans hs
 obtain⟨_,o,ho,hc⟩:=hr Bx e.symm
 rw[hs] at ho
 cases ho
 cases hc
set_option maxRecDepth 100000 in
set_option maxHeartbeats 2000000 in
theorem appendSeq_in (F:Fence) (n:Nat) (hf:F.fn 185) (hro:F.round=none) (hn:4<=n) (gf:Nat) (lb:Array Value) (hFg:F.fn gf) (eg:∀args w,(callFunc gf args).run Tryz.prog w= .ok (.enter gf args) w) (S:List P2->Prop) (N:Nat) (hN:N<=1000000) (w:World)
  (hseq:SeqStopsK F (n-1) Tryz.prog gf lb (fun x:P2=>#[pv x]) KeepsWalks S (fun _=>True) N w) (hSN:∀xs,S xs->xs.length<=N):
  CallsIn F n Tryz.prog 185 #[.slice none 0 0,.func (.func gf) #[] lb] w fun e w'=>∃v xs,e= .returned v/\S xs/\w'.ownsRow w.heap.size TP 2 v xs.length (xs.flatMap qO)/\Below w.heap.size w w':=by
 have h1:1<=n:=by omega
 obtain⟨i0,hi,hz0,hz1,hz2⟩:=info_parts infoP
 refine callsIn_of_wp_marks Tryz.func185 rfl hf ?_ hro
 simp only[Tryz.ntmps185,List.size_toArray,List.length_cons,List.length_nil,Nat.reduceAdd,Nat.reduceSub,Array.replicate_succ,Array.replicate_zero,List.push_toArray,List.append_toArray,List.nil_append,List.cons_append]
 gi_wp2
 have bO:=Boxed.new w 156 (.slice none 0 0)
 have hB0:Below w.heap.size w (w.alloc (.cells #[.slice none 0 0] 156)):=(Below.refl _ w).alloc (Nat.le_refl _) _
 refine wpIn_rangeFunc_ownH hro h1 (gf:=gf) (lb:=lb) rfl hFg eg hseq walksK_t walksK_b hB0 (fun _=>rfl)
  (fun pre W=>(∃v,Boxed W w.heap.size 156 v/\W.ownsRow w.heap.size TP 2 v pre.length (pre.flatMap qO)/\True)/\Below w.heap.size w W)
  (fun _ _ _=>False)
  (OwnFrom.and (Own.from (holdsRow_own w.heap.size w.heap.size 156 TP 2 (fun pre:List P2=>pre.length) (fun pre=>pre.flatMap qO) (fun _ _=>True)) _) (ownFrom_below (Nat.le_refl _) (by simp)))
  (fun _ _ _ _ _ hs _ _=>hs)
  ⟨⟨_,bO,World.ownsRow_nil _ _ _ _,trivial⟩,hB0⟩
  (fun x a' W=>∃Bx,w.heap.size<Bx/\W.heap[Bx]?=some (.cells #[.int .i64 x.1,.int .i64 x.2] TP (0,0))/\a'={tmps:=#[.slice none 0 0,.func (.func gf) #[] lb,.pointer (some ⟨w.heap.size,0,none⟩),undef,.slice none 0 0,.pointer (some ⟨Bx,0,none⟩),.func (.func gf) #[] lb,pv x,undef,undef,undef,undef,undef],defers:=[]})
  (fun x a' s W W' row hs hg hr=>by
   obtain⟨Bx,h1,h2,h3⟩:=hs
   exact⟨Bx,h1,Va _ Bx _ _ () W W' row h2 hg hr,h3⟩) ?assign ?body ?done ?stop
 case assign=>
  rintro l pre x W K ⟨⟨v,hv,hrow,_⟩,hB⟩ hK
  obtain⟨x1,x2⟩:=x
  gi_wp2
  exact hK _ _ ((KeepsOthers.alloc _ _).from _) (KeepsWalks.alloc W _) ⟨⟨v,hv.alloc _,hrow.alloc _,trivial⟩,hB.alloc hB.size _⟩ ⟨W.heap.size,hv.lt,bG W _,rfl⟩
 case body=>
  rintro l pre x a' W hl ⟨r,hr⟩ ⟨⟨v,hv,hrow,_⟩,hB⟩ ⟨Bx,hBx,hbx,rfl⟩ hlt
  obtain⟨x1,x2⟩:=x
  have hc:=hv.cell
  have c0:W.cell? ⟨Bx,0,none⟩=some (.int .i64 x1):=aj hbx 0
  have c1:W.cell? ⟨Bx,1,none⟩=some (.int .i64 x2):=aj hbx 1
  clear hr hbx
  gi_wp2_with (gi_at_builtin;refine wpListIn_append_own _ rfl _ _ 156 rfl w.heap.size TP i0 (.agg #[.int .i64 0,.int .i64 0]) 2 16 Tryz.underlying156 hi hz0 hz1 hz2 rfl (by decide) _ _ _ rfl (hrow.alloc _) ⟨W.heap.size,0,none⟩ 1 1 [.int .i64 x1,.int .i64 x2] rfl rfl (mr _ _ _) (by intro u hu;simp at hu;rcases hu with rfl|rfl<;>rfl) (by unfold maxLen;omega) (by omega) (by have:=hB.size;simp;omega) ?_;intro v' w1 hown' hgrow _;obtain⟨g',cap',rfl⟩:=ownsRow_succ hown';obtain⟨hv1,hv2,hr2,hk2,hb2⟩:=hv.appended (by decide) hrow hB.size (Nat.le_refl _) hown' hgrow;have hc1:=hv1.cell;have hf1:=hv1.frozen)
  exact⟨hk2.from _,hk2.walks,⟨_,hv2,by rw[List.length_append,List.flatMap_append];simpa[qO] using hr2,trivial⟩,hB.trans hb2⟩
 case done=>
  rintro D ys W hD hS ⟨⟨v,hv,hrow,_⟩,hB⟩ hK
  have hc:=hv.cell
  obtain⟨A,c,rfl⟩:=bU hrow
  gi_wp2
  refine⟨by simp,.inl ⟨_,_,rfl,run_takeDeferred hK,?_⟩⟩
  exact⟨_,results_tmp rfl _ _ _,_,ys,rfl,hS,ownsRow_putObj hrow _ hK rfl,hB.trans (belowK_b (w:=w) (Nat.le_refl _) W D _ _ (by simp at hD;omega) hK rfl rfl)⟩
 case stop=>
  rintro D c pre W _ _ h _
  exact h.elim
set_option maxHeartbeats 1000000 in
theorem collect_in (F:Fence) (n:Nat) (hf:F.fn 185) (hf2:F.fn 157) (hro:F.round=none) (hn:5<=n) (gf:Nat) (lb:Array Value) (hFg:F.fn gf) (eg:∀args w,(callFunc gf args).run Tryz.prog w= .ok (.enter gf args) w) (S:List P2->Prop) (N:Nat) (hN:N<=1000000) (w:World)
  (hseq:SeqStopsK F (n-1-1) Tryz.prog gf lb (fun x:P2=>#[pv x]) KeepsWalks S (fun _=>True) N w) (hSN:∀xs,S xs->xs.length<=N):
  CallsIn F n Tryz.prog 157 #[.func (.func gf) #[] lb] w fun e w'=>∃v xs,e= .returned v/\S xs/\w'.ownsRow w.heap.size TP 2 v xs.length (xs.flatMap qO)/\Below w.heap.size w w':=by
 have h1:1<=n:=by omega
 have hA:=appendSeq_in F (n-1) hf hro (by omega) gf lb hFg eg S N hN w hseq hSN
 refine callsIn_of_wp Tryz.func157 rfl hf2 ?_ hro
 simp only[Tryz.ntmps157,List.size_toArray,List.length_cons,List.length_nil,Nat.reduceAdd,Nat.reduceSub,Array.replicate_succ,Array.replicate_zero,List.push_toArray,List.append_toArray,List.nil_append,List.cons_append]
 gi_wp2_with (gi_at_call 185;refine hA.mono ?_;rintro e w1 ⟨v,xs,rfl,h2,h3,h4⟩;have HX:=Lib.hid (And.intro h2 (And.intro h3 h4));clear h2 h3 h4)
 go_ret
 exact⟨v,xs,rfl,HX.out.1,HX.out.2.1,HX.out.2.2⟩
theorem Jf (mb:Option Nat) (m:List (P2×Int)) (hm:m.length<=1000000) (w:World) (Bm:Nat) (hBm:Bm<w.heap.size) (hc:w.cell? ⟨Bm,0,none⟩=some (.map mb)) (hown:MpO w mb m):
  Calls Tryz.prog 157 #[.func (.func 159) #[] #[.pointer (some ⟨Bm,0,none⟩)]] w fun e w'=>∃(v:Value) (xs:List P2),e= .returned v/\xs.Perm (m.map Prod.fst)/\w'.ownsRow w.heap.size TP 2 v xs.length (xs.flatMap qO)/\Below w.heap.size w w':=by
 refine callsIn_wide.1 (collect_in Fence.wide 6 trivial trivial rfl (by omega) _ _ trivial (enters_of Tryz.func159 (by kernel_rfl) rfl) (fun xs=>xs.Perm (m.map Prod.fst)) m.length hm w (keys_stops Fence.wide _ trivial rfl (by omega) Bm mb m w hBm hc hown) (fun xs h=>by rw[h.length_eq];simp))
theorem yh (mb:Option Nat) (w:World):Calls Tryz.prog 129 #[.map mb] w fun e w'=>e= .returned (.func (.func 159) #[] #[.pointer (some ⟨w.heap.size,0,none⟩)])/\w'=w.alloc (.cells #[.map mb] 207):=
 callsIn_wide.1 (keys_in Fence.wide 1 trivial rfl mb w)
end Go.Proofs.YtilpincgjlclpaaGreat.Ob
end
section
namespace Go.Proofs.YtilpincgjlclpaaGreat.Ob
open Go Go.RowKit Bs Mp jL Go.Proofs.ae.au Pr
open Go.Lib
open Go.Sort (PermIn SortedIn HoldsK grow)
set_option maxHeartbeats 4000000 in
set_option maxRecDepth 100000 in
theorem Yb (x y:P2) (W:World):Calls Tryz.prog 149 #[.agg #[.int .i64 x.1,.int .i64 x.2],.agg #[.int .i64 y.1,.int .i64 y.2]] W fun e w'=>e= .returned (.int .i64 (yU x y))/\yI W w':=by
 have hc:=nT
 obtain⟨r,hr⟩:∃r,yU x y=r:=⟨_,rfl⟩
 have ho:=fun U=>Kq (mU x.1 y.1) (mU x.2 y.2) U
 rw[show(if mU x.1 y.1=0 then mU x.2 y.2 else mU x.1 y.1)=r from hr] at ho
 rw[hr]
 clear hr
 obtain⟨V,hV⟩:∃V,V=(W.alloc (.cells #[.int .i64 x.1,.int .i64 x.2] 160)).alloc (.cells #[.int .i64 y.1,.int .i64 y.2] 160):=⟨_,rfl⟩
 have hx:V.heap[W.heap.size]?=some (.cells #[.int .i64 x.1,.int .i64 x.2] 160 (0,0)):=by rw[hV];exact dw (bG W _) _
 have hy:V.heap[W.heap.size+1]?=some (.cells #[.int .i64 y.1,.int .i64 y.2] 160 (0,0)):=by
  rw[hV]
  have:=bG (W.alloc (.cells #[.int .i64 x.1,.int .i64 x.2] 160)) (.cells #[.int .i64 y.1,.int .i64 y.2] 160)
  rwa[World.size_alloc] at this
 have x0:V.cell? ⟨W.heap.size,0,none⟩=some (.int .i64 x.1):=aj hx 0
 have x1:V.cell? ⟨W.heap.size,1,none⟩=some (.int .i64 x.2):=aj hx 1
 have y0:V.cell? ⟨W.heap.size+1,0,none⟩=some (.int .i64 y.1):=aj hy 0
 have y1:V.cell? ⟨W.heap.size+1,1,none⟩=some (.int .i64 y.2):=aj hy 1
 have HV:=Lib.hid hV
 have mixed:Tryz.prog.follows .mixedOrders=true:=by kernel_rfl
 go_enter Tryz.func149,Tryz.ntmps149
 go_wp2_with fail
 rw[<-hV]
 clear hV hx hy
 go_region_held (fun w'=>w'.cell? ⟨W.heap.size,0,none⟩=some (.int .i64 x.1)/\w'.cell? ⟨W.heap.size,1,none⟩=some (.int .i64 x.2)/\w'.cell? ⟨W.heap.size+1,0,none⟩=some (.int .i64 y.1)/\w'.cell? ⟨W.heap.size+1,1,none⟩=some (.int .i64 y.2)) (go_keep) (first
  |(go_at_call 132;refine(hc _ _ _).mono ?_;rintro e w1 ⟨rfl,n,rfl⟩)
  |(go_at_call 131;refine(ho (V.drewN _)).mono ?_;rintro e w1 ⟨rfl,n,rfl⟩))
 go_wp2
 go_ret
 exact⟨rfl,by rw[HV.out];exact Eb W _ _ _ _ _⟩
set_option maxHeartbeats 4000000 in
set_option maxRecDepth 100000 in
theorem Ya (x y:P2) (W:World):Calls Tryz.prog 130 #[.agg #[.int .i64 x.1,.int .i64 x.2],.agg #[.int .i64 y.1,.int .i64 y.2]] W fun e w'=>e= .returned (.int .i64 (yU x y))/\yI W w':=by
 have hc:=nT
 obtain⟨r,hr⟩:∃r,yU x y=r:=⟨_,rfl⟩
 have ho:=fun U=>Kq (mU x.1 y.1) (mU x.2 y.2) U
 rw[show(if mU x.1 y.1=0 then mU x.2 y.2 else mU x.1 y.1)=r from hr] at ho
 rw[hr]
 clear hr
 obtain⟨V,hV⟩:∃V,V=(W.alloc (.cells #[.int .i64 x.1,.int .i64 x.2] 160)).alloc (.cells #[.int .i64 y.1,.int .i64 y.2] 160):=⟨_,rfl⟩
 have hx:V.heap[W.heap.size]?=some (.cells #[.int .i64 x.1,.int .i64 x.2] 160 (0,0)):=by rw[hV];exact dw (bG W _) _
 have hy:V.heap[W.heap.size+1]?=some (.cells #[.int .i64 y.1,.int .i64 y.2] 160 (0,0)):=by
  rw[hV]
  have:=bG (W.alloc (.cells #[.int .i64 x.1,.int .i64 x.2] 160)) (.cells #[.int .i64 y.1,.int .i64 y.2] 160)
  rwa[World.size_alloc] at this
 have x0:V.cell? ⟨W.heap.size,0,none⟩=some (.int .i64 x.1):=aj hx 0
 have x1:V.cell? ⟨W.heap.size,1,none⟩=some (.int .i64 x.2):=aj hx 1
 have y0:V.cell? ⟨W.heap.size+1,0,none⟩=some (.int .i64 y.1):=aj hy 0
 have y1:V.cell? ⟨W.heap.size+1,1,none⟩=some (.int .i64 y.2):=aj hy 1
 have HV:=Lib.hid hV
 have mixed:Tryz.prog.follows .mixedOrders=true:=by kernel_rfl
 go_enter Tryz.func130,Tryz.ntmps130
 go_wp2_with fail
 rw[<-hV]
 clear hV hx hy
 go_region_held (fun w'=>w'.cell? ⟨W.heap.size,0,none⟩=some (.int .i64 x.1)/\w'.cell? ⟨W.heap.size,1,none⟩=some (.int .i64 x.2)/\w'.cell? ⟨W.heap.size+1,0,none⟩=some (.int .i64 y.1)/\w'.cell? ⟨W.heap.size+1,1,none⟩=some (.int .i64 y.2)) (go_keep) (first
  |(go_at_call 132;refine(hc _ _ _).mono ?_;rintro e w1 ⟨rfl,n,rfl⟩)
  |(go_at_call 131;refine(ho (V.drewN _)).mono ?_;rintro e w1 ⟨rfl,n,rfl⟩))
 go_wp2
 go_ret
 exact⟨rfl,by rw[HV.out];exact Eb W _ _ _ _ _⟩
structure RZ (g:Nat):Prop where
 eg:∀args w,(callFunc g args).run Tryz.prog w= .ok (.enter g args) w
 is:∀(x y:P2) (W:World),Calls Tryz.prog g #[.agg #[.int .i64 x.1,.int .i64 x.2],.agg #[.int .i64 y.1,.int .i64 y.2]] W fun e w'=>e= .returned (.int .i64 (yU x y))/\yI W w'
theorem cmpR:RZ 149:=⟨enters_of Tryz.func149 (by kernel_rfl) rfl,Yb⟩
theorem cmpM:RZ 130:=⟨enters_of Tryz.func130 (by kernel_rfl) rfl,Ya⟩
theorem RJ {g:Nat} (hg:RZ g) {B:Nat} {w:World} {v:Value} {l:List P2} (h:w.ownsRow B TP 2 v l.length (l.flatMap qO)) (hl:l.length<=1000000):
  Calls Tryz.prog 158 #[v,.func (.func g) #[] #[]] w fun e w'=>e= .returned (.tuple #[])/\∃xs:List P2,xs.Perm l/\(xs.Pairwise fun x y=>¬zO y x)/\w'.ownsRow B TP 2 v l.length (xs.flatMap qO)/\Fr (fun k=>v.ownBlock=some k) w w':=by
 obtain⟨A,c,rfl⟩:=Bs.bU h
 by_cases hd:l=[]
 ·subst hd
  exact(AnyF.slices_SortFunc_none Tryz.sortP A c _ w).mono fun e w' h1=>⟨h1.1,[],List.Perm.refl _,List.Pairwise.nil,by rw[h1.2];exact h,by rw[h1.2];exact Fr.refl _ _⟩
 ·obtain⟨g0,rfl,_⟩:=gz h (List.length_pos_iff.2 hd)
  have hh:=Ik (enc:=qO) (fun _=>rfl) (by omega) l h
  have hs:=AnyQ.slices_SortFunc Tryz.sortP 2 Tryz.isAgg160 Tryz.sizeOf160 qO (fun _=>rfl) (fun x v hv=>by simp[qO] at hv;rcases hv with rfl|rfl<;>rfl) (fun x y=>yU x y) (swoP fun x:P2=>x) g #[] g0 0 c l.toArray w hg.eg (fun _ _ _ _ x y=>(hg.is x y _).mono fun _ _ h=>⟨h.1,h.2.out⟩) hh.1 hh.2 (by simp;omega)
  simp only[List.size_toArray] at hs
  refine hs.mono ?_
  rintro e w' ⟨rfl,d',nn,os,hp,hst,rfl⟩
  have hsz:d'.size=l.length:=by have:=hp.1;simpa using this
  have ho:=NG (m:=nn) (os:=os) (enc:=qO) (fun _=>rfl) (by omega) h d' hsz
  refine⟨rfl,d'.toList,?_,?_,ho.1,ho.2.mono fun i hi=>by rw[hi];rfl⟩
  ·have:=hp.2.2
   have ht:List.take l.length d'.toList=d'.toList:=List.take_of_length_le (by simp[hsz])
   simpa[hsz,ht] using this
  ·refine(BZ (by rw[hsz];exact hst)).imp fun{a b} hab=>?_
   unfold ltOf at hab
   simpa[ltP] using hab
theorem Wv {xs:List P2} {m:List (P2×Int)} (hp:xs.Perm (m.map Prod.fst)) (hn:(m.map Prod.fst).Nodup) (hs:xs.Pairwise fun x y=>¬zO y x):xs.Pairwise zO:=by
 have h2:xs.Nodup:=hp.nodup_iff.2 hn
 refine(hs.and h2).imp ?_
 rintro x y ⟨h1,h2⟩
 rcases Kw x y with h|h|h
 ·exact h
 ·exact(h2 h).elim
 ·exact(h1 h).elim
set_option maxHeartbeats 1000000 in
set_option maxRecDepth 100000 in
theorem wh {g:Nat} (hg:RZ g) (mb:Option Nat) (m:List (P2×Int)) (hm:m.length<=1000000) (hn:(m.map Prod.fst).Nodup) (w:World) (Bm:Nat) (hBm:Bm<w.heap.size) (hc:w.cell? ⟨Bm,0,none⟩=some (.map mb)) (hown:MpO w mb m):
  Calls Tryz.prog 128 #[.func (.func 159) #[] #[.pointer (some ⟨Bm,0,none⟩)],.func (.func g) #[] #[]] w fun e w'=>∃(v:Value) (xs:List P2),e= .returned v/\xs.Pairwise zO/\xs.Perm (m.map Prod.fst)/\w'.ownsRow w.heap.size TP 2 v xs.length (xs.flatMap qO)/\Below w.heap.size w w':=by
 have hco:=Jf mb m hm w Bm hBm hc hown
 clear hc hown
 go_enter Tryz.func128,Tryz.ntmps128
 go_wp2_with fail
 refine hco.mono ?_
 rintro e w1 ⟨v,xs,rfl,hxp,hxo,hxb⟩
 have hlen:xs.length<=1000000:=by rw[hxp.length_eq];simpa using hm
 have hsp:=RJ hg hxo hlen
 have HX:=Lib.hid (And.intro hxp (And.intro hxo hxb))
 clear hxp hxo hxb
 go_wp2_with fail
 refine hsp.mono ?_
 rintro e w2 ⟨rfl,ys,hyp,hys,hyo,hyf⟩
 have HY:=Lib.hid (And.intro hyp (And.intro hys (And.intro hyo hyf)))
 clear hyp hys hyo hyf
 go_wp2
 go_ret
 obtain⟨hxp,hxo,hxb⟩:=HX.out
 obtain⟨hyp,hys,hyo,hyf⟩:=HY.out
 exact⟨v,ys,rfl,Wv (hyp.trans hxp) hn hys,hyp.trans hxp,by rw[hyp.length_eq];exact hyo,hxb.trans (hyf.toBelow (fun i hi=>(Bs.eG hxo hi).1) hxb.size)⟩
end Go.Proofs.YtilpincgjlclpaaGreat.Ob
end
