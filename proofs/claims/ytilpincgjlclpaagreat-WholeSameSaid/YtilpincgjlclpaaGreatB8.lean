import Derived.Deep.RegionHeld
import Derived.OrdersHeld
import Derived.WalkKit
import Derived.Test.YtilpincgjlclpaaGreatB2
set_option linter.unusedVariables false
set_option linter.unusedSimpArgs false
section
namespace Go.Proofs.YtilpincgjlclpaaGreat.Pr
open Go.RowKit Go.Proofs.ae.au Go.Proofs.ae.aZ Go.Proofs.ae.bE
attribute [local go_sem] bQ min2_int cB min_two max_three min_three max_four min_four
def dM.l0:Nat->Int->List (dN)->Int->Int->Option (Int)
 |0,_,_,_,_=>none
 |k+1,x3,x6,x7,x8=>if x8<x7 then(if 0<=x8 then(if x8<(x6.length:Int) then(dM.l0 k (wrap64 (x3+(((aU x6 x8).f0).size:Int))) x6 x7 (wrap64 (x8+1))) else(none)) else(none)) else(some x3)
def dM.f (k:Nat) (l0:List (dN)):Option (Int):=dM.l0 k 0 l0 (l0.length:Int) 0
set_option maxHeartbeats 8000000 in
set_option maxRecDepth 100000 in
theorem dM.calls (k:Nat) (A0:Option Addr) (c0:Nat) (l0:List (dN)) (r:Int) (w:World) (hr0:Kd.C lQ w A0 l0.length l0) (hc0:l0.length<=c0) (h:dM.f k l0=some r):
  Calls Tryz.prog 111 #[.slice A0 l0.length c0] w fun e w'=>e= .returned (.int .i64 r)/\Below w.heap.size w w':=by
 have Zg:=Tryz.underlying45
 have gq:=ai.mk hr0
 have lC:=ai.mk hc0
 clear hr0 hc0
 have HB:=ai.mk (Below.refl w.heap.size w)
 have H:(dM.l0 k 0 l0 (l0.length:Int) 0)=some r:=h
 clear h
 have H':=ai.mk H
 clear H
 go_enter Tryz.func111,Tryz.ntmps111
 go_wp2
 go_loopg [3,8] k (fun kq v3 v8 w'=>∃(fB:Int) (kI:Int),v3= .int .i64 fB/\v8= .int .i64 kI/\ai (dM.l0 kq fB l0 (l0.length:Int) kI=some r)/\ai (kq<=k)/\ai (Below w.heap.size w w'))
 case atStart=>exact⟨(0),(0),(by first|rfl|(simp;done)|(simp[*];done)),(by first|rfl|(simp;done)|(simp[*];done)),H',⟨Nat.le_refl _⟩,⟨by repeat(first|(with_reducible first|exact HB.out|apply ag|apply af|apply ah)|exact HB.out)⟩⟩
 case round=>
  clear H'
  try clear c1
  obtain⟨fB,kI,rfl,rfl,HA,gH,HB⟩:=hrel
  cases gk with
  |zero=>exact absurd HA.out (by simp[dM.l0])
  |succ k1=>
   have H:=HA.out
   clear HA
   simp only[dM.l0] at H
   by_cases c2:kI<(l0.length:Int)
   ·rw[if_pos c2] at H
    have jV:decide (kI<(l0.length:Int))=true:=decide_eq_true c2
    clear c2
    by_cases c3:0<=kI
    ·rw[if_pos c3] at H
     have iY:decide (0<=kI)=true:=decide_eq_true c3
     clear c3
     by_cases c4:kI<(l0.length:Int)
     ·rw[if_pos c4] at H
      have iw:decide (kI<(l0.length:Int))=true:=decide_eq_true c4
      clear c4
      have H':=ai.mk H
      clear H
      have p251:0<=(kI:Int):=of_decide_eq_true (by first|(with_reducible assumption)|assumption)
      have q251:kI<(l0.length:Int):=of_decide_eq_true (by first|(with_reducible assumption)|assumption)
      obtain⟨ad251,e251,JZ,Ka⟩:=eP gq.out kI p251 q251
      cases e251
      replace JZ:=(HB.out.cell (World.block_lt_of_cell? w _ JZ)).trans JZ
      replace Ka:=(HB.out.cell (World.block_lt_of_cell? w _ Ka)).trans Ka
      replace p251:=eq_true p251
      replace q251:=eq_true q251
      go_wp2_with (first|((with_reducible refine di (N:=5) rfl ?_);refine bW ?hg (N:=5) ?hd (cs:=#[.string (⟨#[]⟩:ByteArray),.int .i64 0]) (t:=45) ?hr ?_;(case hd=>rfl);(case hg=>rfl);(case hr=>first|(go_simp;done)|(go_simp;rfl));intro SE hg w5 dm hb;have bN:=ai.mk (bn (by repeat(first|(with_reducible first|exact HB.out|apply ag|apply af|apply ah)|exact HB.out)) hb);have bP:=ai.mk (dm);have cz:=ai.mk ((by rw[hg];exact(ay (by repeat(first|(with_reducible first|exact HB.out|apply ag|apply af|apply ah)|exact HB.out))):w.heap.size<=SE));have fC:=ai.mk ((by rw[hg];exact(ay (by repeat(first|(with_reducible first|exact HB.out|apply ag|apply af|apply ah)|exact HB.out))):w.heap.size<=SE));clear HB;have HB:=bN;have RY:=bP;have GW252:=cz;have GE252:=fC;clear bN bP cz fC;clear hb dm hg;have vE:w5.cell? ⟨SE,0,none⟩=some (.string (⟨#[]⟩:ByteArray)):=(ax RY.out 0).trans rfl;have vF:w5.cell? ⟨SE,1,none⟩=some (.int .i64 0):=(ax RY.out 1).trans rfl;have vG:=ak RY.out 0;have vH:=ak RY.out 1))
      go_roundg k1
      case measure=>have:=gH.out;omega
      case rel=>exact⟨(wrap64 (fB+(((aU l0 kI).f0).size:Int))),(wrap64 (kI+1)),(by first|rfl|(simp;done)|(simp[*];done)),(by first|rfl|(simp;done)|(simp[*];done)),H',⟨by have:=gH.out;omega⟩,⟨by repeat(first|(with_reducible first|exact HB.out|apply ag|apply af|apply ah|refine az ?_ GE252.out)|exact HB.out)⟩⟩
     ·rw[if_neg c4] at H
      exact absurd H (by simp)
    ·rw[if_neg c3] at H
     exact absurd H (by simp)
   ·rw[if_neg c2] at H
    have jV:decide (kI<(l0.length:Int))=false:=decide_eq_false c2
    clear c2
    obtain rfl:=Option.some.inj H
    go_wp2
    go_ret
    exact⟨by first|rfl|(simp[aC,aD]<;>rfl)|(simp[*,aC,aD]<;>rfl),by repeat(first|(with_reducible first|exact HB.out|apply ag|apply af|apply ah)|exact HB.out)⟩
end Go.Proofs.YtilpincgjlclpaaGreat.Pr
end
section
namespace Go.Proofs.YtilpincgjlclpaaGreat.Ow
open Go
section
variable {P:Program} {ops:Array Oper} {Q:Exit->Act->World->Prop} {md:Region.Mode} {S:World->Prop} {late:Nat->Bool}
def oG (P:Program) (md:Region.Mode) (ops:Array Oper) (Q:Exit->Act->World->Prop) (S:World->Prop) (late:Nat->Bool):Nat->Array Bool->Act->World->Prop
 |0,listed,a,w=>Region.ready md ops listed=[]/\Q .normal a w
 |fuel+1,listed,a,w=>
  (Region.ready md ops listed=[]->Q .normal a w)/\
  ∀i∈Region.ready md ops listed,wpOp P ops Q i (fun a' w'=>(late i=false->S w')/\oG P md ops Q S late fuel (listed.setIfInBounds i true) a' w') a w
theorem FV:∀(fuel:Nat) (listed:Array Bool) (a:Act) (w:World),oG P md ops Q S late fuel listed a w->wpAny P md ops Q fuel listed a w
 |0,_,_,_,h=>h
 |fuel+1,_,_,_,h=>⟨h.1,fun i hi=>wpOp_mono (fun a' w' h'=>FV fuel _ a' w' h'.2) (h.2 i hi)⟩
theorem KZ {i:Nat} {oi:Oper} {v:Value} (hi:ops[i]?=some oi) (hsel:∀(j:Nat) (o:Oper) cs b,ops[j]?=some o->o.op≠ .select cs b)
  (hQ:∀c a w,Q (.panic c) (a.put oi.dst v) w->Q (.panic c) a w) (hl:∀j oj,ops[j]?=some oj->late j=true->j≠i->∃e∈oj.after,Region.binds md e=true/\e.on=i):
  ∀(fuel:Nat) (listed:Array Bool) (a:Act) (w:World),
   (∀j oj,ops[j]?=some oj->j≠i->listed.getD j true=false->(∀e∈oj.after,Region.binds md e=true->e.on≠i)->oi.apart ops oj=true)->
   i∈Region.ready md ops listed->YieldsIf P ops S oi v a->S w->
   oG P md ops Q S late fuel (listed.setIfInBounds i true) (a.put oi.dst v) w->oG P md ops Q S late (fuel+1) listed a w:=by
 intro fuel
 induction fuel with
 |zero=>
  intro listed a w _ hr hy hS H
  refine⟨fun h=>(by rw[h] at hr;cases hr),fun j hj=>?_⟩
  by_cases hji:j=i
  ·subst hji;exact hy.wpOp hi hS ⟨fun _=>hS,H⟩
  ·have:=ready_mono hj hji
   rw[H.1] at this
   cases this
 |succ fuel ih=>
  intro listed a w hfree hr hy hS H
  refine⟨fun h=>(by rw[h] at hr;cases hr),fun j hj=>?_⟩
  by_cases hji:j=i
  ·subst hji;exact hy.wpOp hi hS ⟨fun _=>hS,H⟩
  ·have h1:=H.2 j (ready_mono hj hji)
   obtain⟨hjun,oj,hoj,hall⟩:=mem_ready.1 hj
   have hnot:∀e∈oj.after,Region.binds md e=true->e.on≠i:=fun e he hb heq=>by
    have h1:=hall e he hb
    have h0:=(mem_ready.1 hr).1
    rw[heq] at h1
    rcases Nat.lt_or_ge i listed.size with h'|h'
    ·simp[h'] at h0 h1;rw[h0] at h1;cases h1
    ·simp[Array.getElem?_eq_none h'] at h1
   have hlj:late j=false:=by
    cases e:late j with
    |false=>rfl
    |true=>
     obtain⟨d,hd,hb,ho⟩:=hl j oj hoj e hji
     exact(hnot d hd hb ho).elim
   have h2:=wpOp_putIf hoj (hfree j oj hoj hji hjun hnot) (fun cs b=>hsel i oi cs b hi) (fun cs b=>hsel j oj cs b hoj) hQ hy h1
   have hfree':∀k ok,ops[k]?=some ok->k≠i->(listed.setIfInBounds j true).getD k true=false->
     (∀e∈ok.after,Region.binds md e=true->e.on≠i)->oi.apart ops ok=true:=fun k ok hk hki hun hno=>by
    refine hfree k ok hk hki ?_ hno
    by_cases hjk:j=k
    ·subst hjk;exact hjun
    ·rw[getD_set_ne true hjk] at hun;exact hun
   refine wpOp_mono (fun a' w' h3=>⟨h3.2.1,ih (listed.setIfInBounds j true) a' w' hfree' (ready_mono hr (Ne.symm hji)) h3.1 (h3.2.1 hlj) ?_⟩) h2
   rw[Array.setIfInBounds_comm _ _ hji]
   exact h3.2.2
def waits (md:Region.Mode) (ops:Array Oper) (late:Nat->Bool) (i:Nat):Bool:=
 (List.range ops.size).all fun j=> !late j||j==i||match ops[j]? with|some o=>o.after.any (fun e=>Region.binds md e&&e.on==i)|none=>true
theorem Cf {i:Nat} {oi:Oper} {v:Value} {fuel:Nat} {listed:Array Bool} {a:Act} {w:World} (hi:ops[i]?=some oi)
  (hs:Region.noSelect ops=true) (hf:Region.free md ops listed i=true) (hr:(Region.ready md ops listed).contains i=true) (hl:waits md ops late i=true)
  (hQ:∀c a w,Q (.panic c) (a.put oi.dst v) w->Q (.panic c) a w) (hy:YieldsIf P ops S oi v a) (hS:S w)
  (h:oG P md ops Q S late fuel (listed.setIfInBounds i true) (a.put oi.dst v) w):oG P md ops Q S late (fuel+1) listed a w:=by
 refine KZ hi (Region.noSelect_spec hs) hQ (fun j oj hj hlj hji=>?_) fuel listed a w (Region.free_spec hi hf) (by simpa using hr) hy hS h
 have hlt:=(Array.getElem?_eq_some_iff.1 hj).1
 have h1:=List.all_eq_true.1 hl j (List.mem_range.2 hlt)
 rw[hj,hlj] at h1
 simp[hji] at h1
 obtain⟨k,hk,h2,h3⟩:=h1
 exact⟨oj.after[k],Array.getElem_mem hk,h2,h3⟩
theorem RV {rs:List Nat} {fuel:Nat} {listed:Array Bool} {a:Act} {w:World} (hr:Region.ready md ops listed=rs) (hne:rs≠[])
  (h:∀i∈rs,wpOp P ops Q i (fun a' w'=>(late i=false->S w')/\oG P md ops Q S late fuel (listed.setIfInBounds i true) a' w') a w):oG P md ops Q S late (fuel+1) listed a w:=
 ⟨fun h0=>absurd (hr▸h0) hne,hr▸h⟩
theorem mD {listed:Array Bool} {a:Act} {w:World} (hr:Region.ready md ops listed=[]) (h:Q .normal a w):∀fuel,oG P md ops Q S late fuel listed a w
 |0=>⟨hr,h⟩
 |_+1=>⟨fun _=>h,by rw[hr];simp⟩
def dV (P:Program) (md:Region.Mode) (ops:Array Oper) (Q:Exit->Act->World->Prop) (S:World->Prop) (late:Nat->Bool) (fuel:Nat) (listed:Array Bool) (a:Act) (w:World) (rs:List Nat):Prop:=
 ∀i∈rs,wpOp P ops Q i (fun a' w'=>(late i=false->S w')/\oG P md ops Q S late fuel (listed.setIfInBounds i true) a' w') a w
theorem dV.nil {fuel:Nat} {listed:Array Bool} {a:Act} {w:World}:dV P md ops Q S late fuel listed a w []:=fun _ h=>by cases h
theorem dV.cons {fuel:Nat} {listed:Array Bool} {a:Act} {w:World} {i:Nat} {o:Oper} {rs:List Nat} (ho:ops[i]?=some o)
  (h:∀K':Act->World->Prop,Shut (∀a w,(late i=false->S w)->oG P md ops Q S late fuel (listed.setIfInBounds i true) a w->K' a w)->if Region.wanted o (yielded ops a.tmps)=true then Oper.wp P o a w K' Q else K' (a.put o.dst undef) w)
  (hs:dV P md ops Q S late fuel listed a w rs):dV P md ops Q S late fuel listed a w (i::rs):=fun j hj=>by
 rcases List.mem_cons.1 hj with rfl|hj
 ·exact wpOp_step ho (fun K' hK=>h K' (fun a w hS hW=>hK a w ⟨hS,hW⟩))
 ·exact hs j hj
theorem bJ {rs:List Nat} {fuel:Nat} {listed:Array Bool} {a:Act} {w:World} (hr:Region.ready md ops listed=rs) (hne:rs≠[])
  (h:dV P md ops Q S late fuel listed a w rs):oG P md ops Q S late (fuel+1) listed a w:=RV hr hne h
end
end Go.Proofs.YtilpincgjlclpaaGreat.Ow
end
section
namespace Go.Proofs.YtilpincgjlclpaaGreat.Pr
open Go.RowKit Go.Proofs.ae.au Go.Proofs.ae.aZ Go.Proofs.ae.bE
attribute [local go_sem] bQ min2_int cB min_two max_three min_three max_four min_four
def cmp_isNaN_string.f (a0:ByteArray):Option (Bool):=some (a0.toList != a0.toList)
end Go.Proofs.YtilpincgjlclpaaGreat.Pr
end
section
namespace Go.Proofs.YtilpincgjlclpaaGreat.Hp
structure Ord {α:Type} (bt:α->α->Prop):Prop where
 asymm:∀x y,bt x y->¬bt y x
 neg:∀x y z,¬bt y x->¬bt z y->¬bt z x
section
variable {α:Type} {bt:α->α->Prop} {f:Nat->α} {n lo i p m:Nat}
def hp (bt:α->α->Prop) (f:Nat->α) (lo n:Nat):Prop:=∀j,0<j->j<n->lo<=(j-1)/2->¬bt (f j) (f ((j-1)/2))
def MN (bt:α->α->Prop) (f:Nat->α) (n i:Nat):Prop:=
 (∀j,0<j->j<n->j≠i->¬bt (f j) (f ((j-1)/2)))/\(0<i->∀c,0<c->c<n->(c-1)/2=i->¬bt (f c) (f ((i-1)/2)))
def Gp (bt:α->α->Prop) (f:Nat->α) (lo n i:Nat):Prop:=
 (∀j,0<j->j<n->lo<=(j-1)/2->(j-1)/2≠i->¬bt (f j) (f ((j-1)/2)))/\(0<i->lo<=(i-1)/2->∀c,0<c->c<n->(c-1)/2=i->¬bt (f c) (f ((i-1)/2)))
def swp (f:Nat->α) (i j:Nat):Nat->α:=fun k=>if k=i then f j else if k=j then f i else f k
theorem IB (f:Nat->α) (i j:Nat):swp f i j i=f j:=by simp[swp]
theorem aau (f:Nat->α) (i j:Nat):swp f i j j=f i:=by
 unfold swp
 split
 ·rename_i h;rw[h]
 ·rw[if_pos rfl]
theorem Cb (f:Nat->α) {i j k:Nat} (h1:k≠i) (h2:k≠j):swp f i j k=f k:=by simp[swp,h1,h2]
theorem hp_best (hO:Ord bt) (h:hp bt f 0 n):∀j,j<n->¬bt (f j) (f 0):=by
 intro j
 induction j using Nat.strongRecOn with
 |_ j ih=>
  intro hj
  by_cases h0:j=0
  ·subst h0;exact fun hb=>hO.asymm _ _ hb hb
  ·exact hO.neg _ _ _ (ih ((j-1)/2) (by omega) (by omega)) (h j (by omega) hj (by omega))
theorem Uv (h:MN bt f n i) (h0:i=0\/¬bt (f i) (f ((i-1)/2))):hp bt f 0 n:=by
 intro j hj hn _
 by_cases e:j=i
 ·subst e
  rcases h0 with h0|h0
  ·omega
  ·exact h0
 ·exact h.1 j hj hn e
theorem up_step (hO:Ord bt) (h:MN bt f n i) (hi:0<i) (hn:i<n) (hb:bt (f i) (f ((i-1)/2))):MN bt (swp f i ((i-1)/2)) n ((i-1)/2):=by
 obtain⟨p,hp⟩:∃p,p=(i-1)/2:=⟨_,rfl⟩
 rw[<-hp] at hb ⊢
 have hpi:p≠i:=by omega
 have hle:¬bt (f p) (f i):=hO.asymm _ _ hb
 refine⟨fun j hj hjn hjp=>?_,fun hp0 c hc hcn hcp=>?_⟩
 ·by_cases e1:j=i
  ·subst e1
   rw[IB,<-hp,aau]
   exact hle
  ·rw[Cb f e1 hjp]
   by_cases e2:(j-1)/2=i
   ·rw[e2,IB,hp]
    exact h.2 hi j hj hjn e2
   ·by_cases e3:(j-1)/2=p
    ·rw[e3,aau]
     have:=h.1 j hj hjn e1
     rw[e3] at this
     exact hO.neg _ _ _ hle this
    ·rw[Cb f e2 e3]
     exact h.1 j hj hjn e1
 ·rw[Cb f (show(p-1)/2≠i by omega) (show(p-1)/2≠p by omega)]
  have h1:=h.1 p hp0 (by omega) hpi
  by_cases e1:c=i
  ·subst e1
   rw[IB]
   exact h1
  ·rw[Cb f e1 (by omega)]
   have:=h.1 c hc hcn e1
   rw[hcp] at this
   exact hO.neg _ _ _ h1 this
theorem dn_stop (h:Gp bt f lo n i) (h0:∀c,0<c->c<n->(c-1)/2=i->¬bt (f c) (f i)):hp bt f lo n:=by
 intro j hj hn hlo
 by_cases e:(j-1)/2=i
 ·rw[e];exact h0 j hj hn e
 ·exact h.1 j hj hn hlo e
theorem dn_step (hO:Ord bt) (h:Gp bt f lo n i) (hlo:lo<=i) (hm:0<m) (uB:m<n) (hmi:(m-1)/2=i) (hb:bt (f m) (f i)) (h0:∀c,0<c->c<n->(c-1)/2=i->¬bt (f c) (f m)):
  Gp bt (swp f i m) lo n m:=by
 have hne:i≠m:=by omega
 refine⟨fun j hj hjn hjl hjm=>?_,fun _ _ c hc hcn hcm=>?_⟩
 ·by_cases e1:(j-1)/2=i
  ·rw[e1,IB]
   by_cases e2:j=m
   ·subst e2
    rw[aau]
    exact hO.asymm _ _ hb
   ·rw[Cb f (by omega) e2]
    exact h0 j hj hjn e1
  ·rw[Cb f e1 hjm]
   by_cases e2:j=i
   ·subst e2
    rw[IB]
    exact h.2 hj hjl m hm uB hmi
   ·by_cases e3:j=m
    ·omega
    ·rw[Cb f e2 e3]
     exact h.1 j hj hjn hjl e1
 ·rw[hmi,IB,Cb f (by omega) (by omega)]
  have:=h.1 c hc hcn (by omega) (by omega)
  rw[hcm] at this
  exact this
theorem Ha (R:List α) (d:α) {i j:Nat} (hi:i<R.length) (hj:j<R.length):(fun k=>((R.set i (R.getD j d)).set j (R.getD i d)).getD k d)=swp (fun k=>R.getD k d) i j:=by
 funext k
 have hg:∀(L:List α) (t:Nat),L.getD t d=L[t]?.getD d:=fun L t=>by rw[List.getD_eq_getElem?_getD]
 simp only[swp,hg]
 by_cases e2:k=j
 ·subst e2
  rw[List.getElem?_set_self (by simpa using hj),Option.getD_some]
  by_cases e1:k=i
  ·subst e1;rw[if_pos rfl]
  ·rw[if_neg e1,if_pos rfl]
 ·rw[List.getElem?_set_ne (fun h=>e2 h.symm)]
  by_cases e1:k=i
  ·subst e1;rw[if_pos rfl,List.getElem?_set_self hi,Option.getD_some]
  ·rw[if_neg e1,if_neg e2,List.getElem?_set_ne (fun h=>e1 h.symm)]
theorem swap_perm [BEq α] [LawfulBEq α] (R:List α) (d:α) {i j:Nat} (hi:i<R.length) (hj:j<R.length):((R.set i (R.getD j d)).set j (R.getD i d)).Perm R:=by
 rw[List.perm_iff_count]
 intro a
 have hR:∀(L:List α) (k:Nat) (v:α) (hk:k<L.length),(L.set k v).count a+(if L.getD k d==a then 1 else 0)=L.count a+(if v==a then 1 else 0):=by
  intro L k v hk
  rw[List.count_set hk]
  have hg:L.getD k d=L[k]:=by rw[List.getD_eq_getElem?_getD,List.getElem?_eq_getElem hk,Option.getD_some]
  rw[hg]
  have:(if L[k]==a then 1 else 0)<=L.count a:=by
   split
   ·rename_i h
    have:=List.count_pos_iff.2 (List.getElem_mem hk)
    rw[eq_of_beq h] at this
    omega
   ·omega
  omega
 have h1:=hR R i (R.getD j d) hi
 have h2:=hR (R.set i (R.getD j d)) j (R.getD i d) (by simpa using hj)
 have h3:(R.set i (R.getD j d)).getD j d=R.getD j d:=by
  simp only[List.getD_eq_getElem?_getD,List.getElem?_set]
  by_cases e:i=j
  ·subst e;rw[if_pos rfl,if_pos hi];rfl
  ·rw[if_neg e]
 rw[h3] at h2
 omega
end
end Go.Proofs.YtilpincgjlclpaaGreat.Hp
end
