import Derived.ArgAppend
import Derived.Below
import Derived.BigQuiet
import Derived.Deep.AppendLies
import Derived.Deep.CutBlock
import Derived.Deep.DeepCutAuto
import Derived.Deep.Draws
import Derived.Deep.LoopGhost
import Derived.Deep.OwnRows
import Derived.Deep.QuietTactic
import Derived.Deep.RegionHeld3
import Derived.KernelRfl
import Derived.Laws.BitsLemmas
import Derived.Laws.BytesArg
import Derived.Laws.IdiomCopy
import Derived.Laws.MakeOwn
import Derived.Laws.OwnMore
import Derived.Laws.Rows
import Derived.Laws.Slices
import Derived.Lib.AppendStr
import Derived.Lib.ConvBytes
import Derived.Maps.AppendAt
import Derived.OrdersHeld
import Derived.OwnWalk
import Derived.RowKit
import Derived.RowKit3
import Derived.Tactics
import Derived.WalkKit
import Derived.WideLaws
import Derived.Test.YtilpincgjlclpaaGreatB0
set_option linter.unusedVariables false
set_option linter.unusedSimpArgs false
section
namespace Go.Proofs.ae.au
open Go.RowKit
theorem DD {B:Nat} {w W:World} (h:Below B w W):Below B w W.drew:=⟨h.os,h.tape,h.output,h.size,h.block⟩
theorem add_plain (g j:Nat):(⟨g,0,none⟩:Addr).add j=⟨g,j,none⟩:=by unfold Addr.add;split<;>simp_all
theorem iM.trans {α:Type} {a b c:Option α} (h:iM a b) (k:iM b c):iM a c:=fun r hr=>k r (h r hr)
section
variable {P:Program} {ops:Array Oper} {o:Oper} {a:Act} {Q:Exit->Act->World->Prop} {K:Act->World->Prop}
theorem zX {w0 W:World} (base:Nat) (hw:Region.wanted o (yielded ops a.tmps)=true) (s x:Operand) (t e:TypeId) (z:Value) (size bytes:Nat)
  (ho:o.op= .call {callee:= .builtin .append,args:=#[s,x],argTypes:=#[t,t]})
  (ht:P.underlying t=some (.slice e)) (hinfo:(P.info? e).map (fun i=>(i.zero,i.size,i.bytes))=some (some z,size,bytes)) (hz:z.cells.size=size) (hs0:0<size) (hb0:0<bytes)
  (v:Value) (n:Nat) (xs ys:List Value) (hs:a.eval s=v) (hx:a.eval x= .slice (some ⟨W.heap.size,0,none⟩) 1 1) (hys:ys.length=size) (h1:∀u∈ys,u.oneCell'=true)
  (HO:W.ownsRow base e size v n xs) (HB:Below base w0 W) (hbase:base<=W.heap.size) (hl:(n+1)*bytes<=140737488355328)
  (h:∀v1 w1,w1.ownsRow base e size v1 (n+1) (xs++ys)->Below base w0 w1->W.grownBy w1 v.ownBlock->(v1.ownBlock=v.ownBlock\/∃b,v1.ownBlock=some b/\W.heap.size<=b)->K (a.put o.dst v1) w1):
  if Region.wanted o (yielded ops a.tmps)=true then Oper.wp P o a (W.alloc (.cells ys.toArray e)) K Q else K (a.put o.dst undef) (W.alloc (.cells ys.toArray e)):=by
 obtain⟨i0,hi,hzz⟩:=Option.map_eq_some_iff.1 hinfo
 simp only[Prod.mk.injEq] at hzz
 obtain⟨hz0,hz1,hz2⟩:=hzz
 have hlen:n+1<=140737488355328:=Nat.le_trans (Nat.le_mul_of_pos_right _ hb0) hl
 rw[if_pos hw]
 obtain⟨v1,w1,hr,hown,hg,_,hat⟩:=run_append_own_at (P:=P) (W.alloc (.cells ys.toArray e)) base t o.type e i0 z size bytes ht hi hz0 hz1 hz2 hz hs0 v n xs (HO.alloc _) ⟨W.heap.size,0,none⟩ 1 1 ys (by rw[hys];simp)
  (by simpa using World.news_of_block (cs:=ys.toArray) (t:=e) (fr:=(0,0)) (heap_alloc_new W (.cells ys.toArray e))) h1 (by simp only[maxLen];omega) hl (by simp;omega)
 unfold Oper.wp execOp
 simp only[ho,resolve,invoke,builtin,Sem.run_bind,Sem.run_pure,Result.andThen_ok,List.map_toArray,List.map_cons,List.map_nil,hs,hx,hr]
 refine h v1 w1 hown ((HB.alloc hbase _).grown hg (by simp;omega) (jD HO)) (World.grownBy.trans (World.grownBy_alloc W _ _) hg) ?_
 rcases hat with hat|hat
 ·exact .inl hat
 ·exact .inr ⟨_,hat,by simp⟩
end
theorem bC {w:World} {g:Nat} {o:Obj} (h:w.heap[g]?=some o):w.drew.heap[g]?=some o:=h
theorem aW {w:World} {g:Nat} {o:Obj} (h:w.heap[g]?=some o) (n:Nat):(w.drewN n).heap[g]?=some o:=h
namespace Kd
section
variable {P:Program} {ops:Array Oper} {o:Oper} {a:Act} {Q:Exit->Act->World->Prop} {Kc:Act->World->Prop} {α:Type}
theorem Gh (d:Kd α) {w0 W:World} (base:Nat) (hw:Region.wanted o (yielded ops a.tmps)=true) (s x:Operand) (t e:TypeId) (z:Value) (bytes:Nat)
  (ho:o.op= .call {callee:= .builtin .append,args:=#[s,x],argTypes:=#[t,t]})
  (ht:P.underlying t=some (.slice e)) (hinfo:(P.info? e).map (fun i=>(i.zero,i.size,i.bytes))=some (some z,d.sz,bytes)) (hz:z.cells.size=d.sz) (hs0:0<d.sz) (hb0:0<bytes)
  (v:Value) (xs:List α) (p:α) (cs:List Value) (ok oZ:Nat->Prop) (hs:a.eval s=v) (hx:a.eval x= .slice (some ⟨W.heap.size,0,none⟩) 1 1) (hp:d.M W base oZ p cs) (Ba:∀k,oZ k->ok k/\some k≠v.ownBlock) (hfresh:∀k,W.heap.size<=k->ok k)
  (HO:d.R e W base ok v xs) (HB:Below base w0 W) (hbase:base<=W.heap.size) (hl:(xs.length+1)*bytes<=140737488355328)
  (h:∀v1 w1,d.R e w1 base ok v1 (xs++[p])->Below base w0 w1->W.grownBy w1 v.ownBlock->(v1.ownBlock=v.ownBlock\/∃b,v1.ownBlock=some b/\W.heap.size<=b)->Kc (a.put o.dst v1) w1):
  if Region.wanted o (yielded ops a.tmps)=true then Oper.wp P o a (W.alloc (.cells cs.toArray e)) Kc Q else Kc (a.put o.dst undef) (W.alloc (.cells cs.toArray e)):=by
 obtain⟨h0,inner,hown,hr⟩:=HO
 refine zX base hw s x t e z d.sz bytes ho ht hinfo hz hs0 hb0 v xs.length inner cs hs hx (d.oI (d.ku hp)) (d.pJ (d.ku hp)) hown HB hbase hl ?_
 intro v1 w1 hown1 hb1 hg1 YM
 exact h v1 w1 (Dv h0 hr hp Ba hfresh hown1 hg1 YM) hb1 hg1 YM
end
end Kd
namespace Kd
theorem GH {α:Type} {d:Kd α} {e base:Nat} {ok:Nat->Prop} {w:World} {v:Value} {xs:List α} (h:d.R e w base ok v xs):(slice e d).M w base ok xs [v]:=⟨v,rfl,h⟩
end Kd
namespace Kd
section
variable {α β:Type} {d:Kd α} {d':Kd β} {e e':Nat} {w w1 W:World} {base b b':Nat} {ok ok' Ct OX:Nat->Prop} {v u:Value} {xs:List α} {ys:List β}
theorem aV (h:d.R e w base ok v xs):d.R e w.drew base ok v xs:=ja h (DD (Below.refl _ _))
theorem dD {A:Option Addr} {n:Nat} (h:d.C w A n xs) (o:Obj):d.C (w.alloc o) A n xs:=bY h (ag (Below.refl _ _) o)
theorem oC (h:d.R e w base ok v xs):∀k,v.ownBlock=some k->base<=k:=by
 obtain⟨inner,ho⟩:=xD h
 exact jD ho
theorem AB (h:d.R e w base ok v xs) {g:Nat} (hok:∀k,ok k->k≠g):some g≠v.ownBlock:=fun e=>hok g (h.1 g e.symm) rfl
theorem Sj (hu:d'.R e' W b OX u ys) (h:d.R e w1 W.heap.size Ct v xs) (hb:Below W.heap.size W w1):d'.R e' w1 b (fun k=>OX k/\some k≠v.ownBlock) u ys:=by
 obtain⟨inner,ho⟩:=xD h
 exact dU (pM (jb hu) (fun k hk=>hb.block k hk.2.2.1)) (fun k hk=>⟨hk.1,fun he=>by have:=jD ho k he.symm;have:=hk.2.2.1;omega⟩)
end
end Kd
section
variable {P:Program}
theorem PL (t e:TypeId) (kh:IntKind) {i:TypeInfo} (ht:P.underlying t=some (.slice e)) (hi:P.info? e=some i) (A:Option Addr) (n c:Nat) (j:Int) (h0:0<=j) (hm:j<=n) (hc:n<=c):
  ∀W:World,(Instr.slice t (.slice A n c) none (some (.int kh j)) none).run P W= .ok (.slice A j.toNat c) W:=by
 intro W
 have hel:P.elem t=e:=by simp[Program.elem,ht]
 have hu:P.underlying t=some (.slice (P.elem t)):=by rw[hel];exact ht
 have ha:(A.map fun x=>x.add 0)=A:=by cases A<;>simp[Addr.add]
 rw[run_slice_h W t A n c hu kh j h0 (by omega),hel]
 simp[sizeOf,typeInfo,hi,sliced,Result.andThen,ha]
end
section
variable {w w1:World} {base n size:Nat} {e:TypeId} {v:Value} {xs:List Value}
theorem add_at (g o j:Nat):(⟨g,o,none⟩:Addr).add j=⟨g,o+j,none⟩:=by unfold Addr.add;split<;>simp_all
end
namespace Kd
section
variable {α:Type} {d:Kd α} {e e':Nat} {w w1 W:World} {base:Nat} {ok:Nat->Prop} {u v:Value} {xs:List α}
theorem oO (h:d.R e w base ok v xs):∀k,v.ownBlock=some k->∃cells,w.heap[k]?=some (.cells cells e (0,0)):=by
 obtain⟨inner,ho⟩:=xD h
 exact fun k hk=>rP ho k hk
theorem sj (h:d.R e W base ok u xs) (hty:∀k,v.ownBlock=some k->∃cells,W.heap[k]?=some (.cells cells e' (0,0))) (ht:∀q,q∈e::d.E->q≠e') (hg:W.grownBy w1 v.ownBlock):d.R e w1 base ok u xs:=by
 refine dU (pM (jb h) (fun k hk=>hg.block k hk.2.2.1 (fun he=>?_))) (fun _ hk=>hk.1)
 obtain⟨_,_,_,q,hq,cells,hc⟩:=hk
 obtain⟨cells',hc'⟩:=hty k he.symm
 rw[hc] at hc'
 injection hc' with hc'
 injection hc' with _ hc'
 exact ht q hq hc'
theorem kG (h:d.R e W base ok u xs) (hty:∀k,v.ownBlock=some k->∃cells,W.heap[k]?=some (.cells cells e' (0,0))) (ht:∀q,q∈e::d.E->q≠e'):d.R e W base (fun k=>ok k/\some k≠v.ownBlock) u xs:=by
 refine dU (jb h) (fun k hk=>⟨hk.1,fun he=>?_⟩)
 obtain⟨_,_,_,q,hq,cells,hc⟩:=hk
 obtain⟨cells',hc'⟩:=hty k he.symm
 rw[hc] at hc'
 injection hc' with hc'
 injection hc' with _ hc'
 exact ht q hq hc'
theorem nW (hu:d.R e W base ok u xs) (hbase:∀k,v.ownBlock=some k->W.heap.size<=k) (hb:Below W.heap.size W w1):d.R e w1 base (fun k=>ok k/\some k≠v.ownBlock) u xs:=
 dU (pM (jb hu) (fun k hk=>hb.block k hk.2.2.1)) (fun k hk=>⟨hk.1,fun he=>by have:=hbase k he.symm;have:=hk.2.2.1;omega⟩)
theorem Dw (h:d.R e w1 W.heap.size ok v xs) (hlt:∀k,u.ownBlock=some k->k<W.heap.size):d.R e w1 W.heap.size (fun k=>ok k/\some k≠u.ownBlock) v xs:=
 dU (jb h) (fun k hk=>⟨hk.1,fun he=>by have:=hlt k he.symm;have:=hk.2.1;omega⟩)
end
end Kd
namespace Kd
section
variable {α:Type} {d:Kd α} {e base g n cap:Nat} {ok oZ:Nat->Prop} {W:World} {xs:List α}
theorem R_elem (h:d.R e W base ok (.slice (some ⟨g,0,none⟩) n cap) xs) (z:α) (i:Int) (h0:0<=i) (h1:i<n):
  ∃c,c.length=d.sz/\d.M W base (fun k=>ok k/\k≠g) (xs.getD i.toNat z) c/\(∀j u,c[j]?=some u->W.cell? ⟨g,i.toNat*d.sz+j,none⟩=some u)/\∀j,W.frozen? ⟨g,i.toNat*d.sz+j,none⟩=false:=by
 obtain⟨hn,hnc,hC⟩:=dP h
 obtain⟨_,inner,ho,hr⟩:=h
 have hil:i.toNat<xs.length:=by omega
 have hseg:i.toNat*d.sz+d.sz<=inner.length:=by rw[hr.1,<-Nat.succ_mul];exact Nat.mul_le_mul_right _ hil
 have hM:=hr.2 i.toNat _ (List.getElem?_eq_getElem hil)
 refine⟨(inner.drop (i.toNat*d.sz)).take d.sz,by rw[List.length_take,List.length_drop];omega,?_,fun j u hu=>?_,fun j=>?_⟩
 ·rw[List.getD_eq_getElem?_getD,List.getElem?_eq_getElem hil]
  exact d.gP (fun k hk=>⟨hk.1,fun he=>hk.2 (by rw[he];simp[Value.ownBlock])⟩) hM
 ·rw[List.getElem?_take] at hu
  split at hu
  ·rw[List.getElem?_drop] at hu
   have:=ho.cells (g:=g) (by simp[Value.ownBlock]) _ u hu
   rwa[add_plain] at this
  ·cases hu
 ·obtain⟨cells,hc⟩:=rP ho g (by simp[Value.ownBlock])
  exact ak hc _
end
end Kd
namespace Kd
section
variable {α:Type} {k:Kd α} {w:World} {A:Option Addr} {xs:List α} {m c:Nat}
theorem Pb (h:k.C w A xs.length xs) (hm:m<=xs.length):k.C w A (xs.take m).length (xs.take m):=by
 have hl:(xs.take m).length=m:=by rw[List.length_take];omega
 refine⟨rfl,by rw[hl];have:=h.2.1;omega,fun hp=>?_⟩
 obtain⟨ad,e,hc⟩:=h.2.2 (by omega)
 refine⟨ad,e,fun j p hj=>hc j p ?_⟩
 rw[List.getElem?_take] at hj
 split at hj
 ·exact hj
 ·cases hj
end
end Kd
theorem ah {base:Nat} {w W:World} (h:Below base w W):Below base w W.drew:=h.drew
namespace Kd
section
variable {α:Type} {d:Kd α} {e base g:Nat} {ok:Nat->Prop} {w w1:World} {v:Value} {xs:List α} {o:Obj}
theorem LH (h:d.R e w base ok v xs) (a:Nat) (ha:w.heap.size<=a):d.R e w base (fun k=>ok k/\k≠a) v xs:=dU (jb h) (fun k hk=>⟨hk.1,by have:=hk.2.2.1;omega⟩)
theorem freshB (hb:w.heap[g]?=some o):∀k,w.heap.size<=k->k≠g:=fun k hk=>by have:=bA hb;omega
end
end Kd
end Go.Proofs.ae.au
end
section
namespace Go.Proofs.ae.aZ
section
variable {P:Program} {ops:Array Oper} {Q:Exit->Act->World->Prop} {md:Region.Mode} {S:World->Prop} {ds:List Nat}
def Region.oF (md:Region.Mode) (ops:Array Oper) (i:Nat):Nat->Nat->Bool
 |0,_=>false
 |fuel+1,d=>match ops[d]? with
  |some o=>o.after.any fun e=>Region.binds md e&&(e.on==i||Region.oF md ops i fuel e.on)
  |none=>false
def Region.yT (md:Region.Mode) (ops:Array Oper) (listed:Array Bool):Bool:=
 (List.range ops.size).all fun j=> !listed.getD j false||match ops[j]? with
  |some o=>o.after.all fun e=> !Region.binds md e||listed.getD e.on false
  |none=>true
def Region.lastB (md:Region.Mode) (ops:Array Oper) (listed:Array Bool) (ds:List Nat) (i:Nat):Bool:=
 ds.all fun d=>listed.getD d true||Region.oF md ops i ops.size d
def ky (md:Region.Mode) (ops:Array Oper) (listed:Array Bool):Prop:=
 ∀j oj,ops[j]?=some oj->listed.getD j false=true->∀e∈oj.after,Region.binds md e=true->listed.getD e.on false=true
theorem Region.Jc {listed:Array Bool} (h:Region.yT md ops listed=true):ky md ops listed:=by
 intro j oj hj hl e he hb
 have hlt:j<ops.size:=(Array.getElem?_eq_some_iff.1 hj).1
 have h1:=List.all_eq_true.1 h j (List.mem_range.2 hlt)
 simp only[hl,hj,Bool.not_true,Bool.false_or] at h1
 have h2:=Array.all_eq_true_iff_forall_mem.1 h1 e he
 simpa[hb] using h2
theorem ky.set {listed:Array Bool} {i:Nat} (h:ky md ops listed) (hi:i∈Region.ready md ops listed):ky md ops (listed.setIfInBounds i true):=by
 obtain⟨_,oi,hoi,hall⟩:=mem_ready.1 hi
 intro j oj hj hl e he hb
 by_cases hij:i=j
 ·subst hij
  have:oj=oi:=Option.some.inj (hj.symm.trans hoi)
  subst this
  exact getD_set_true (hall e he hb)
 ·rw[getD_set_ne false hij] at hl
  exact getD_set_true (h j oj hj hl e he hb)
theorem Region.zS {listed:Array Bool} {i:Nat} (hc:ky md ops listed):∀(fuel d:Nat),Region.oF md ops i fuel d=true->listed.getD d false=true->listed.getD i false=true
 |0,_,h,_=>by simp[Region.oF] at h
 |fuel+1,d,h,hl=>by
  unfold Region.oF at h
  cases ho:ops[d]? with
  |none=>rw[ho] at h;simp at h
  |some o=>
   rw[ho] at h
   obtain⟨e,he,h1⟩:=Array.any_eq_true'.1 h
   simp only[Bool.and_eq_true,Bool.or_eq_true,beq_iff_eq] at h1
   have hle:=hc d o ho hl e he h1.1
   rcases h1.2 with h2|h2
   ·rw[<-h2];exact hle
   ·exact Region.zS hc fuel e.on h2 hle
theorem Region.Cu {listed:Array Bool} {i d fuel:Nat} (hc:ky md ops listed) (hr:Region.oF md ops i fuel d=true) (hun:listed.getD i true=false):d∉Region.ready md ops listed:=by
 intro hd
 obtain⟨_,o,ho,hall⟩:=mem_ready.1 hd
 have hi:listed.getD i false=true:=by
  cases fuel with
  |zero=>simp[Region.oF] at hr
  |succ n=>
   unfold Region.oF at hr
   rw[ho] at hr
   obtain⟨e,he,h1⟩:=Array.any_eq_true'.1 hr
   simp only[Bool.and_eq_true,Bool.or_eq_true,beq_iff_eq] at h1
   have hle:=hall e he h1.1
   rcases h1.2 with h2|h2
   ·rw[<-h2];exact hle
   ·exact Region.zS hc n e.on h2 hle
 rcases Nat.lt_or_ge i listed.size with h'|h'
 ·simp[h'] at hun hi
  rw[hun] at hi
  cases hi
 ·simp[Array.getElem?_eq_none h'] at hun
def eX (P:Program) (md:Region.Mode) (ops:Array Oper) (Q:Exit->Act->World->Prop) (S:World->Prop) (ds:List Nat):Nat->Array Bool->Act->World->Prop
 |0,listed,a,w=>Region.ready md ops listed=[]/\Q .normal a w
 |fuel+1,listed,a,w=>
  (Region.ready md ops listed=[]->Q .normal a w)/\
  ∀i∈Region.ready md ops listed,wpOp P ops Q i (fun a' w'=>(i∉ds->S w->S w')/\eX P md ops Q S ds fuel (listed.setIfInBounds i true) a' w') a w
theorem xO:∀(fuel:Nat) (listed:Array Bool) (a:Act) (w:World),eX P md ops Q S ds fuel listed a w->wpAny P md ops Q fuel listed a w
 |0,_,_,_,h=>h
 |fuel+1,_,_,_,h=>⟨h.1,fun i hi=>wpOp_mono (fun a' w' h'=>xO fuel _ a' w' h'.2) (h.2 i hi)⟩
theorem Cw {i:Nat} {oi:Oper} {v:Value} (hi:ops[i]?=some oi) (hsel:∀(j:Nat) (o:Oper) cs b,ops[j]?=some o->o.op≠ .select cs b)
  (hQ:∀c a w,Q (.panic c) (a.put oi.dst v) w->Q (.panic c) a w) (n:Nat):
  ∀(fuel:Nat) (listed:Array Bool) (a:Act) (w:World),
   (∀j oj,ops[j]?=some oj->j≠i->listed.getD j true=false->(∀e∈oj.after,Region.binds md e=true->e.on≠i)->oi.apart ops oj=true)->
   ky md ops listed->(∀d∈ds,listed.getD d true=false->Region.oF md ops i n d=true)->
   i∈Region.ready md ops listed->YieldsIf P ops S oi v a->S w->
   eX P md ops Q S ds fuel (listed.setIfInBounds i true) (a.put oi.dst v) w->eX P md ops Q S ds (fuel+1) listed a w:=by
 intro fuel
 induction fuel with
 |zero=>
  intro listed a w _ _ _ hr hy hS H
  refine⟨fun h=>(by rw[h] at hr;cases hr),fun j hj=>?_⟩
  by_cases hji:j=i
  ·subst hji;exact hy.wpOp hi hS ⟨fun _ h=>h,H⟩
  ·have:=ready_mono hj hji
   rw[H.1] at this
   cases this
 |succ fuel ih=>
  intro listed a w hfree hc hd hr hy hS H
  refine⟨fun h=>(by rw[h] at hr;cases hr),fun j hj=>?_⟩
  by_cases hji:j=i
  ·subst hji;exact hy.wpOp hi hS ⟨fun _ h=>h,H⟩
  ·have h1:=H.2 j (ready_mono hj hji)
   obtain⟨hjun,oj,hoj,hall⟩:=mem_ready.1 hj
   have VC:=(mem_ready.1 hr).1
   have hnot:∀e∈oj.after,Region.binds md e=true->e.on≠i:=fun e he hb heq=>by
    have h1:=hall e he hb
    rw[heq] at h1
    rcases Nat.lt_or_ge i listed.size with h'|h'
    ·simp[h'] at VC h1;rw[VC] at h1;cases h1
    ·simp[Array.getElem?_eq_none h'] at h1
   have hjd:j∉ds:=fun hm=>Region.Cu hc (hd j hm hjun) VC hj
   have h2:=wpOp_putIf hoj (hfree j oj hoj hji hjun hnot) (fun cs b=>hsel i oi cs b hi) (fun cs b=>hsel j oj cs b hoj) hQ hy h1
   have hfree':∀k ok,ops[k]?=some ok->k≠i->(listed.setIfInBounds j true).getD k true=false->
     (∀e∈ok.after,Region.binds md e=true->e.on≠i)->oi.apart ops ok=true:=fun k ok hk hki hun hno=>by
    refine hfree k ok hk hki ?_ hno
    by_cases hjk:j=k
    ·subst hjk;exact hjun
    ·rw[getD_set_ne true hjk] at hun;exact hun
   have hd':∀d∈ds,(listed.setIfInBounds j true).getD d true=false->Region.oF md ops i n d=true:=fun d hm hun=>by
    refine hd d hm ?_
    by_cases hjk:j=d
    ·subst hjk;exact hjun
    ·rw[getD_set_ne true hjk] at hun;exact hun
   refine wpOp_mono (fun a' w' h3=>⟨h3.2.1,ih (listed.setIfInBounds j true) a' w' hfree' (hc.set hj) hd' (ready_mono hr (Ne.symm hji)) h3.1 (h3.2.1 hjd hS) ?_⟩) h2
   rw[Array.setIfInBounds_comm _ _ hji]
   exact h3.2.2
theorem Gz {i:Nat} {oi:Oper} {v:Value} (hi:ops[i]?=some oi) (hsel:∀(j:Nat) (o:Oper) cs b,ops[j]?=some o->o.op≠ .select cs b)
  (hQ:∀c a w,Q (.panic c) (a.put oi.dst v) w->Q (.panic c) a w):
  ∀(fuel:Nat) (listed:Array Bool) (a:Act) (w:World),
   (∀j oj,ops[j]?=some oj->j≠i->listed.getD j true=false->(∀e∈oj.after,Region.binds md e=true->e.on≠i)->oi.apart ops oj=true)->
   i∈Region.ready md ops listed->Yields P ops oi v a->
   eX P md ops Q S ds fuel (listed.setIfInBounds i true) (a.put oi.dst v) w->eX P md ops Q S ds (fuel+1) listed a w:=by
 intro fuel
 induction fuel with
 |zero=>
  intro listed a w _ hr hy H
  refine⟨fun h=>(by rw[h] at hr;cases hr),fun j hj=>?_⟩
  by_cases hji:j=i
  ·subst hji;exact(hy.yieldsIf (S:=fun _=>True)).wpOp hi trivial ⟨fun _ h=>h,H⟩
  ·have:=ready_mono hj hji
   rw[H.1] at this
   cases this
 |succ fuel ih=>
  intro listed a w hfree hr hy H
  refine⟨fun h=>(by rw[h] at hr;cases hr),fun j hj=>?_⟩
  by_cases hji:j=i
  ·subst hji;exact(hy.yieldsIf (S:=fun _=>True)).wpOp hi trivial ⟨fun _ h=>h,H⟩
  ·have h1:=H.2 j (ready_mono hj hji)
   obtain⟨hjun,oj,hoj,hall⟩:=mem_ready.1 hj
   have VC:=(mem_ready.1 hr).1
   have hnot:∀e∈oj.after,Region.binds md e=true->e.on≠i:=fun e he hb heq=>by
    have h1:=hall e he hb
    rw[heq] at h1
    rcases Nat.lt_or_ge i listed.size with h'|h'
    ·simp[h'] at VC h1;rw[VC] at h1;cases h1
    ·simp[Array.getElem?_eq_none h'] at h1
   have h2:=wpOp_put hoj (hfree j oj hoj hji hjun hnot) (fun cs b=>hsel i oi cs b hi) (fun cs b=>hsel j oj cs b hoj) hQ hy h1
   have hfree':∀k ok,ops[k]?=some ok->k≠i->(listed.setIfInBounds j true).getD k true=false->
     (∀e∈ok.after,Region.binds md e=true->e.on≠i)->oi.apart ops ok=true:=fun k ok hk hki hun hno=>by
    refine hfree k ok hk hki ?_ hno
    by_cases hjk:j=k
    ·subst hjk;exact hjun
    ·rw[getD_set_ne true hjk] at hun;exact hun
   refine wpOp_mono (fun a' w' h3=>⟨h3.2.1,ih (listed.setIfInBounds j true) a' w' hfree' (ready_mono hr (Ne.symm hji)) h3.1 ?_⟩) h2
   rw[Array.setIfInBounds_comm _ _ hji]
   exact h3.2.2
theorem FT {i:Nat} {oi:Oper} {v:Value} {fuel:Nat} {listed:Array Bool} {a:Act} {w:World} (hi:ops[i]?=some oi)
  (hs:Region.noSelect ops=true) (hf:Region.free md ops listed i=true) (hr:(Region.ready md ops listed).contains i=true)
  (hc:Region.yT md ops listed=true) (hl:Region.lastB md ops listed ds i=true)
  (hQ:∀c a w,Q (.panic c) (a.put oi.dst v) w->Q (.panic c) a w) (hy:YieldsIf P ops S oi v a) (hS:S w)
  (h:eX P md ops Q S ds fuel (listed.setIfInBounds i true) (a.put oi.dst v) w):eX P md ops Q S ds (fuel+1) listed a w:=
 Cw hi (Region.noSelect_spec hs) hQ ops.size fuel listed a w (Region.free_spec hi hf) (Region.Jc hc)
  (fun d hm hun=>by have:=List.all_eq_true.1 hl d hm;rw[hun] at this;simpa using this) (by simpa using hr) hy hS h
theorem Gy {rs:List Nat} {fuel:Nat} {listed:Array Bool} {a:Act} {w:World} (hr:Region.ready md ops listed=rs) (hne:rs≠[])
  (h:∀i∈rs,wpOp P ops Q i (fun a' w'=>(i∉ds->S w->S w')/\eX P md ops Q S ds fuel (listed.setIfInBounds i true) a' w') a w):eX P md ops Q S ds (fuel+1) listed a w:=
 ⟨fun h0=>absurd (hr▸h0) hne,hr▸h⟩
theorem FR {listed:Array Bool} {a:Act} {w:World} (hr:Region.ready md ops listed=[]) (h:Q .normal a w):
  ∀fuel,eX P md ops Q S ds fuel listed a w
 |0=>⟨hr,h⟩
 |_+1=>⟨fun _=>h,by rw[hr];simp⟩
theorem FX {id:Nat} {a:Act} {w:World} (hm:P.follows .mixedOrders=true)
  (h:eX P .any ops Q S ds ops.size (Array.replicate ops.size false) a {w with drawn:=w.drawn+1}):(Code.region id ops true).wp P Q a w:=
 wp_region_any hm (xO _ _ _ _ h)
end
section
variable {P:Program} {ops:Array Oper} {Q:Exit->Act->World->Prop} {md:Region.Mode} {S:World->Prop} {ds:List Nat}
def jH (P:Program) (md:Region.Mode) (ops:Array Oper) (Q:Exit->Act->World->Prop) (S:World->Prop) (ds:List Nat) (fuel:Nat) (listed:Array Bool) (a:Act) (w:World) (rs:List Nat):Prop:=
 ∀i∈rs,wpOp P ops Q i (fun a' w'=>(i∉ds->S w->S w')/\eX P md ops Q S ds fuel (listed.setIfInBounds i true) a' w') a w
theorem jH.nil {fuel:Nat} {listed:Array Bool} {a:Act} {w:World}:jH P md ops Q S ds fuel listed a w []:=fun _ h=>by cases h
theorem jH.cons {fuel:Nat} {listed:Array Bool} {a:Act} {w:World} {i:Nat} {o:Oper} {rs:List Nat} (ho:ops[i]?=some o) (hd:i∉ds)
  (h:∀K':Act->World->Prop,Shut (∀a w,S w->(S w->eX P md ops Q S ds fuel (listed.setIfInBounds i true) a w)->K' a w)->if Region.wanted o (yielded ops a.tmps)=true then Oper.wp P o a w K' Q else K' (a.put o.dst undef) w)
  (hs:jH P md ops Q S ds fuel listed a w rs):jH P md ops Q S ds fuel listed a w (i::rs):=fun j hj=>by
 rcases List.mem_cons.1 hj with rfl|hj
 ·exact wpOp_step ho (fun K' hK=>h K' (fun a w hS hW=>hK a w ⟨fun _ _=>hS,hW hS⟩))
 ·exact hs j hj
theorem jH.Vo {fuel:Nat} {listed:Array Bool} {a:Act} {w:World} {i:Nat} {o:Oper} {rs:List Nat} (ho:ops[i]?=some o) (hd:i∈ds)
  (h:∀K':Act->World->Prop,Shut (∀a w,eX P md ops Q S ds fuel (listed.setIfInBounds i true) a w->K' a w)->if Region.wanted o (yielded ops a.tmps)=true then Oper.wp P o a w K' Q else K' (a.put o.dst undef) w)
  (hs:jH P md ops Q S ds fuel listed a w rs):jH P md ops Q S ds fuel listed a w (i::rs):=fun j hj=>by
 rcases List.mem_cons.1 hj with rfl|hj
 ·exact wpOp_step ho (fun K' hK=>h K' (fun a w hW=>hK a w ⟨fun hn=>absurd hd hn,hW⟩))
 ·exact hs j hj
theorem uo {rs:List Nat} {fuel:Nat} {listed:Array Bool} {a:Act} {w:World} (hr:Region.ready md ops listed=rs) (hne:rs≠[])
  (h:jH P md ops Q S ds fuel listed a w rs):eX P md ops Q S ds (fuel+1) listed a w:=Gy hr hne h
theorem start_ {id n:Nat} {a:Act} {w:World} (l:Array Bool) (hm:P.follows .mixedOrders=true) (hn:ops.size=n) (hl:Array.replicate n false=l) (hS:S w.drew)
  (h:S w.drew->eX P .any ops Q S ds n l a w.drew):(Code.region id ops true).wp P Q a w:=by
 subst hn
 subst hl
 exact FX hm (h hS)
def takeB (md:Region.Mode) (ops:Array Oper) (ds:List Nat) (l l':Array Bool) (i:Nat):Bool:=
 Region.noSelect ops&&Region.free md ops l i&&(Region.ready md ops l).contains i&&Region.yT md ops l&&Region.lastB md ops l ds i&&(l.setIfInBounds i true==l')
theorem take_ {i:Nat} {N:Option Tmp} {oi:Oper} {v:Value} {fuel:Nat} {l:Array Bool} {a:Act} {w:World} (l':Array Bool) (hi:ops[i]?=some oi) (hN:oi.dst=N) (hc:takeB md ops ds l l' i=true)
  (hQ:∀c a w,Q (.panic c) (a.put oi.dst v) w->Q (.panic c) a w) (hy:YieldsIf P ops S oi v a) (hS:S w) {a':Act} (ha:a.put N v=a')
  (h:eX P md ops Q S ds fuel l' a' w):eX P md ops Q S ds (fuel+1) l a w:=by
 subst ha
 subst hN
 simp only[takeB,Bool.and_eq_true,beq_iff_eq] at hc
 obtain⟨⟨⟨⟨⟨h1,h2⟩,h3⟩,h4⟩,h5⟩,h6⟩:=hc
 subst h6
 exact FT hi h1 h2 h3 h4 h5 hQ hy hS h
def anyB (md:Region.Mode) (ops:Array Oper) (l l':Array Bool) (i:Nat):Bool:=
 Region.noSelect ops&&Region.free md ops l i&&(Region.ready md ops l).contains i&&(l.setIfInBounds i true==l')
theorem NM {i:Nat} {N:Option Tmp} {oi:Oper} {v:Value} {fuel:Nat} {l:Array Bool} {a:Act} {w:World} (l':Array Bool) (hi:ops[i]?=some oi) (hN:oi.dst=N) (hc:anyB md ops l l' i=true)
  (hQ:∀c a w,Q (.panic c) (a.put oi.dst v) w->Q (.panic c) a w) (hy:Yields P ops oi v a) {a':Act} (ha:a.put N v=a')
  (h:eX P md ops Q S ds fuel l' a' w):eX P md ops Q S ds (fuel+1) l a w:=by
 subst ha
 subst hN
 simp only[anyB,Bool.and_eq_true,beq_iff_eq] at hc
 obtain⟨⟨⟨h1,h2⟩,h3⟩,h6⟩:=hc
 subst h6
 exact Gz hi (Region.noSelect_spec h1) hQ fuel l a w (Region.free_spec hi h2) (by simpa using h3) hy h
def Bo (md:Region.Mode) (ops:Array Oper) (l l':Array Bool) (i:Nat):Bool:=(Region.ready md ops l==[i])&&(l.setIfInBounds i true==l')
theorem one_ {i:Nat} {N:Option Tmp} {oi:Oper} {fuel:Nat} {l:Array Bool} {a:Act} {w:World} (l':Array Bool) (hi:ops[i]?=some oi) (hN:oi.dst=N) (hc:Bo md ops l l' i=true) (hd:i∉ds)
  (h:∀K:Act->World->Prop,Shut (∀a' w',S w'->(S w'->eX P md ops Q S ds fuel l' a' w')->K a' w')->if Region.wanted oi (yielded ops a.tmps)=true then Oper.wp P oi a w K Q else K (a.put N undef) w):
  eX P md ops Q S ds (fuel+1) l a w:=by
 subst hN
 simp only[Bo,Bool.and_eq_true,beq_iff_eq] at hc
 obtain⟨h1,h2⟩:=hc
 subst h2
 exact uo h1 (by simp) (jH.cons hi hd (fun K hK=>h K hK) jH.nil)
theorem last_ {i:Nat} {N:Option Tmp} {oi:Oper} {fuel:Nat} {l:Array Bool} {a:Act} {w:World} (l':Array Bool) (hi:ops[i]?=some oi) (hN:oi.dst=N) (hc:Bo md ops l l' i=true) (hd:i∈ds)
  (h:∀K:Act->World->Prop,Shut (∀a' w',eX P md ops Q S ds fuel l' a' w'->K a' w')->if Region.wanted oi (yielded ops a.tmps)=true then Oper.wp P oi a w K Q else K (a.put N undef) w):
  eX P md ops Q S ds (fuel+1) l a w:=by
 subst hN
 simp only[Bo,Bool.and_eq_true,beq_iff_eq] at hc
 obtain⟨h1,h2⟩:=hc
 subst h2
 exact uo h1 (by simp) (jH.Vo hi hd (fun K hK=>h K hK) jH.nil)
theorem done_ {l:Array Bool} {a:Act} {w:World} {n:Nat} (hr:(Region.ready md ops l==[])=true) (h:Q .normal a w):eX P md ops Q S ds n l a w:=FR (by simpa using hr) h n
theorem ZI {fuel:Nat} {l:Array Bool} {a a':Act} {w:World} (ha:a=a') (h:eX P md ops Q S ds fuel l a' w):eX P md ops Q S ds fuel l a w:=by
 subst ha
 exact h
theorem call_ {oi:Oper} {N:Option Tmp} {a:Act} {w:World} {K:Act->World->Prop} (f:FuncId) (args:Array Value) (hw:Region.wanted oi (yielded ops a.tmps)=true) (hN:oi.dst=N) (hrun:(execOp a.eval oi).run P w= .ok (.enter f args) w)
  (h:Calls P f args w fun e w'=>∃v,e= .returned v/\K (a.put N v) w'):if Region.wanted oi (yielded ops a.tmps)=true then Oper.wp P oi a w K Q else K (a.put N undef) w:=by
 rw[if_pos hw]
 subst hN
 unfold Oper.wp
 rw[hrun,Oper.upon_enter]
 refine h.mono fun e w'' hh=>?_
 obtain⟨v,rfl,hk⟩:=hh
 exact hk
theorem goes_ {oi:Oper} {N:Option Tmp} {a:Act} {w:World} {K:Act->World->Prop} {f:FuncId} {fn:Func} {aa:Array Operand} {ts:Array TypeId} (hf:P.funcs[f]?=some fn) (hname:(fn.name== "runtime.NumGoroutine")=false) (hb:fn.body.isSome=true) (args:Array Value)
  (hw:Region.wanted oi (yielded ops a.tmps)=true) (hN:oi.dst=N) (hop:oi.op= .call {callee:= .value (.func f),args:=aa,argTypes:=ts}) (hargs:aa.map a.eval=args)
  (h:Calls P f args w fun e w'=>∃v,e= .returned v/\K (a.put N v) w'):if Region.wanted oi (yielded ops a.tmps)=true then Oper.wp P oi a w K Q else K (a.put N undef) w:=by
 refine call_ f args hw hN ?_ h
 have he:=SA hf hname hb args w
 unfold execOp
 simp[hop,resolve,Deferred.ofValue,invoke,Act.eval,hargs,he]
theorem value_ {oi:Oper} {N:Option Tmp} {a:Act} {w w1:World} {v:Value} {K:Act->World->Prop} (hw:Region.wanted oi (yielded ops a.tmps)=true) (hN:oi.dst=N) (hrun:(execOp a.eval oi).run P w= .ok (.value v) w1)
  (h:K (a.put N v) w1):if Region.wanted oi (yielded ops a.tmps)=true then Oper.wp P oi a w K Q else K (a.put N undef) w:=by
 rw[if_pos hw]
 subst hN
 unfold Oper.wp
 rw[hrun]
 exact h
end
end Go.Proofs.ae.aZ
end
