import Derived.ArgAppend
import Derived.Below
import Derived.BigQuiet
import Derived.Deep.AppendLies
import Derived.Deep.CutBlock
import Derived.Deep.DeepCutAuto
import Derived.Deep.Draws
import Derived.Deep.LoopGhost
import Derived.Deep.OwnRows
import Derived.Deep.QuietTactic
import Derived.Deep.RegionHeld3
import Derived.KernelRfl
import Derived.Laws.BytesArg
import Derived.Laws.IdiomCopy
import Derived.Laws.MakeOwn
import Derived.Laws.OwnMore
import Derived.Laws.Rows
import Derived.Laws.Slices
import Derived.Lib.AppendStr
import Derived.Lib.ConvBytes
import Derived.Maps.AppendAt
import Derived.OwnWalk
import Derived.RowKit
import Derived.RowKit3
import Derived.Tactics
import Derived.WalkKit
import Derived.WideLaws
import Derived.Test.YtilpincgjlclpaaGreatB0
set_option linter.unusedVariables false
set_option linter.unusedSimpArgs false
section
namespace Go.Proofs.ae.au
open Go.RowKit
theorem aW {w:World} {g:Nat} {o:Obj} (h:w.heap[g]?=some o) (n:Nat):(w.drewN n).heap[g]?=some o:=h
namespace Kd
section
variable {α:Type} {d:Kd α} {e:Nat} {w w1:World} {base:Nat} {ok ok':Nat->Prop} {v:Value} {xs:List α}
theorem M_step {x:α} {cs:List Value} (h:d.M w base ok x cs) (hm:∀k,ok k->k<w.heap.size->w1.heap[k]?=w.heap[k]?):d.M w1 base ok x cs:=
 d.gP (fun _ hk=>hk.1) (d.lK (fun k hk=>hm k hk.1 hk.2.2.1) (d.jP h))
theorem M_below {x:α} {cs:List Value} (h:d.M w base ok x cs) (hb:Below w.heap.size w w1):d.M w1 base ok x cs:=M_step h (fun k _ hk=>hb.block k hk)
end
end Kd
namespace Kd
theorem GH {α:Type} {d:Kd α} {e base:Nat} {ok:Nat->Prop} {w:World} {v:Value} {xs:List α} (h:d.R e w base ok v xs):(slice e d).M w base ok xs [v]:=⟨v,rfl,h⟩
end Kd
namespace Kd
section
variable {α β:Type} {d:Kd α} {d':Kd β} {e e':Nat} {w w1 W:World} {base b b':Nat} {ok ok' Ct OX:Nat->Prop} {v u:Value} {xs:List α} {ys:List β}
theorem dD {A:Option Addr} {n:Nat} (h:d.C w A n xs) (o:Obj):d.C (w.alloc o) A n xs:=bY h (ag (Below.refl _ _) o)
theorem oC (h:d.R e w base ok v xs):∀k,v.ownBlock=some k->base<=k:=by
 obtain⟨inner,ho⟩:=xD h
 exact jD ho
theorem Sj (hu:d'.R e' W b OX u ys) (h:d.R e w1 W.heap.size Ct v xs) (hb:Below W.heap.size W w1):d'.R e' w1 b (fun k=>OX k/\some k≠v.ownBlock) u ys:=by
 obtain⟨inner,ho⟩:=xD h
 exact dU (pM (jb hu) (fun k hk=>hb.block k hk.2.2.1)) (fun k hk=>⟨hk.1,fun he=>by have:=jD ho k he.symm;have:=hk.2.2.1;omega⟩)
end
section
variable {P:Program} {ops:Array Oper} {rest:List Oper} {o:Oper} {a:Act} {Q:Exit->Act->World->Prop}
variable {α:Type}
theorem R_lit (d:Kd α) {w0 W:World} (base e:Nat) (hgd:o.guard=none) {N:Tmp} (_hd:o.dst=some N) {xs:List α} {inner:List Value} {ok oZ:Nat->Prop}
  (hrun:(execOp a.eval o).run P W= .ok (.value (.slice (some ⟨W.heap.size,0,none⟩) xs.length xs.length)) (W.alloc (.cells inner.toArray e)))
  (hrep:oP (d.M W base oZ) d.sz xs inner) (hok:∀k,oZ k->ok k) (hfresh:ok W.heap.size) (HB:Below base w0 W) (hbase:base<=W.heap.size) (hm:xs.length<=9223372036854775807)
  (h:∀v1 w1,d.R e w1 base ok v1 xs->Below base w0 w1->W.grownBy w1 none->(∃b,v1.ownBlock=some b/\W.heap.size<=b)->wpList P ops Q rest (a.put o.dst v1) w1):wpList P ops Q (o::rest) a W:=by
 refine GY hgd hrun (h _ _ ⟨fun k hk=>?_,inner,?_,?_⟩ (HB.alloc hbase _) (World.grownBy_alloc W _ none) ⟨W.heap.size,by simp[Value.ownBlock],Nat.le_refl _⟩)
 ·have:W.heap.size=k:=by simpa[Value.ownBlock] using hk
  subst this
  exact hfresh
 ·have h2:=World.ownsRow_lit (base:=base) (e:=e) (size:=d.sz) W inner.toArray xs.length hbase (by simpa[maxLen] using hm) (by simpa using hrep.1)
  simpa using h2
 ·refine hrep.Cq (fun p c hp=>d.gP (fun k hk=>⟨hok k hk.1,fun he=>?_⟩) (M_below (d.jP hp) (ag (Below.refl _ _) _)))
  have h3:k=W.heap.size:=by simpa[Value.ownBlock] using he
  have:=hk.2.2.1
  omega
end
end Kd
section
variable {P:Program}
theorem PL (t e:TypeId) (kh:IntKind) {i:TypeInfo} (ht:P.underlying t=some (.slice e)) (hi:P.info? e=some i) (A:Option Addr) (n c:Nat) (j:Int) (h0:0<=j) (hm:j<=n) (hc:n<=c):
  ∀W:World,(Instr.slice t (.slice A n c) none (some (.int kh j)) none).run P W= .ok (.slice A j.toNat c) W:=by
 intro W
 have hel:P.elem t=e:=by simp[Program.elem,ht]
 have hu:P.underlying t=some (.slice (P.elem t)):=by rw[hel];exact ht
 have ha:(A.map fun x=>x.add 0)=A:=by cases A<;>simp[Addr.add]
 rw[run_slice_h W t A n c hu kh j h0 (by omega),hel]
 simp[sizeOf,typeInfo,hi,sliced,Result.andThen,ha]
end
namespace Kd
section
variable {α:Type} {d:Kd α} {e e':Nat} {w w1 W:World} {base:Nat} {ok:Nat->Prop} {u v:Value} {xs:List α}
theorem oO (h:d.R e w base ok v xs):∀k,v.ownBlock=some k->∃cells,w.heap[k]?=some (.cells cells e (0,0)):=by
 obtain⟨inner,ho⟩:=xD h
 exact fun k hk=>rP ho k hk
theorem kG (h:d.R e W base ok u xs) (hty:∀k,v.ownBlock=some k->∃cells,W.heap[k]?=some (.cells cells e' (0,0))) (ht:∀q,q∈e::d.E->q≠e'):d.R e W base (fun k=>ok k/\some k≠v.ownBlock) u xs:=by
 refine dU (jb h) (fun k hk=>⟨hk.1,fun he=>?_⟩)
 obtain⟨_,_,_,q,hq,cells,hc⟩:=hk
 obtain⟨cells',hc'⟩:=hty k he.symm
 rw[hc] at hc'
 injection hc' with hc'
 injection hc' with _ hc'
 exact ht q hq hc'
theorem nW (hu:d.R e W base ok u xs) (hbase:∀k,v.ownBlock=some k->W.heap.size<=k) (hb:Below W.heap.size W w1):d.R e w1 base (fun k=>ok k/\some k≠v.ownBlock) u xs:=
 dU (pM (jb hu) (fun k hk=>hb.block k hk.2.2.1)) (fun k hk=>⟨hk.1,fun he=>by have:=hbase k he.symm;have:=hk.2.2.1;omega⟩)
theorem Dw (h:d.R e w1 W.heap.size ok v xs) (hlt:∀k,u.ownBlock=some k->k<W.heap.size):d.R e w1 W.heap.size (fun k=>ok k/\some k≠u.ownBlock) v xs:=
 dU (jb h) (fun k hk=>⟨hk.1,fun he=>by have:=hlt k he.symm;have:=hk.2.1;omega⟩)
end
end Kd
namespace Kd
section
variable {α:Type} {k:Kd α} {w:World} {A:Option Addr} {xs:List α} {m c:Nat}
theorem Pb (h:k.C w A xs.length xs) (hm:m<=xs.length):k.C w A (xs.take m).length (xs.take m):=by
 have hl:(xs.take m).length=m:=by rw[List.length_take];omega
 refine⟨rfl,by rw[hl];have:=h.2.1;omega,fun hp=>?_⟩
 obtain⟨ad,e,hc⟩:=h.2.2 (by omega)
 refine⟨ad,e,fun j p hj=>hc j p ?_⟩
 rw[List.getElem?_take] at hj
 split at hj
 ·exact hj
 ·cases hj
end
end Kd
end Go.Proofs.ae.au
end
section
namespace Go.Proofs.ae.au
open Go.RowKit
namespace Kd
def tag {α:Type} (f:Nat->Nat) (d:Kd α):Kd (α×Nat) where
 sz:=d.sz
 E:=d.E
 K:=fun w x cs=>d.K w x.1 cs
 M:=fun w base ok x cs=>d.M w base (fun k=>ok k/\f k=x.2) x.1 cs
 oI:=fun h=>d.oI h
 pJ:=fun h=>d.pJ h
 kN:=fun hb h=>d.kN hb h
 ku:=fun h=>d.ku h
 gP:=fun hok h=>d.gP (fun k hk=>⟨hok k hk.1,hk.2⟩) h
 jP:=fun h=>d.gP (fun _ hk=>⟨⟨hk.1.1,hk.2⟩,hk.1.2⟩) (d.jP h)
 lK:=fun hm h=>d.lK (fun k hk=>hm k hk.1) h
 kP:=fun hb h=>d.kP hb h
def S {α:Type} (d:Kd α) (e:Nat) (w:World) (base:Nat) (ok:Nat->Prop) (v:Value) (xs:List α):Prop:=∃f,(tag f d).R e w base ok v xs.zipIdx
section
variable {α β:Type} {d:Kd α} {d':Kd β} {e e':Nat} {w w1 W:World} {base b:Nat} {ok ok' Ct OX:Nat->Prop} {u v:Value} {xs:List α} {ys:List β}
theorem FY {xs:List α} {j:Nat} {p:α} (h:xs[j]?=some p):xs.zipIdx[j]?=some (p,j):=by rw[List.getElem?_zipIdx,h,Nat.zero_add];rfl
theorem WI (h:S d e w base ok v xs):d.R e w base ok v xs:=by
 obtain⟨f,h0,inner,ho,hr⟩:=h
 rw[List.length_zipIdx] at ho
 exact⟨h0,inner,ho,by have:=hr.1;rw[List.length_zipIdx] at this;exact this,fun j p hj=>d.gP (fun _ hk=>hk.1) (hr.2 j (p,j) (FY hj))⟩
theorem kg (d:Kd α) (e:Nat) (w:World) (base:Nat) (ok:Nat->Prop):S d e w base ok (.slice none 0 0) []:=⟨fun _=>0,jM _ _ _ _ _⟩
theorem lM (h:S d e w base ok v xs) (hok:∀k,ok k->ok' k):S d e w base ok' v xs:=by
 obtain⟨f,h⟩:=h
 exact⟨f,dU h hok⟩
theorem jZ (h:S d e w base ok v xs):∀k,v.ownBlock=some k->∃cells,w.heap[k]?=some (.cells cells e (0,0)):=oO (WI h)
theorem mP (h:S d e W base ok u xs) (hbase:∀k,v.ownBlock=some k->W.heap.size<=k) (hb:Below W.heap.size W w1):S d e w1 base (fun k=>ok k/\some k≠v.ownBlock) u xs:=by
 obtain⟨f,h⟩:=h
 exact⟨f,nW h hbase hb⟩
theorem LJ {f f':Nat->Nat} {zs:List (α×Nat)} (h:(tag f d).R e w base ok v zs) (hf:∀k,ok k->k<w.heap.size->f' k=f k):(tag f' d).R e w base ok v zs:=by
 obtain⟨h0,inner,ho,hr⟩:=jb h
 exact⟨fun k hk=>(h0 k hk).1,inner,ho,hr.1,fun j p hj=>d.gP (fun k hk=>⟨⟨hk.1.1.1,hk.1.2⟩,(hf k hk.1.1.1 hk.1.1.2.2.1).trans hk.2⟩) (hr.2 j p hj)⟩
end
section
variable {α β:Type} {d:Kd α} {d':Kd β} {e e' g:Nat} {w w1 W:World} {base b:Nat} {ok ok' Ct OX:Nat->Prop} {u v:Value} {xs:List α} {ys:List β}
theorem IY (h:S d e w base ok v xs):∃A c,v= .slice A xs.length c/\xs.length<=c/\d.C w A xs.length xs:=lZ (WI h)
theorem rY (xs:List α) (p:α):(xs++[p]).zipIdx=xs.zipIdx++[(p,xs.length)]:=by rw[List.zipIdx_append];simp
end
section
open Classical in
theorem GJ {α:Type} {d:Kd α} {e base:Nat} {Ct:Nat->Prop} {w:World} {v:Value} {xs:List α} (h:S d e w base Ct v xs) (m:Nat) (oZ:Nat->Prop) (hap:∀k,oZ k->¬Ct k):∃f,(∀k,oZ k->f k=m)/\(tag f d).R e w base Ct v xs.zipIdx:=by
 obtain⟨f,h⟩:=h
 exact⟨fun k=>if oZ k then m else f k,fun k hk=>if_pos hk,LJ h (fun k hk _=>if_neg (fun h2=>hap k h2 hk))⟩
variable {P:Program} {ops:Array Oper} {rest:List Oper} {o:Oper} {a:Act} {Q:Exit->Act->World->Prop} {Kc:Act->World->Prop} {α:Type}
theorem uT (d:Kd α) {w0 W:World} (base:Nat) (hgd:o.guard=none) (s x:Operand) (t e:TypeId) (z:Value) (bytes:Nat)
  (ho:o.op= .call {callee:= .builtin .append,args:=#[s,x],argTypes:=#[t,t]})
  (ht:P.underlying t=some (.slice e)) (hinfo:(P.info? e).map (fun i=>(i.zero,i.size,i.bytes))=some (some z,d.sz,bytes)) (hz:z.cells.size=d.sz) (hs0:0<d.sz) (hb0:0<bytes)
  (v:Value) (xs:List α) (p:α) (cs:List Value) (ok oZ:Nat->Prop) (hs:a.eval s=v) (hx:a.eval x= .slice (some ⟨W.heap.size,0,none⟩) 1 1) (hp:d.M W base oZ p cs) (Ba:∀k,oZ k->ok k/\some k≠v.ownBlock) (hfresh:∀k,W.heap.size<=k->ok k)
  (HO:S d e W base (fun k=>ok k/\¬oZ k) v xs) (HB:Below base w0 W) (hbase:base<=W.heap.size) (hl:(xs.length+1)*bytes<=140737488355328)
  (h:∀v1 w1,S d e w1 base ok v1 (xs++[p])->Below base w0 w1->W.grownBy w1 v.ownBlock->(v1.ownBlock=v.ownBlock\/∃b,v1.ownBlock=some b/\W.heap.size<=b)->wpList P ops Q rest (a.put o.dst v1) w1):
  wpList P ops Q (o::rest) a (W.alloc (.cells cs.toArray e)):=by
 obtain⟨f,hf,hR⟩:=GJ HO xs.length oZ (fun _ hk h2=>h2.2 hk)
 refine bT (tag f d) base hgd s x t e z bytes ho ht hinfo hz hs0 hb0 v xs.zipIdx (p,xs.length) cs ok oZ hs hx (d.gP (fun k hk=>⟨hk,hf k hk⟩) hp) Ba hfresh (dU hR (fun _ hk=>hk.1)) HB hbase (by rw[List.length_zipIdx];exact hl) ?_
 intro v1 w1 hr
 rw[<-rY] at hr
 exact h v1 w1 ⟨f,hr⟩
end
end Kd
end Go.Proofs.ae.au
end
