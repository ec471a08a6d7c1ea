import Derived.BigRegion
import Derived.Deep.AppendLies
import Derived.Deep.Draws
import Derived.KernelRfl
import Derived.Lib.Builder
import Derived.Lib.ConvBytes
import Derived.Lib.Hide
import Derived.Maps.AppendAt
import Derived.Maps.Own
import Derived.WalkKit
import Derived.WalkLawsBesides
import Derived.WalkSpells
import Derived.Test.YtilpincgjlclpaaGreatB2
set_option linter.unusedVariables false
set_option linter.unusedSimpArgs false
section
namespace Go.Proofs.YtilpincgjlclpaaGreat.Bs
open Go.RowKit
structure Fr (S:Nat->Prop) (w w':World):Prop where
 os:w'.os=w.os
 tape:w'.tape=w.tape
 output:w'.output=w.output
 size:w.heap.size<=w'.heap.size
 blk:∀k,k<w.heap.size->¬S k->w'.heap[k]?=w.heap[k]?
section
variable {S S2:Nat->Prop} {a w w' w2:World}
theorem bA {k:Nat} {o:Obj} (h:w.heap[k]?=some o):k<w.heap.size:=(Array.getElem?_eq_some_iff.1 h).1
theorem Fr.refl (S:Nat->Prop) (w:World):Fr S w w:=⟨rfl,rfl,rfl,Nat.le_refl _,fun _ _ _=>rfl⟩
theorem Fr.trans (h:Fr S a w) (k:Fr S2 w w') (hs:∀i,S2 i->S i\/a.heap.size<=i):Fr S a w':=
 ⟨k.os.trans h.os,k.tape.trans h.tape,k.output.trans h.output,Nat.le_trans h.size k.size,
  fun i hi hn=>(k.blk i (Nat.lt_of_lt_of_le hi h.size) (fun h2=>(hs i h2).elim hn (fun h3=>by omega))).trans (h.blk i hi hn)⟩
theorem Fr.mono (h:Fr S w w') (hs:∀i,S i->S2 i):Fr S2 w w':=⟨h.os,h.tape,h.output,h.size,fun i hi hn=>h.blk i hi (fun h2=>hn (hs i h2))⟩
theorem Fr.dL (h:Below w.heap.size w w'):Fr S w w':=⟨h.os,h.tape,h.output,h.size,fun i hi _=>h.block i hi⟩
theorem Fr.below (h:Fr S a w) (k:Below w.heap.size w w'):Fr S a w':=h.trans (S2:=fun _=>False) (Fr.dL k) (fun _ hf=>hf.elim)
theorem Fr.toBelow (h:Fr S w w') {B:Nat} (hs:∀i,S i->B<=i) (hB:B<=w.heap.size):Below B w w':=
 ⟨h.os,h.tape,h.output,h.size,fun i hi=>h.blk i (by omega) (fun h2=>by have:=hs i h2;omega)⟩
theorem Fr.drew (h:Fr S a w):Fr S a w.drew:=⟨h.os,h.tape,h.output,h.size,h.blk⟩
theorem Fr.drewN (h:Fr S a w) (n:Nat):Fr S a (w.drewN n):=⟨h.os,h.tape,h.output,h.size,h.blk⟩
theorem Fr.alloc (h:Fr S a w) (o:Obj):Fr S a (w.alloc o):=h.below ((Below.refl _ _).alloc (Nat.le_refl _) o)
theorem Fr.set (h:Fr S a w) {p:Addr} (hp:S p.block\/a.heap.size<=p.block) (u:Value):Fr S a (w.setCell p u):=
 h.trans (S2:=fun k=>k=p.block) ⟨rfl,rfl,rfl,by simp[World.setCell],fun k _ hn=>Below.heap_setCell w p u k hn⟩ (fun k hk=>by rw[hk];exact hp)
theorem Fr.grown (h:Fr S a w) {row:Option Nat} (hg:w.grownBy w' row) (hr:∀k,row=some k->S k\/a.heap.size<=k):Fr S a w':=
 h.trans (S2:=fun k=>row=some k) ⟨hg.os,hg.tape,hg.output,hg.size,fun k hk hn=>hg.block k hk (fun e=>hn e.symm)⟩ hr
theorem Fr.heap (h:Fr S w w') {k:Nat} {o:Obj} (hk:w.heap[k]?=some o) (hn:¬S k):w'.heap[k]?=some o:=(h.blk k (bA hk) hn).trans hk
theorem Fr.cell (h:Fr S w w') {p:Addr} {v:Value} (hc:w.cell? p=some v) (hn:¬S p.block):w'.cell? p=some v:=
 (World.cell?_of_block (h.blk p.block (World.block_lt_of_cell? w p hc) hn)).trans hc
theorem Fr.own (h:Fr S w w') {B:Nat} {e:TypeId} {sz n:Nat} {v:Value} {xs:List Value} (ho:w.ownsRow B e sz v n xs) (hn:∀g,v.ownBlock=some g->¬S g):w'.ownsRow B e sz v n xs:=by
 obtain⟨h1,h2⟩:=ho
 refine⟨h1,?_⟩
 rcases h2 with h2|⟨g,cap,cur,rfl,hg,hh,r⟩
 ·exact .inl h2
 ·exact .inr ⟨g,cap,cur,rfl,hg,h.heap hh (hn g rfl),r⟩
theorem eG {B:Nat} {e:TypeId} {sz n:Nat} {v:Value} {xs:List Value} (ho:w.ownsRow B e sz v n xs) {g:Nat} (hg:v.ownBlock=some g):B<=g/\g<w.heap.size:=ho.lt g hg
theorem own_ne {B:Nat} {e t:TypeId} {sz n:Nat} {v:Value} {xs:List Value} {g:Nat} {cs:Array Value} {fr:Nat×Nat} (ho:w.ownsRow B e sz v n xs) (hb:w.heap[g]?=some (.cells cs t fr)) (hne:t≠e):v.ownBlock≠some g:=by
 rcases ho.2 with⟨rfl,_⟩|⟨g',cap,cur,rfl,_,hh,_⟩
 ·simp[Value.ownBlock]
 ·intro he
  have:g'=g:=by simpa[Value.ownBlock] using he
  subst this
  rw[hh] at hb
  injection hb with hb
  injection hb with _ ht
  exact hne ht.symm
theorem bG (w:World) (o:Obj):(w.alloc o).heap[w.heap.size]?=some o:=heap_alloc_new w o
theorem dw {k:Nat} {o:Obj} (h:w.heap[k]?=some o) (o':Obj):(w.alloc o').heap[k]?=some o:=(Below.heap_alloc w o' k (bA h)).trans h
theorem heap_set {g:Nat} {cs:Array Value} {t:TypeId} {fr:Nat×Nat} (h:w.heap[g]?=some (.cells cs t fr)) (i:Nat) (u:Value):(w.setCell ⟨g,i,none⟩ u).heap[g]?=some (.cells (cs.setIfInBounds i u) t fr):=by
 simp[World.setCell,Array.getElem?_modify,h]
theorem dI {g:Nat} {o:Obj} (h:w.heap[g]?=some o) {p:Addr} (hp:g≠p.block) (u:Value):(w.setCell p u).heap[g]?=some o:=(Below.heap_setCell w p u g hp).trans h
theorem aj {g:Nat} {cs:Array Value} {t:TypeId} {fr:Nat×Nat} (h:w.heap[g]?=some (.cells cs t fr)) (i:Nat):w.cell? ⟨g,i,none⟩=cs[i]?:=Lib.cell_of_heap h i
theorem aX {g:Nat} {cs:Array Value} {t:TypeId} (h:w.heap[g]?=some (.cells cs t (0,0))) (i:Nat):w.frozen? ⟨g,i,none⟩=false:=by simp[World.frozen?,h]
theorem Mo (w:World) (u:Value) (T:TypeId):∀j v,[u][j]?=some v->(w.alloc (.cells #[u] T)).cell? ((⟨w.heap.size,0,none⟩:Addr).add j)=some v:=by
 intro j v hj
 match j,hj with
 |0,hj=>simp at hj;subst hj;simp[Addr.add]
theorem bU {B:Nat} {e:TypeId} {sz n:Nat} {v:Value} {xs:List Value} (ho:w.ownsRow B e sz v n xs):∃A c,v= .slice A n c:=by
 rcases ho.2 with⟨rfl,rfl⟩|⟨g,cap,cur,rfl,_⟩
 ·exact⟨none,0,rfl⟩
 ·exact⟨_,cap,rfl⟩
theorem yQ (w:World) (e:TypeId) (s:ByteArray):Fr (fun _=>False) w (Lib.bytesWorld w e s):=
 ⟨rfl,rfl,rfl,by rw[Lib.bytesWorld_size];omega,fun k hk _=>Lib.bytesWorld_at_old w e s k hk⟩
theorem xS {w wr:World} {e:TypeId} {s:ByteArray} {g:Nat} {x:Nat×Nat} (h:wr.heap[g]?=some (.cells (Lib.bytesCells w e s) e x)) (j:Nat) (hj:j<s.size):wr.cell? ⟨g,j,none⟩=some (.int .u8 (s.data.toList.getD j 0).toNat):=by
 rw[aj h]
 simp[Lib.bytesCells,Array.getElem?_append,List.getD,hj]
end
end Go.Proofs.YtilpincgjlclpaaGreat.Bs
end
section
namespace Go.Proofs.YtilpincgjlclpaaGreat.Ob
open Go Go.RowKit Bs Mp
def Sep (S T:Nat->Prop):Prop:=∀k,S k->T k->False
def Into (w:World) (S S':Nat->Prop):Prop:=∀k,S' k->S k\/w.heap.size<=k
def In (B:Nat) (w:World) (S:Nat->Prop):Prop:=∀k,S k->B<=k/\k<w.heap.size
def none_:Nat->Prop:=fun _=>False
section
variable {S S' S2 T U:Nat->Prop} {w w' a:World} {B:Nat}
theorem Sep.symm (h:Sep S T):Sep T S:=fun k h1 h2=>h k h2 h1
theorem Sep.into (h:Sep S T) (hT:In B w T) (hi:Into w S S'):Sep S' T:=fun k h1 h2=>by
 rcases hi k h1 with h3|h3
 ·exact h k h3 h2
 ·have:=(hT k h2).2
  omega
theorem Sep.sub (h:Sep S T) (hs:∀k,S' k->S k):Sep S' T:=fun k h1 h2=>h k (hs k h1) h2
theorem Into.refl (w:World) (S:Nat->Prop):Into w S S:=fun _ h=> .inl h
theorem Into.trans (h:Into w S S') (h2:Into w' S' S2) (hs:w.heap.size<=w'.heap.size):Into w S S2:=fun k hk=>by
 rcases h2 k hk with h3|h3
 ·exact h k h3
 ·exact .inr (by omega)
theorem In.ne (h:In B w S) {k:Nat} (hk:w.heap.size<=k):¬S k:=fun h1=>by have:=(h k h1).2;omega
theorem Dc (f:Fr S w w') (hT:In B w T) (d:Sep S T):∀k,T k->w'.heap[k]?=w.heap[k]?:=fun k hk=>f.blk k (hT k hk).2 (fun h=>d k h hk)
end
theorem gz {w:World} {B e sz n:Nat} {A:Option Addr} {c:Nat} {xs:List Value} (h:w.ownsRow B e sz (.slice A n c) n xs) (hp:0<n):∃g,A=some ⟨g,0,none⟩/\B<=g/\g<w.heap.size/\n<=c/\(∀j v,xs[j]?=some v->w.cell? ⟨g,j,none⟩=some v)/\∀j,w.frozen? ⟨g,j,none⟩=false:=by
 rcases h.2 with⟨he,h0⟩|⟨g,cap,cur,he,hg,hh,hn,hm,hs,ht⟩
 ·omega
 ·cases he
  refine⟨g,rfl,hg,bA hh,hn,fun j v hj=>?_,fun j=>aX hh j⟩
  rw[aj hh]
  rw[<-ht] at hj
  have hlt:j<(cur.toList.take (n*sz)).length:=(List.getElem?_eq_some_iff.1 hj).1
  rw[List.getElem?_take_of_lt (by simp at hlt;omega)] at hj
  simpa using hj
theorem tO {w:World} {B e sz n c g:Nat} {xs:List Value} (h:w.ownsRow B e sz (.slice (some ⟨g,0,none⟩) n c) n xs) (j:Nat) (u:Value):(w.setCell ⟨g,j,none⟩ u).ownsRow B e sz (.slice (some ⟨g,0,none⟩) n c) n (xs.set j u):=by
 obtain⟨h1,h2⟩:=h
 refine⟨by simpa using h1,?_⟩
 rcases h2 with⟨he,_⟩|⟨g',cap,cur,he,hg,hh,hn,hm,hs,ht⟩
 ·cases he
 ·simp at he
  obtain⟨rfl,rfl⟩:=he
  refine .inr ⟨g,c,cur.setIfInBounds j u,rfl,hg,heap_set hh j u,hn,hm,by simpa using hs,?_⟩
  rw[Array.toList_setIfInBounds,List.take_set,ht]
theorem iq {w:World} {B e sz n:Nat} {v:Value} {xs:List Value} (h:w.ownsRow B e sz v n xs) {p:Addr} (hne:v.ownBlock≠some p.block) (u:Value):(w.setCell p u).ownsRow B e sz v n xs:=
 ((Fr.refl (fun k=>k=p.block) w).set (p:=p) (.inl rfl) u).own h (fun g hg e=>hne (by rw[hg,e]))
end Go.Proofs.YtilpincgjlclpaaGreat.Ob
end
section
namespace Go.Proofs.YtilpincgjlclpaaGreat.Ob
open Go Go.RowKit Bs Mp
theorem laid:laidOutB Tryz.prog=true:=by kernel_rfl
theorem small:Tryz.prog.types.size+2<=10000:=of_decide_eq_true (by kernel_rfl)
def lD (n:Int):Prop:=(Lit.int .i64 n).wf=true
theorem lD.bounds {n:Int} (h:lD n): -9223372036854775808<=n/\n<=9223372036854775807:=by
 unfold lD at h
 simp[Lit.wf,IntKind.min,IntKind.max,IntKind.signed,IntKind.bits] at h
 omega
theorem lD.mk {n:Int} (h: -9223372036854775808<=n) (h':n<=9223372036854775807):lD n:=by
 unfold lD
 simp[Lit.wf,IntKind.min,IntKind.max,IntKind.signed,IntKind.bits]
 omega
def yj:Kv Tryz.prog ByteArray Int where
 t:=112
 k:=9
 e:=3
 kv s:= .string s
 vv n:= .int .i64 n
 ok s:=s.size<=maxLen
 z:=0
 law:=Maps.string_keyed Tryz.underlying9
 ht:=Tryz.underlying112
 inj:=fun a c h=>by simpa using h
 key:=fun a h=>⟨_,WideMaps.keyOf_string_mk (P:=Tryz.prog) Tryz.underlying9 h⟩
 hz:=fun w=>by kernel_rfl
abbrev pv (p:Int×Int):Value:= .agg #[.int .i64 p.1,.int .i64 p.2]
theorem pkey (a:Int×Int) (h:lD a.1/\lD a.2):∃l,keyOf Tryz.prog 160 (pv a)=some l:=by
 obtain⟨a1,a2⟩:=a
 simp only at h
 have e1:Tryz.prog.keyType 160=true:=by kernel_rfl
 have e2:Tryz.prog.cellsOf 160=2:=by kernel_rfl
 have e3:Tryz.prog.cellsOf 3=1:=by kernel_rfl
 obtain⟨f,hf⟩:∃f,Tryz.prog.types.size=f+1:=⟨Tryz.prog.types.size-1,by have:1<=Tryz.prog.types.size:=of_decide_eq_true (by kernel_rfl);omega⟩
 have h1:=h.1
 have h2:=h.2
 unfold lD at h1 h2
 have hn:(#[{name:= "A",type:=3,offset:=0,embedded:=false,tag:= "",pkgPath:= "",byteOffset:=0},{name:= "B",type:=3,offset:=1,embedded:=false,tag:= "",pkgPath:= "",byteOffset:=8}]:Array Field).all (·.name != "_")=true:=by decide+kernel
 have hk:Tryz.prog.keyLits (Tryz.prog.types.size+1) 160 [.int .i64 a1,.int .i64 a2]=some [.int .i64 a1,.int .i64 a2]:=by
  rw[hf]
  simp only[Program.keyLits,Tryz.underlying160,hn]
  rw[if_pos ⟨e2.symm,trivial⟩]
  obtain⟨g,rfl⟩:∃g,f=g+1:=⟨f-1,by have:2<=Tryz.prog.types.size:=of_decide_eq_true (by kernel_rfl);omega⟩
  simp only[List.mapM_cons,List.mapM_nil,e3,List.drop_zero,List.drop_succ_cons,List.take_succ_cons,List.take_zero,Program.keyLits,Tryz.underlying3,h1,h2,and_self,if_true,Option.pure_def,Option.bind_eq_bind,Option.bind_some,Option.map_some,List.flatten_cons,List.flatten_nil,List.append_nil,List.singleton_append]
 have hfm:(pv (a1,a2)).formed Tryz.prog 160=true:=by simp[Value.formed,Tryz.underlying160,e2]
 refine⟨.string (keyBytes [.int .i64 a1,.int .i64 a2]),?_⟩
 simp only[keyOf,Tryz.underlying160,e1,hfm,Bool.and_self,if_true,Value.cells,hk,Option.map_some]
theorem plaw:Maps.Keyed Tryz.prog 160:=Maps.Keyed.of_law (deep_law_gate laid small (of_decide_eq_true (by kernel_rfl)) (by kernel_rfl) (by kernel_rfl))
theorem pinj (a c:Int×Int) (h:pv a=pv c):a=c:=by
 obtain⟨a1,a2⟩:=a
 obtain⟨c1,c2⟩:=c
 simp at h
 rw[h.1,h.2]
def ou:Kv Tryz.prog (Int×Int) Int where
 t:=207
 k:=160
 e:=3
 kv:=pv
 vv n:= .int .i64 n
 ok p:=lD p.1/\lD p.2
 z:=0
 law:=plaw
 ht:=Tryz.underlying207
 inj:=pinj
 key:=pkey
 hz:=fun w=>by kernel_rfl
def VK:Kv Tryz.prog (Int×Int) Value where
 t:=194
 k:=160
 e:=43
 kv:=pv
 vv v:=v
 ok p:=lD p.1/\lD p.2
 z:= .slice none 0 0
 law:=plaw
 ht:=Tryz.underlying194
 inj:=pinj
 key:=pkey
 hz:=fun w=>by kernel_rfl
end Go.Proofs.YtilpincgjlclpaaGreat.Ob
end
section
namespace Go.Proofs.YtilpincgjlclpaaGreat.Ob
open Go Go.RowKit Go.ChangeMaps Go.MapKept Bs Mp
section
variable {P:Program} {κ β:Type} {T:Kv P κ β} {b:Nat} {m:List (κ×β)} {w w':World}
theorem iQ {g:Nat} {cs:Array Value} {t:TypeId} {fr:Nat×Nat} (hb:w.heap[g]?=some (.cells cs t fr)) (hM:mp T w b m):g≠b:=by
 rintro rfl
 obtain⟨es,clock,hbm,_⟩:=hM
 rw[hb] at hbm
 cases hbm
theorem nO {B n sz:Nat} {e:TypeId} {v:Value} {xs:List Value} (ho:w.ownsRow B e sz v n xs) (hM:mp T w b m):v.ownBlock≠some b:=by
 rcases ho.2 with⟨rfl,_⟩|⟨g,cap,cur,rfl,_,hh,_⟩
 ·simp[Value.ownBlock]
 ·intro e
  have:g=b:=by simpa[Value.ownBlock] using e
  exact iQ hh hM this
theorem mr (w:World) (l:List Value) (t:TypeId):∀j v,l[j]?=some v->(w.alloc (.cells l.toArray t)).cell? ((⟨w.heap.size,0,none⟩:Addr).add j)=some v:=by
 intro j v hj
 have:((⟨w.heap.size,0,none⟩:Addr).add j)=⟨w.heap.size,j,none⟩:=by
  unfold Addr.add
  split
  ·subst_vars;rfl
  ·simp
 rw[this,aj (bG w _)]
 simpa using hj
theorem jI (h:w.mapTurned w' b):Fr (fun k=>k=b) w w':=by
 obtain⟨es,clock,es',clock',hb,rfl⟩:=h
 exact⟨rfl,rfl,rfl,by simp[setBlock],fun k _ hn=>(heap_set hb).2 k hn⟩
theorem BV (h:w.mapTurned w' b):w'.heap.size=w.heap.size:=by
 obtain⟨es,clock,es',clock',hb,rfl⟩:=h
 simp[setBlock]
variable (w) {ops:Array Oper} {rest:List Oper} {o:Oper} {a:Act} {Q:Exit->Act->World->Prop}
theorem oK [DecidableEq κ] (hg:o.guard=none) (mo x v:Operand) (t:TypeId) (et:T.t=t) (hop:o.op=Op.mapUpdate t mo x v) (hm:a.eval mo= .map (some b)) (h:mp T w b m) (hsz:m.length<maxLen)
  (c:κ) (u:β) (hx:a.eval x=T.kv c) (hv:a.eval v=T.vv u) (hc:T.ok c)
  (hK:∀w',mp T w' b (put m c u)->Fr (fun k=>k=b) w w'->w'.heap.size=w.heap.size->wpList P ops Q rest (a.put o.dst undef) w'):
  wpList P ops Q (o::rest) a w:=by
 subst et
 refine wpList_plain hg fun K' hK'=>?_
 obtain⟨w',hrun,r1,r2⟩:=h.store hsz hc u
 unfold Oper.wp
 simp[execOp,hop,hm,hx,hv,hrun,Result.andThen]
 exact hK' _ _ (hK w' r1 (jI r2) (BV r2))
theorem wJ [DecidableEq κ] (h:mp T w b m) {c:κ} (hc:T.ok c) (ty:TypeId):∃w',(Builtin.delete_ #[T.t,T.k] ty #[.map (some b),T.kv c]).run P w= .ok (.tuple #[]) w'/\mp T w' b (del m c)/\Fr (fun k=>k=b) w w'/\w'.heap.size=w.heap.size:=by
 obtain⟨w',hrun,r1,r2⟩:=h.drop hc ty
 exact⟨w',hrun,r1,jI r2,BV r2⟩
end
end Go.Proofs.YtilpincgjlclpaaGreat.Ob
end
section
namespace Go.Proofs.YtilpincgjlclpaaGreat.Ob
open Go Go.RowKit Bs Mp jL
def kvL:Kv Tryz.prog (Int×Int) Int where
 t:=253
 k:=160
 e:=3
 kv:=pv
 vv n:= .int .i64 n
 ok p:=lD p.1/\lD p.2
 z:=0
 law:=plaw
 ht:=Tryz.underlying253
 inj:=pinj
 key:=pkey
 hz:=fun w=>by kernel_rfl
def bump (d:P2->Int) (p:P2) (c:Int):P2->Int:=fun r=>d r+if r=p then c else 0
def Nz (m:List (P2×Int)) (d:P2->Int):Prop:=∀q,Mp.get m q=if d q=0 then none else some (d q)
theorem Nz.at {m:List (P2×Int)} {d:P2->Int} (h:Nz m d) (q:P2):(Mp.get m q).getD 0=d q:=by
 rw[h q]
 split
 ·rename_i e;rw[e];rfl
 ·rfl
theorem Nz.put {m:List (P2×Int)} {d:P2->Int} (h:Nz m d) (p:P2) {c:Int} (hc:d p+c≠0):Nz (put m p (d p+c)) (bump d p c):=fun q=>by
 rw[get_put]
 unfold bump
 by_cases e:p=q
 ·subst e
  rw[if_pos rfl,if_pos rfl,if_neg hc]
 ·have e2:(if q=p then c else 0)=0:=if_neg (fun h1=>e h1.symm)
  rw[if_neg e,e2,Int.add_zero,h q]
theorem Nz.del {m:List (P2×Int)} {d:P2->Int} (h:Nz m d) (p:P2) {c u:Int} (hc:d p+c=0):Nz (del (Mp.put m p u) p) (bump d p c):=fun q=>by
 rw[zg]
 unfold bump
 by_cases e:p=q
 ·subst e
  rw[if_pos rfl,if_pos rfl,hc,if_pos rfl]
 ·have e2:(if q=p then c else 0)=0:=if_neg (fun h1=>e h1.symm)
  rw[if_neg e,e2,Int.add_zero,get_put,if_neg e,h q]
theorem yX {m:List (P2×Int)} {p:P2}:(del m p).length<=m.length:=List.length_filter_le _ _
structure xC (B:Nat) (w:World) (g:Nat) (d:P2->Int) (n:Nat):Prop where
 out:∃m,mp kvL w g m/\B<=g/\Nz m d/\m.length<=n/\∀q,-(n:Int)<=d q/\d q<=n
theorem xC.lt {B g n:Nat} {w:World} {d:P2->Int} (h:xC B w g d n):B<=g/\g<w.heap.size:=by
 obtain⟨m,hM,hB,_⟩:=h.out
 exact⟨hB,hM.lt⟩
theorem xC.same {B g n:Nat} {w w':World} {d:P2->Int} (h:xC B w g d n) (e:w'.heap[g]?=w.heap[g]?):xC B w' g d n:=by
 obtain⟨m,hM,r⟩:=h.out
 exact⟨m,hM.same e,r⟩
theorem xC.more {B g n k:Nat} {w:World} {d:P2->Int} (h:xC B w g d n) (hk:n<=k):xC B w g d k:=by
 obtain⟨m,hM,hB,hN,hl,hb⟩:=h.out
 exact⟨m,hM,hB,hN,by omega,fun q=>by have:=hb q;omega⟩
theorem Hz {d:P2->Int} {n:Nat} {p:P2} {c:Int} (hb:∀q,-(n:Int)<=d q/\d q<=n) (hc:c=1\/c= -1):∀q,-((n+1:Nat):Int)<=bump d p c q/\bump d p c q<=((n+1:Nat):Int):=fun q=>by
 have:=hb q
 unfold bump
 split<;>omega
set_option maxHeartbeats 1000000 in
set_option maxRecDepth 100000 in
theorem led_add {B g n:Nat} {w:World} {d:P2->Int} (h:xC B w g d n) (hn:n<=1000000) {p:P2} (hp:lD p.1/\lD p.2) {c:Int} (hc:c=1\/c= -1):
  Calls Tryz.prog 175 #[.map (some g),pv p,.int .i64 c] w fun e w'=>e= .returned (.tuple #[])/\xC B w' g (bump d p c) (n+1)/\Fr (fun k=>k=g) w w':=by
 obtain⟨m,hM,hB,hN,hl,hb⟩:=h.out
 obtain⟨p1,p2⟩:=p
 have hbp:=hb (p1,p2)
 have hok:kvL.ok (p1,p2):=hp
 have hM1:=(hM.alloc (.cells #[.int .i64 p1,.int .i64 p2] 160)).drew
 have hlk:=hM1.look hok
 obtain⟨st,w1,hE,hT1,hL1,hS⟩:=hM1.entry (by unfold maxLen;omega) hok
 have hat:=hN.at (p1,p2)
 simp only[show kvL.z=(0:Int) from rfl,hat] at hlk hE hL1
 obtain⟨v,hv⟩:∃v,v=d (p1,p2):=⟨_,rfl⟩
 rw[<-hv] at hlk hE hL1 hbp
 obtain⟨w2,hS2,hM2,SI⟩:=hS (v+c)
 have e1:(Instr.lookup 253 (.map (some g)) (.agg #[.int .i64 p1,.int .i64 p2]) false).run Tryz.prog (w.alloc (.cells #[.int .i64 p1,.int .i64 p2] 160)).drew= .ok (.int .i64 v) (w.alloc (.cells #[.int .i64 p1,.int .i64 p2] 160)).drew:=hlk
 have e2:(Instr.mapEntry 253 (.map (some g)) (.agg #[.int .i64 p1,.int .i64 p2])).run Tryz.prog (w.alloc (.cells #[.int .i64 p1,.int .i64 p2] 160)).drew= .ok (.tuple #[.int .i64 v,.int .i64 st]) w1:=hE
 have e3:(Instr.lookup 253 (.map (some g)) (.agg #[.int .i64 p1,.int .i64 p2]) false).run Tryz.prog w1= .ok (.int .i64 v) w1:=hL1
 have e4:(Instr.entryStore 253 (.map (some g)) (.int .i64 st) (.int .i64 (v+c))).run Tryz.prog w1= .ok () w2:=hS2
 have hw:wrap64 (v+c)=v+c:=by unfold wrap64;omega
 have hlt:=hM.lt
 have hne:w.heap.size≠g:=by omega
 have hk2:=hM2.look hok
 rw[get_put,if_pos rfl,Option.getD_some] at hk2
 have e5:(Instr.lookup 253 (.map (some g)) (.agg #[.int .i64 p1,.int .i64 p2]) false).run Tryz.prog w2= .ok (.int .i64 (v+c)) w2:=hk2
 have hf2:Fr (fun k=>k=g) w w2:=(((Fr.refl _ w).alloc (.cells #[.int .i64 p1,.int .i64 p2] 160)).drew).trans (jI SI) (fun i hi=> .inl hi)
 have hbx:w2.heap[w.heap.size]?=some (.cells #[.int .i64 p1,.int .i64 p2] 160 (0,0)):=(jI SI).heap (bG w _) hne
 have x0:w2.cell? ⟨w.heap.size,0,none⟩=some (.int .i64 p1):=aj hbx 0
 have x1:w2.cell? ⟨w.heap.size,1,none⟩=some (.int .i64 p2):=aj hbx 1
 have HX:=Lib.hid (And.intro hM2 hf2)
 have hV:=Lib.hid hv
 clear hS2 hE hL1 hlk hS hM1 hT1 SI hM2 hf2 hv hk2
 go_enter Tryz.func175,Tryz.ntmps175
 go_wp2
 go_region
 clear e1 e2 e3 e4
 by_cases hz:v+c=0
 ·obtain⟨w3,hd,sH,qR,hs3⟩:=wJ (T:=kvL) w2 HX.out.1 hok 0
  clear hs3
  have hd':(Builtin.delete_ #[253,160] 0 #[.map (some g),.agg #[.int .i64 p1,.int .i64 p2]]).run Tryz.prog w2= .ok (.tuple #[]) w3:=hd
  rw[hz] at e5
  go_wp2
  go_end0
  refine⟨rfl,⟨del (Mp.put m (p1,p2) (v+c)) (p1,p2),sH,hB,?_,?_,?_⟩,HX.out.2.trans qR (fun i hi=> .inl hi)⟩
  ·exact hN.del (p1,p2) (by rw[<-hV.out];exact hz)
  ·have:=yX (m:=Mp.put m (p1,p2) (v+c)) (p:=(p1,p2))
   have:=jO (m:=m) (a:=(p1,p2)) (u:=v+c)
   omega
  ·exact Hz hb hc
 ·have hz':(v+c==0)=false:=by simpa using hz
  go_wp2
  go_end0
  refine⟨rfl,⟨Mp.put m (p1,p2) (v+c),HX.out.1,hB,?_,?_,?_⟩,HX.out.2⟩
  ·have:=hN.put (p1,p2) (c:=c) (by rw[<-hV.out];exact hz)
   rw[<-hV.out] at this
   exact this
  ·have:=jO (m:=m) (a:=(p1,p2)) (u:=v+c)
   omega
  ·exact Hz hb hc
end Go.Proofs.YtilpincgjlclpaaGreat.Ob
end
