import Derived.Deep.AppendLies
import Derived.Test.YtilpincgjlclpaaGreatB17
import Derived.Test.YtilpincgjlclpaaGreatB20
set_option linter.unusedVariables false
set_option linter.unusedSimpArgs false
section
namespace Go.Proofs.YtilpincgjlclpaaGreat.Tm
open Go.RowKit jL Mp Hp
abbrev It:=P2×Int
def qM (o:List J) (x y:It):Bool:=decide (y.2<x.2)||(decide (x.2=y.2)&&gJ.lp (fI o x.1.1) (fI o x.1.2) (fI o y.1.1) (fI o y.1.2))
def bt (o:List J) (x y:It):Prop:=qM o x y=true
theorem DK {o:List J} {x y:It}:bt o x y↔y.2<x.2\/x.2=y.2/\gJ.lp (fI o x.1.1) (fI o x.1.2) (fI o y.1.1) (fI o y.1.2)=true:=by simp[bt,qM]
theorem ma (o:List J):Ord (bt o) where
 asymm x y h h':=by
  rw[DK] at h h'
  rcases h with h|⟨h,h2⟩
  ·rcases h' with h'|⟨h',_⟩<;>omega
  ·rcases h' with h'|⟨h',h3⟩
   ·omega
   ·have:=gJ.Eu h2 h3
    rw[gJ.ZB] at this
    cases this
 neg x y z h h' hc:=by
  rw[DK] at h h' hc
  by_cases e1:x.2=y.2
  ·by_cases e2:y.2=z.2
   ·have g1:gJ.lp (fI o y.1.1) (fI o y.1.2) (fI o x.1.1) (fI o x.1.2)=false:=Bool.eq_false_iff.2 fun e=>h (.inr ⟨e1.symm,e⟩)
    have g2:gJ.lp (fI o z.1.1) (fI o z.1.2) (fI o y.1.1) (fI o y.1.2)=false:=Bool.eq_false_iff.2 fun e=>h' (.inr ⟨e2.symm,e⟩)
    rcases hc with hc|⟨_,hc⟩
    ·omega
    ·cases g3:gJ.lp (fI o x.1.1) (fI o x.1.2) (fI o y.1.1) (fI o y.1.2) with
     |true=>
      have:=gJ.Eu hc g3
      rw[g2] at this
      cases this
     |false=>
      obtain⟨a1,a2⟩:=gJ.Et g1 g3
      rw[<-a1,<-a2,g2] at hc
      cases hc
   ·have:z.2<y.2:=by
     rcases Int.lt_trichotomy y.2 z.2 with g|g|g
     ·exact(h' (.inl g)).elim
     ·exact(e2 g).elim
     ·exact g
    rcases hc with hc|⟨hc,_⟩<;>omega
  ·have g1:y.2<x.2:=by
    rcases Int.lt_trichotomy x.2 y.2 with g|g|g
    ·exact(h (.inl g)).elim
    ·exact(e1 g).elim
    ·exact g
   have g2:z.2<=y.2:=by
    rcases Int.lt_trichotomy y.2 z.2 with g|g|g
    ·exact(h' (.inl g)).elim
    ·omega
    ·omega
   rcases hc with hc|⟨hc,_⟩<;>omega
def Ak (o:List J):Prop:=∀x y,Vl o x->Vl o y->fI o x=fI o y->x=y
theorem XU {o:List J} (hi:Ak o) {x y:It} (hx:VP o x.1) (hy:VP o y.1) (h:¬bt o x y) (h':¬bt o y x):x=y:=by
 rw[DK] at h h'
 have e:x.2=y.2:=by
  rcases Int.lt_trichotomy x.2 y.2 with g|g|g
  ·exact(h' (.inl g)).elim
  ·exact g
  ·exact(h (.inl g)).elim
 obtain⟨a1,a2⟩:=gJ.Et (Bool.eq_false_iff.2 fun g=>h (.inr ⟨e,g⟩)) (Bool.eq_false_iff.2 fun g=>h' (.inr ⟨e.symm,g⟩))
 exact Prod.ext (Prod.ext (hi _ _ hx.1 hy.1 a1) (hi _ _ hx.2 hy.2 a2)) e
theorem XV {o:List J} {x y:It} (hx:VP o x.1) (hy:VP o y.1) (p:List J):qM (o++p) x y=qM o x y:=by
 unfold qM
 rw[iI hx.1,iI hx.2,iI hy.1,iI hy.2]
def top (o:List J):List It->Option It
 |[]=>none
 |x::H=>match top o H with
  |none=>some x
  |some y=>if qM o x y then some x else some y
theorem FI {o:List J} {H:List It}:top o H=none↔H=[]:=by
 cases H with
 |nil=>simp[top]
 |cons x H=>
  rw[top]
  cases top o H with
  |none=>simp
  |some y=>simp only[reduceCtorEq,iff_false];split<;>simp
theorem qd {o:List J}:∀{H:List It} {x:It},top o H=some x->x∈H/\∀y∈H,¬bt o y x
 |[],x,h=>by simp[top] at h
 |z::H,x,h=>by
  have hO:=ma o
  have irr:∀a,¬bt o a a:=fun a g=>hO.asymm _ _ g g
  rw[top] at h
  cases ht:top o H with
  |none=>
   rw[ht] at h
   rw[FI] at ht
   subst ht
   cases h
   exact⟨by simp,fun y hy=>by rw[List.mem_singleton.1 hy];exact irr _⟩
  |some y=>
   rw[ht] at h
   obtain⟨h1,h2⟩:=qd ht
   cases hb:qM o z y with
   |true=>
    simp only[hb,if_true] at h
    cases h
    refine⟨by simp,fun u hu=>?_⟩
    rcases List.mem_cons.1 hu with rfl|hu
    ·exact irr _
    ·exact fun g=>by
      have h3:=h2 u hu
      exact hO.neg z y u (hO.asymm _ _ hb) h3 g
   |false=>
    simp only[hb,Bool.false_eq_true,if_false] at h
    cases h
    refine⟨List.mem_cons_of_mem _ h1,fun u hu=>?_⟩
    rcases List.mem_cons.1 hu with rfl|hu
    ·exact fun g=>by unfold bt at g;rw[hb] at g;cases g
    ·exact h2 u hu
theorem top_eq {o:List J} (hi:Ak o) {H:List It} (hv:∀x∈H,VP o x.1) {x:It} (hx:x∈H) (hb:∀y∈H,¬bt o y x):top o H=some x:=by
 cases ht:top o H with
 |none=>rw[FI] at ht;rw[ht] at hx;simp at hx
 |some y=>
  obtain⟨h1,h2⟩:=qd ht
  rw[XU hi (hv x hx) (hv y h1) (h2 x hx) (hb y h1)]
structure St where
 o:List J
 ws:List (List Int)
 kn:List It
 H:List It
 pu:Nat
 po:Nat
 pe:Nat
 re:Nat
def lI (s:St) (q:P2) (c:Int):St:=
 if c<1 then{s with kn:=del s.kn q}
 else if 16<s.H.length+1/\2*(put s.kn q c).length<s.H.length+1 then{s with kn:=put s.kn q c,H:=put s.kn q c,pu:=s.pu+1,pe:=max s.pe (s.H.length+1),re:=s.re+1}
 else{s with kn:=put s.kn q c,H:=(q,c)::s.H,pu:=s.pu+1,pe:=max s.pe (s.H.length+1)}
def vQ (mn n:Int):Int:=if n<mn then 0 else n
def puts (mn:Int) (f:P2->Int):St->List P2->St
 |s,[]=>s
 |s,q::l=>puts mn f (lI s q (vQ mn (f q))) l
def jd (f:P2->Int):Nat->St->St×Option It
 |0,s=>(s,none)
 |k+1,s=>match top s.o s.H with
  |none=>(s,none)
  |some x=>if x.2=f x.1 then({s with H:=s.H.erase x,po:=s.po+1,kn:=del s.kn x.1},some x) else jd f k {s with H:=s.H.erase x,po:=s.po+1}
def fK (s:St) (p:P2):St:={s with o:=s.o++[(p,fI s.o p.1++fI s.o p.2)],ws:=s.ws.map (mI p (256+(s.o.length:Int)))}
noncomputable def step (cs:List Int) (mn:Int) (s:St):St×Bool:=
 match jd (bR cs s.ws) (s.H.length+1) s with
 |(s1,none)=>(s1,false)
 |(s1,some x)=>if x.2<mn then(s1,false) else(puts mn (bR cs (fK s1 x.1).ws) (fK s1 x.1) (sd (bR cs s.ws) (bR cs (fK s1 x.1).ws)),true)
noncomputable def run (cs:List Int) (mn:Int):Nat->St->St
 |0,s=>s
 |k+1,s=>if(step cs mn s).2=true then run cs mn k (step cs mn s).1 else(step cs mn s).1
def start (ts:List (List UInt8)):St:={o:=[],ws:=ts.map ids,kn:=[],H:=[],pu:=0,po:=0,pe:=0,re:=0}
noncomputable def first(ts:List (List UInt8)) (cs:List Int) (mn:Int):St:=puts mn (bR cs (start ts).ws) (start ts) (sd (fun _=>0) (bR cs (start ts).ws))
noncomputable def learn (ts:List (List UInt8)) (cs:List Int) (budget mn:Int):St:=run cs mn budget.toNat (first ts cs mn)
end Go.Proofs.YtilpincgjlclpaaGreat.Tm
end
section
namespace Go.Proofs.YtilpincgjlclpaaGreat.Ob
open Go Go.RowKit Bs Mp jL Pr
open Tm (It qM)
theorem keepC {B b n:Nat} {o:List J} {S:Nat->Prop} {a1 a2 a3 a4 a5 a6:Addr} {v1 v2 v3 v4 v5 v6:Value} {w U w1:World} (h:Sym B U b o S/\Below n w U/\n<=U.heap.size/\U.cell? a1=some v1/\U.cell? a2=some v2/\U.cell? a3=some v3/\U.cell? a4=some v4/\U.cell? a5=some v5/\U.cell? a6=some v6) (hB:Below U.heap.size U w1):
  Sym B w1 b o S/\Below n w w1/\n<=w1.heap.size/\w1.cell? a1=some v1/\w1.cell? a2=some v2/\w1.cell? a3=some v3/\w1.cell? a4=some v4/\w1.cell? a5=some v5/\w1.cell? a6=some v6:=by
 obtain⟨h0,hb,hn,h1,h2,h3,h4,h5,h6⟩:=h
 exact⟨h0.below hB,hb.trans (hB.mono hn),Nat.le_trans hn hB.size,(hB.cell (World.block_lt_of_cell? _ _ h1)).trans h1,(hB.cell (World.block_lt_of_cell? _ _ h2)).trans h2,(hB.cell (World.block_lt_of_cell? _ _ h3)).trans h3,(hB.cell (World.block_lt_of_cell? _ _ h4)).trans h4,(hB.cell (World.block_lt_of_cell? _ _ h5)).trans h5,(hB.cell (World.block_lt_of_cell? _ _ h6)).trans h6⟩
theorem ZL {B b:Nat} {o:List J} {S:Nat->Prop} {w:World} {X:Prop} (h:Sym B w b o S/\X) (hl:o.length<=1000000) {p q:P2} (hp:VP o p) (hq:VP o q):
  Calls Tryz.prog 196 #[.pointer (some ⟨b,0,none⟩),pv p,pv q] w fun e w'=>e= .returned (.int .i64 (Mt o p q))/\Below w.heap.size w w':=QU h.1 hl hp hq
abbrev iv (x:It):Value:= .agg #[.int .i64 x.1.1,.int .i64 x.1.2,.int .i64 x.2]
def GR (o:List J) (x y:It):Int:=if mU y.2 x.2=0 then Mt o x.1 y.1 else mU y.2 x.2
theorem Ms (a b:ByteArray):(xV a b<0↔dS (gJ.tx a) (gJ.tx b)=true)/\(xV a b=0↔a=b):=by
 have hirr:=gJ.xg
 unfold xV
 cases h1:dS (gJ.tx a) (gJ.tx b) with
 |true=>
  simp only[if_true,true_iff]
  refine⟨by simp,by simp,fun e=>?_⟩
  rw[e,hirr] at h1
  cases h1
 |false=>
  cases h2:dS (gJ.tx b) (gJ.tx a) with
  |true=>
   simp
   intro e
   rw[e,hirr] at h2
   cases h2
  |false=>
   simp
   exact gJ.KT (gJ.qG h1 h2)
theorem Yd (o:List J) (p q:P2):Mt o p q<0↔gJ.lp (fI o p.1) (fI o p.2) (fI o q.1) (fI o q.2)=true:=by
 have h1:=Ms (fI o p.1) (fI o q.1)
 have h2:=Ms (fI o p.2) (fI o q.2)
 rw[gJ.Km]
 unfold Mt
 by_cases e:xV (fI o p.1) (fI o q.1)=0
 ·rw[if_pos e,h2.1]
  have e1:=h1.2.1 e
  constructor
  ·exact fun h=> .inr ⟨e1,h⟩
  ·rintro(h|h)
   ·rw[e1,gJ.xg] at h;cases h
   ·exact h.2
 ·rw[if_neg e,h1.1]
  constructor
  ·exact fun h=> .inl h
  ·rintro(h|h)
   ·exact h
   ·exact(e (h1.2.2 h.1)).elim
theorem Vj (o:List J) (x y:It):decide (GR o x y<0)=qM o x y:=by
 have h:GR o x y<0↔qM o x y=true:=by
  rw[show(qM o x y=true)↔_ from Tm.DK,<-Yd]
  unfold GR mU
  by_cases h1:y.2<x.2
  ·simp[h1]
  ·by_cases h2:x.2<y.2
   ·simp[h1,h2];omega
   ·have e:x.2=y.2:=by omega
    simp[e]
 cases hb:qM o x y with
 |true=>exact decide_eq_true (h.2 hb)
 |false=>exact decide_eq_false fun g=>by rw[h.1 g] at hb;cases hb
set_option maxHeartbeats 4000000 in
set_option maxRecDepth 100000 in
theorem Kt {B b:Nat} {o:List J} {S:Nat->Prop} {w:World} (h:Sym B w b o S) (hl:o.length<=1000000) {x y:It} (hp:VP o x.1) (hq:VP o y.1):
  Calls Tryz.prog 178 #[.pointer (some ⟨b,0,none⟩),iv x,iv y] w fun e w'=>e= .returned (.int .i64 (GR o x y))/\Below w.heap.size w w':=by
 obtain⟨⟨p1,p2⟩,pc⟩:=x
 obtain⟨⟨q1,q2⟩,qc⟩:=y
 obtain⟨r,hr⟩:∃r,GR o ((p1,p2),pc) ((q1,q2),qc)=r:=⟨_,rfl⟩
 have ho:=fun U=>or_b (mU qc pc) (Mt o (p1,p2) (q1,q2)) U
 rw[show(if mU qc pc=0 then Mt o (p1,p2) (q1,q2) else mU qc pc)=r from hr] at ho
 rw[hr]
 clear hr
 obtain⟨V,hV⟩:∃V,V=(w.alloc (.cells #[.int .i64 p1,.int .i64 p2,.int .i64 pc] 162)).alloc (.cells #[.int .i64 q1,.int .i64 q2,.int .i64 qc] 162):=⟨_,rfl⟩
 have ji:Below w.heap.size w V:=by rw[hV];exact((Below.refl _ w).alloc (Nat.le_refl _) _).alloc (by simp) _
 have hx:V.heap[w.heap.size]?=some (.cells #[.int .i64 p1,.int .i64 p2,.int .i64 pc] 162 (0,0)):=by rw[hV];exact dw (bG w _) _
 have hy:V.heap[w.heap.size+1]?=some (.cells #[.int .i64 q1,.int .i64 q2,.int .i64 qc] 162 (0,0)):=by
  rw[hV]
  have:=bG (w.alloc (.cells #[.int .i64 p1,.int .i64 p2,.int .i64 pc] 162)) (.cells #[.int .i64 q1,.int .i64 q2,.int .i64 qc] 162)
  rwa[World.size_alloc] at this
 have hS:Sym B V.drew b o S/\Below w.heap.size w V.drew/\w.heap.size<=V.drew.heap.size/\V.drew.cell? ⟨w.heap.size,0,none⟩=some (.int .i64 p1)/\V.drew.cell? ⟨w.heap.size,1,none⟩=some (.int .i64 p2)/\V.drew.cell? ⟨w.heap.size,2,none⟩=some (.int .i64 pc)/\V.drew.cell? ⟨w.heap.size+1,0,none⟩=some (.int .i64 q1)/\V.drew.cell? ⟨w.heap.size+1,1,none⟩=some (.int .i64 q2)/\V.drew.cell? ⟨w.heap.size+1,2,none⟩=some (.int .i64 qc):=
  ⟨(h.below ji).same fun _ _=>rfl,ji.drew,ji.size,aj hx 0,aj hx 1,aj hx 2,aj hy 0,aj hy 1,aj hy 2⟩
 have hci:=PG
 go_enter Tryz.func178,Tryz.ntmps178
 go_wp2_with fail
 rw[<-hV]
 clear hV hx hy h ji
 go_region_held3 (fun w'=>Sym B w' b o S/\Below w.heap.size w w'/\w.heap.size<=w'.heap.size/\w'.cell? ⟨w.heap.size,0,none⟩=some (.int .i64 p1)/\w'.cell? ⟨w.heap.size,1,none⟩=some (.int .i64 p2)/\w'.cell? ⟨w.heap.size,2,none⟩=some (.int .i64 pc)/\w'.cell? ⟨w.heap.size+1,0,none⟩=some (.int .i64 q1)/\w'.cell? ⟨w.heap.size+1,1,none⟩=some (.int .i64 q2)/\w'.cell? ⟨w.heap.size+1,2,none⟩=some (.int .i64 qc)) (first
  |exact hS
  |exact keepC (by assumption) (by assumption)
  |exact keepC (by assumption) (gp _ _)) (first
  |(go_at_call 132;refine(hci _ _ _).mono ?_;rintro e w1 ⟨rfl,hB1⟩)
  |(go_at_call 196;refine(ZL (by assumption) hl (p:=(p1,p2)) (q:=(q1,q2)) hp hq).mono ?_;rintro e w1 ⟨rfl,hB1⟩)
  |(go_at_call 131;refine(ho _).mono ?_;rintro e w1 ⟨rfl,hB1⟩))
 go_wp2
 go_ret
 exact⟨rfl,And.left (And.right (by assumption:Sym B _ b o S/\Below w.heap.size w _/\_))⟩
set_option maxHeartbeats 1000000 in
set_option maxRecDepth 100000 in
theorem NJ {B b:Nat} {o:List J} {S:Nat->Prop} {w:World} (h:Sym B w b o S) (hl:o.length<=1000000) {x y:It} (hp:VP o x.1) (hq:VP o y.1):
  Calls Tryz.prog 145 #[.pointer (some ⟨b,0,none⟩),iv x,iv y] w fun e w'=>e= .returned (.bool (qM o x y))/\Below w.heap.size w w':=by
 have hne:=Vj o x y
 obtain⟨⟨p1,p2⟩,pc⟩:=x
 obtain⟨⟨q1,q2⟩,qc⟩:=y
 have hc:=Kt (x:=((p1,p2),pc)) (y:=((q1,q2),qc)) ((h.below (gp w (.cells #[.int .i64 p1,.int .i64 p2,.int .i64 pc] 162))).below (gp _ (.cells #[.int .i64 q1,.int .i64 q2,.int .i64 qc] 162))) hl hp hq
 rw[<-hne]
 generalize GR o ((p1,p2),pc) ((q1,q2),qc)=r at hc ⊢
 clear hne h
 go_enter Tryz.func145,Tryz.ntmps145
 go_wp2_with (go_at_call 178;refine hc.mono ?_;rintro e w1 ⟨rfl,hB1⟩;have HB1:=Lib.hid hB1;clear hB1)
 go_ret
 exact⟨rfl,(((Below.refl _ w).alloc (Nat.le_refl _) _).alloc (by simp) _).trans (HB1.out.mono (by simp;omega))⟩
end Go.Proofs.YtilpincgjlclpaaGreat.Ob
end
section
namespace Go.Proofs.YtilpincgjlclpaaGreat.Ob
open Go Go.RowKit Bs Mp jL Hp
open Tm (It bt qM ma)
abbrev TH:Nat:=257
abbrev TI:Nat:=162
abbrev d0:It:=((0,0),0)
def c3 (x:It):C3:=(x.1.1,x.1.2,x.2)
abbrev Al (q:Nat):Value:= .func (.func 116) #[.pointer (some ⟨q,0,none⟩)] #[]
structure lJ (B:Nat) (w:World) (b:Nat) (o:List J) (f v:Value) (R:List It) (pu pe:Nat):Prop where
 lo:B<=b
 blk:w.heap[b]?=some (.cells #[v,f,.int .i64 (pu:Int),.int .i64 (pe:Int)] TH (0,0))
 own:w.ownsRow B TI 3 v R.length (rc (R.map c3))
 vp:∀x∈R,VP o x.1
abbrev xB (b:Nat) (v:Value):Nat->Prop:=fun k=>k=b\/v.ownBlock=some k
def Bet (q:Nat) (o:List J) (S:Nat->Prop) (w:World):Prop:=∀(W:World) (x y:It),Fr S w W->VP o x.1->VP o y.1->
 Calls Tryz.prog 116 #[.pointer (some ⟨q,0,none⟩),iv x,iv y] W fun e w'=>e= .returned (.bool (qM o x y))/\Below W.heap.size W w'
theorem Bet.fr {q:Nat} {o:List J} {S T:Nat->Prop} {w w':World} (h:Bet q o S w) (f:Fr S w w') (hs:∀i,T i->S i\/w.heap.size<=i):Bet q o T w':=fun W x y g hx hy=>h W x y (f.trans g hs) hx hy
section
variable {B b:Nat} {o:List J} {w w':World} {f v:Value} {R:List It} {pu pe:Nat}
theorem lJ.oq (h:lJ B w b o f v R pu pe):In B w (xB b v):=fun k hk=>by
 rcases hk with rfl|hk
 ·exact⟨h.lo,bA h.blk⟩
 ·exact eG h.own hk
theorem lJ.same (h:lJ B w b o f v R pu pe) (he:∀k,xB b v k->w'.heap[k]?=w.heap[k]?):lJ B w' b o f v R pu pe:=by
 obtain⟨lo,blk,own,r1⟩:=h
 refine⟨lo,(he b (.inl rfl)).trans blk,?_,r1⟩
 obtain⟨h1,h2⟩:=own
 refine⟨h1,?_⟩
 rcases h2 with h2|⟨g,cap,cur,rfl,hg,hh,r⟩
 ·exact .inl h2
 ·exact .inr ⟨g,cap,cur,rfl,hg,(he g (.inr rfl)).trans hh,r⟩
theorem lJ.below (h:lJ B w b o f v R pu pe) (g:Below w.heap.size w w'):lJ B w' b o f v R pu pe:=h.same fun k hk=>g.block k (h.oq k hk).2
theorem lJ.drew (h:lJ B w b o f v R pu pe):lJ B w.drew b o f v R pu pe:=h.same fun _ _=>rfl
theorem lJ.cells (h:lJ B w b o f v R pu pe) {i:Nat} {x:It} (hi:R[i]?=some x):∃g cap,v= .slice (some ⟨g,0,none⟩) R.length cap/\i<R.length/\R.length<=cap/\g≠b/\g<w.heap.size/\B<=g/\
  w.cell? ⟨g,i*3,none⟩=some (.int .i64 x.1.1)/\w.cell? ⟨g,i*3+1,none⟩=some (.int .i64 x.1.2)/\w.cell? ⟨g,i*3+2,none⟩=some (.int .i64 x.2)/\∀j,w.frozen? ⟨g,j,none⟩=false:=by
 have hlt:=(List.getElem?_eq_some_iff.1 hi).1
 have hne:=Bs.own_ne h.own h.blk (show TH≠TI by decide)
 obtain⟨A,c,rfl⟩:=Bs.bU h.own
 obtain⟨g,rfl,hg,hgl,hcap,hc,hfz⟩:=gz h.own (by omega)
 obtain⟨c0,c1,c2⟩:=Uf (o:=R.map c3) (i:=i) (x:=c3 x) (by rw[List.getElem?_map,hi];rfl)
 exact⟨g,c,rfl,hlt,hcap,fun e=>hne (by simp[Value.ownBlock,e]),hgl,hg,hc _ _ c0,hc _ _ c1,hc _ _ c2,hfz⟩
theorem EE {g cap n:Nat} {row:List C3} (h:w.ownsRow B TI 3 (.slice (some ⟨g,0,none⟩) n cap) n (rc row)) {i:Nat} (hi:i<row.length) (y:C3):
  (((w.setCell ⟨g,i*3,none⟩ (.int .i64 y.1)).setCell ⟨g,i*3+1,none⟩ (.int .i64 y.2.1)).setCell ⟨g,i*3+2,none⟩ (.int .i64 y.2.2)).ownsRow B TI 3 (.slice (some ⟨g,0,none⟩) n cap) n (rc (row.set i y)):=by
 have hx:row[i]?=some row[i]:=List.getElem?_eq_getElem hi
 have h1:=tO h (i*3) (.int .i64 y.1)
 rw[(yx hx y.1).1] at h1
 have h2:=tO h1 (i*3+1) (.int .i64 y.2.1)
 rw[(yx (show(row.set i (y.1,row[i].2.1,row[i].2.2))[i]?=some (y.1,row[i].2.1,row[i].2.2) from List.getElem?_set_self hi) y.2.1).2.1,List.set_set] at h2
 have h3:=tO h2 (i*3+2) (.int .i64 y.2.2)
 rw[(yx (show(row.set i (y.1,y.2.1,row[i].2.2))[i]?=some (y.1,y.2.1,row[i].2.2) from List.getElem?_set_self hi) y.2.2).2.2,List.set_set] at h3
 exact h3
end
theorem SC (q:Nat) (W:World):(binOp BinOp.eql 212 (.func (.func 116) #[.pointer (some ⟨q,0,none⟩)] #[]) .nilFunc).run Tryz.prog W= .ok (.bool false) W:=by kernel_rfl
set_option maxHeartbeats 1000000 in
set_option maxRecDepth 100000 in
theorem AY {B b q:Nat} {w:World} {o:List J} {v:Value} {R:List It} {pu pe:Nat} (h:lJ B w b o (Al q) v R pu pe):
  Calls Tryz.prog 179 #[.pointer (some ⟨b,0,none⟩)] w fun e w'=>e= .returned (.bool false)/\Below w.heap.size w w':=by
 have c1:w.cell? ⟨b,1,none⟩=some (Al q):=aj h.blk 1
 clear h
 have hn:=SC q
 go_enter Tryz.func179,Tryz.ntmps179
 go_wp2
 go_ret
 exact⟨rfl,Below.refl _ _⟩
set_option maxHeartbeats 1000000 in
set_option maxRecDepth 100000 in
theorem MK {B b:Nat} {w:World} {o:List J} {f v:Value} {R:List It} {pu pe:Nat} (h:lJ B w b o f v R pu pe):
  Calls Tryz.prog 147 #[.pointer (some ⟨b,0,none⟩)] w fun e w'=>e= .returned (.int .i64 (R.length:Int))/\Below w.heap.size w w':=by
 have c1:w.cell? ⟨b,0,none⟩=some v:=aj h.blk 0
 obtain⟨A,c,rfl⟩:=Bs.bU h.own
 clear h
 go_enter Tryz.func147,Tryz.ntmps147
 go_wp2
 go_ret
 exact⟨rfl,Below.refl _ _⟩
theorem keepD {a1 a2 a3 a4 a5 a6 a7 a8:Addr} {v1 v2 v3 v4 v5 v6 v7 v8:Value} {w U w1:World} (h:Below w.heap.size w U/\U.cell? a1=some v1/\U.cell? a2=some v2/\U.cell? a3=some v3/\U.cell? a4=some v4/\U.cell? a5=some v5/\U.cell? a6=some v6/\U.cell? a7=some v7/\U.cell? a8=some v8) (hB:Below U.heap.size U w1):
  Below w.heap.size w w1/\w1.cell? a1=some v1/\w1.cell? a2=some v2/\w1.cell? a3=some v3/\w1.cell? a4=some v4/\w1.cell? a5=some v5/\w1.cell? a6=some v6/\w1.cell? a7=some v7/\w1.cell? a8=some v8:=by
 obtain⟨hb,h1,h2,h3,h4,h5,h6,h7,h8⟩:=h
 have k:∀{a v},U.cell? a=some v->w1.cell? a=some v:=fun h=>(hB.cell (World.block_lt_of_cell? _ _ h)).trans h
 exact⟨hb.trans (hB.mono hb.size),k h1,k h2,k h3,k h4,k h5,k h6,k h7,k h8⟩
theorem up_next {o:List J} {R:List It} {i p:Nat} {x y:It} (h:MN (bt o) (fun k=>R.getD k d0) R.length i) (hp:p=(i-1)/2) (hpl:p<i) (hx:R[i]?=some x) (hy:R[p]?=some y) (hb:qM o x y=true):
  MN (bt o) (fun k=>((R.set i (R.getD p d0)).set p (R.getD i d0)).getD k d0) ((R.set i (R.getD p d0)).set p (R.getD i d0)).length p:=by
 have hi:=(List.getElem?_eq_some_iff.1 hx).1
 have hj:=(List.getElem?_eq_some_iff.1 hy).1
 rw[List.length_set,List.length_set,Ha R d0 hi hj]
 have e1:R.getD i d0=x:=by rw[List.getD_eq_getElem?_getD,hx,Option.getD_some]
 have e2:R.getD p d0=y:=by rw[List.getD_eq_getElem?_getD,hy,Option.getD_some]
 subst hp
 exact up_step (ma o) h (by omega) hi (by show bt o (R.getD i d0) (R.getD ((i-1)/2) d0);rw[e1,e2];exact hb)
theorem Jk {S:Nat->Prop} {w w3:World} {g:Nat} (h:Fr S w w3) (hg:S g) (x1 x2 x3 x4 x5 x6:Nat) (u1 u2 u3 u4 u5 u6:Value):
  Fr S w ((((((w3.setCell ⟨g,x1,none⟩ u1).setCell ⟨g,x2,none⟩ u2).setCell ⟨g,x3,none⟩ u3).setCell ⟨g,x4,none⟩ u4).setCell ⟨g,x5,none⟩ u5).setCell ⟨g,x6,none⟩ u6).drew:=
 ((((((h.set (p:=⟨g,x1,none⟩) (.inl hg) u1).set (p:=⟨g,x2,none⟩) (.inl hg) u2).set (p:=⟨g,x3,none⟩) (.inl hg) u3).set (p:=⟨g,x4,none⟩) (.inl hg) u4).set (p:=⟨g,x5,none⟩) (.inl hg) u5).set (p:=⟨g,x6,none⟩) (.inl hg) u6).drew
theorem lJ.swap {B b:Nat} {w:World} {o:List J} {f:Value} {R:List It} {pu pe g cap:Nat} (h:lJ B w b o f (.slice (some ⟨g,0,none⟩) R.length cap) R pu pe) (hgb:g≠b) {i j:Nat} {x y:It} (hx:R[i]?=some x) (hy:R[j]?=some y):
  lJ B ((((((w.setCell ⟨g,i*3,none⟩ (.int .i64 y.1.1)).setCell ⟨g,i*3+1,none⟩ (.int .i64 y.1.2)).setCell ⟨g,i*3+2,none⟩ (.int .i64 y.2)).setCell ⟨g,j*3,none⟩ (.int .i64 x.1.1)).setCell ⟨g,j*3+1,none⟩ (.int .i64 x.1.2)).setCell ⟨g,j*3+2,none⟩ (.int .i64 x.2)) b o f (.slice (some ⟨g,0,none⟩) R.length cap) ((R.set i (R.getD j d0)).set j (R.getD i d0)) pu pe:=by
 obtain⟨hi,hx'⟩:=List.getElem?_eq_some_iff.1 hx
 obtain⟨hj,hy'⟩:=List.getElem?_eq_some_iff.1 hy
 have ex:R.getD i d0=x:=by rw[List.getD_eq_getElem?_getD,hx,Option.getD_some]
 have ey:R.getD j d0=y:=by rw[List.getD_eq_getElem?_getD,hy,Option.getD_some]
 rw[ex,ey]
 refine⟨h.lo,?_,?_,fun z hz=>?_⟩
 ·exact dI (dI (dI (dI (dI (dI h.blk (fun e=>hgb e.symm) _) (fun e=>hgb e.symm) _) (fun e=>hgb e.symm) _) (fun e=>hgb e.symm) _) (fun e=>hgb e.symm) _) (fun e=>hgb e.symm) _
 ·have h1:=EE h.own (i:=i) (by simpa using hi) (c3 y)
  have h2:=EE h1 (i:=j) (by simpa using hj) (c3 x)
  rw[<-List.map_set,<-List.map_set] at h2
  rw[List.length_set,List.length_set]
  exact h2
 ·rcases List.mem_or_eq_of_mem_set hz with hz|rfl
  ·rcases List.mem_or_eq_of_mem_set hz with hz|rfl
   ·exact h.vp z hz
   ·exact h.vp _ (List.mem_of_getElem? hy)
  ·exact h.vp _ (List.mem_of_getElem? hx)
set_option maxHeartbeats 2000000 in
set_option maxRecDepth 100000 in
theorem heap_up {B b q:Nat} {w:World} {o:List J} {v:Value} {R:List It} {pu pe:Nat} (h:lJ B w b o (Al q) v R pu pe) (hb:Bet q o (xB b v) w) {i:Nat} (hi:i<R.length) (hu:MN (bt o) (fun k=>R.getD k d0) R.length i) (hm:R.length<=1000000):
  Calls Tryz.prog 180 #[.pointer (some ⟨b,0,none⟩),.int .i64 (i:Int)] w fun e w'=>e= .returned (.tuple #[])/\∃R',lJ B w' b o (Al q) v R' pu pe/\R'.Perm R/\hp (bt o) (fun k=>R'.getD k d0) 0 R'.length/\Fr (xB b v) w w':=by
 have HH:=Lib.hid h
 have HU:=Lib.hid hu
 have HB:=Lib.hid hb
 clear h hu hb
 go_enter Tryz.func180,Tryz.ntmps180
 go_wp2_with fail
 try go_frame
 go_loopg [1] i (fun gk v1 wr=>∃(R':List It),v1= .int .i64 (gk:Int)/\gk<R.length/\Hid (R'.length=R.length)/\Hid (lJ B wr b o (Al q) v R' pu pe)/\Hid (R'.Perm R)/\Hid (MN (bt o) (fun k=>R'.getD k d0) R'.length gk)/\Hid (Fr (xB b v) w wr))
 case atStart=>exact⟨R,rfl,hi,rfl,HH,List.Perm.refl _,HU,Lib.hid (Fr.refl _ w)⟩
 case round=>
  obtain⟨R',rfl,qy,HL,HR,HP,HK,HF⟩:=hrel
  by_cases h0:gk=0
  ·subst h0
   go_wp2
   go_end0
   exact⟨rfl,R',HR.out,HP.out,Uv HK.out (.inl rfl),HF.out⟩
  ·have hpos:decide ((gk:Int)>0)=true:=decide_eq_true (by omega)
   obtain⟨p,hp⟩:∃p:Nat,p=(gk-1)/2:=⟨_,rfl⟩
   have hpi:((gk:Int)-1)/2=(p:Int):=by omega
   have hpl:p<gk:=by omega
   have HPP:=Lib.hid hp
   clear hp
   have hl:=HL.out
   obtain⟨x,hx⟩:∃x,R'[gk]?=some x:=⟨_,List.getElem?_eq_getElem (by omega)⟩
   obtain⟨y,hy⟩:∃y,R'[p]?=some y:=⟨_,List.getElem?_eq_getElem (by omega)⟩
   obtain⟨g,cap,rfl,hj1,hcap,hgb,hgl,hgB,a0,a1,a2,hfz⟩:=HR.out.drew.cells hx
   obtain⟨g',cap',e',hj2,_,_,_,_,b0,b1,b2,_⟩:=HR.out.drew.cells hy
   have eg:g'=g:=by simp at e';exact e'.1.symm
   rw[eg] at b0 b1 b2
   clear e' eg
   obtain⟨⟨x1,x2⟩,xc⟩:=x
   obtain⟨⟨y1,y2⟩,yc⟩:=y
   simp only at a0 a1 a2 b0 b1 b2
   have hbl:=bA HR.out.blk
   have hj3:p<R.length:=by omega
   have vx:VP o ((x1,x2),xc).1:=HR.out.vp _ (List.mem_of_getElem? hx)
   have vy:VP o ((y1,y2),yc).1:=HR.out.vp _ (List.mem_of_getElem? hy)
   have hst:Below wr.heap.size wr wr.drew/\wr.drew.cell? ⟨b,0,none⟩=some (.slice (some ⟨g,0,none⟩) R'.length cap)/\wr.drew.cell? ⟨b,1,none⟩=some (Al q)/\wr.drew.cell? ⟨g,gk*3,none⟩=some (.int .i64 x1)/\wr.drew.cell? ⟨g,gk*3+1,none⟩=some (.int .i64 x2)/\wr.drew.cell? ⟨g,gk*3+2,none⟩=some (.int .i64 xc)/\wr.drew.cell? ⟨g,p*3,none⟩=some (.int .i64 y1)/\wr.drew.cell? ⟨g,p*3+1,none⟩=some (.int .i64 y2)/\wr.drew.cell? ⟨g,p*3+2,none⟩=some (.int .i64 yc):=⟨(Below.refl _ _).drew,aj HR.out.drew.blk 0,aj HR.out.drew.blk 1,a0,a1,a2,b0,b1,b2⟩
   have hcall:∀U,Below wr.heap.size wr U->Calls Tryz.prog 116 #[.pointer (some ⟨q,0,none⟩),iv ((x1,x2),xc),iv ((y1,y2),yc)] U fun e w'=>e= .returned (.bool (qM o ((x1,x2),xc) ((y1,y2),yc)))/\Below U.heap.size U w':=fun U hU=>HB.out U _ _ (HF.out.below hU) vx vy
   go_wp2_with fail
   try rw[hpi]
   go_region_held3 (fun w'=>Below wr.heap.size wr w'/\w'.cell? ⟨b,0,none⟩=some (.slice (some ⟨g,0,none⟩) R'.length cap)/\w'.cell? ⟨b,1,none⟩=some (Al q)/\w'.cell? ⟨g,gk*3,none⟩=some (.int .i64 x1)/\w'.cell? ⟨g,gk*3+1,none⟩=some (.int .i64 x2)/\w'.cell? ⟨g,gk*3+2,none⟩=some (.int .i64 xc)/\w'.cell? ⟨g,p*3,none⟩=some (.int .i64 y1)/\w'.cell? ⟨g,p*3+1,none⟩=some (.int .i64 y2)/\w'.cell? ⟨g,p*3+2,none⟩=some (.int .i64 yc)) (first
    |exact hst
    |exact keepD (by assumption) (by assumption)) (first
    |(go_at_call 116;refine(hcall _ (And.left (by assumption:Below wr.heap.size wr _/\_))).mono ?_;rintro e w1 ⟨rfl,hB1⟩))
   have HB1:=Lib.hid (And.left (by assumption:Below wr.heap.size wr w1/\_))
   have HR1:=Lib.hid (HR.out.below HB1.out)
   have HX:=Lib.hid (And.intro hx hy)
   have HPI:=Lib.hid hpi
   clear hcall hst hx hy a0 a1 a2 b0 b1 b2
   cases hbt:qM o ((x1,x2),xc) ((y1,y2),yc) with
   |false=>
    go_wp2
    refine bodyPost_ret (results_none rfl _ _ _) rfl ?_
    refine⟨rfl,R',HR1.out,HP.out,Uv HK.out (.inr ?_),HF.out.below HB1.out⟩
    have e1:R'.getD gk d0=((x1,x2),xc):=by rw[List.getD_eq_getElem?_getD,HX.out.1,Option.getD_some]
    have e2:R'.getD ((gk-1)/2) d0=((y1,y2),yc):=by rw[<-HPP.out,List.getD_eq_getElem?_getD,HX.out.2,Option.getD_some]
    rw[e1,e2]
    unfold bt
    rw[hbt]
    simp
   |true=>
    have hr2:=HR1.out.drew
    obtain⟨g1,cap1,e1,_,_,_,hgl1,_,a0,a1,a2,hfz1⟩:=hr2.cells HX.out.1
    obtain⟨g2,cap2,e2,_,_,_,_,_,b0,b1,b2,_⟩:=hr2.cells HX.out.2
    have eg1:g1=g:=by simp at e1;exact e1.1.symm
    have eg2:g2=g:=by simp at e2;exact e2.1.symm
    subst eg1
    rw[eg2] at b0 b1 b2
    clear e1 e2 eg2
    simp only at a0 a1 a2 b0 b1 b2
    have cb0:w1.drew.cell? ⟨b,0,none⟩=some (.slice (some ⟨g1,0,none⟩) R'.length cap):=aj hr2.blk 0
    have hfz2:∀j,w1.frozen? ⟨g1,j,none⟩=false:=fun j=>hfz1 j
    have HS:=Lib.hid (lJ.swap HR1.out hgb HX.out.1 HX.out.2).drew
    clear hr2
    go_wp2_with fail
    go_region
    go_wp2
    go_roundg p
    case measure=>exact hpl
    case rel=>
     have hf:=Jk (HF.out.below HB1.out) (S:=xB b (.slice (some ⟨g1,0,none⟩) R'.length cap)) (g:=g1) (.inr rfl) (gk*3) (gk*3+1) (gk*3+2) (p*3) (p*3+1) (p*3+2) (.int .i64 y1) (.int .i64 y2) (.int .i64 yc) (.int .i64 x1) (.int .i64 x2) (.int .i64 xc)
     refine⟨(R'.set gk (R'.getD p d0)).set p (R'.getD gk d0),rfl,by omega,Lib.hid (by rw[List.length_set,List.length_set];exact HL.out),Lib.hid ?_,Lib.hid ((swap_perm R' d0 hj1 hj2).trans HP.out),Lib.hid ?_,Lib.hid hf⟩
     ·exact HS.out
     ·exact up_next HK.out HPP.out hpl HX.out.1 HX.out.2 hbt
end Go.Proofs.YtilpincgjlclpaaGreat.Ob
end
section
namespace Go.Proofs.YtilpincgjlclpaaGreat.Ob
open Go Go.RowKit Bs Mp jL Hp
open Tm (It bt qM ma)
structure Xb (o:List J) (R:List It) (i k b:Nat):Prop where
 is:b=i\/(2*i+1<=b/\b<k/\b<R.length)
 up:b=i\/bt o (R.getD b d0) (R.getD i d0)
 bst:∀c,(c=i\/(2*i+1<=c/\c<k/\c<R.length))->¬bt o (R.getD c d0) (R.getD b d0)
theorem Xb.start (o:List J) (R:List It) (i:Nat):Xb o R i (2*i+1) i:=
 ⟨.inl rfl,.inl rfl,fun c hc=>by
  rcases hc with rfl|hc
  ·exact fun g=>(ma o).asymm _ _ g g
  ·omega⟩
theorem Xb.on {o:List J} {R:List It} {i k b:Nat} (h:Xb o R i k b) (hk:2*i+1<=k) (hn:k<R.length):Xb o R i (k+1) (if qM o (R.getD k d0) (R.getD b d0)=true then k else b):=by
 have hO:=ma o
 have hO2:∀x y:It,qM o x y=true->bt o x y:=fun _ _ h=>h
 by_cases hb:qM o (R.getD k d0) (R.getD b d0)=true
 ·rw[if_pos hb]
  refine⟨.inr ⟨hk,by omega,hn⟩,.inr ?_,fun c hc=>?_⟩
  ·rcases h.up with e|hu
   ·rw[e] at hb;exact(hb:bt o _ _)
   ·exact Classical.byContradiction fun g=>hO.neg _ _ _ (hO.asymm _ _ hu) g hb
  ·by_cases e:c=k
   ·subst e;exact fun g=>hO.asymm _ _ g g
   ·exact hO.neg _ _ _ (hO.asymm _ _ hb) (h.bst c (by omega))
 ·rw[if_neg hb]
  refine⟨by have:=h.is;omega,h.up,fun c hc=>?_⟩
  by_cases e:c=k
  ·subst e;exact hb
  ·exact h.bst c (by omega)
theorem Xb.stop {o:List J} {R:List It} {lo i k:Nat} (h:Xb o R i k i) (hk:2*i+3<=k\/R.length<=k) (hd:Gp (bt o) (fun k=>R.getD k d0) lo R.length i):hp (bt o) (fun k=>R.getD k d0) lo R.length:=
 dn_stop hd fun c h0 hc hp=>h.bst c (.inr ⟨by omega,by omega,hc⟩)
theorem Xb.down {o:List J} {R:List It} {lo i k b:Nat} (h:Xb o R i k b) (hne:b≠i) (hkk:k<=2*i+3) (hk:2*i+3<=k\/R.length<=k) (hlo:lo<=i) (hd:Gp (bt o) (fun k=>R.getD k d0) lo R.length i):
  i<b/\b<R.length/\Gp (bt o) (fun k=>((R.set i (R.getD b d0)).set b (R.getD i d0)).getD k d0) lo ((R.set i (R.getD b d0)).set b (R.getD i d0)).length b:=by
 have hb:2*i+1<=b/\b<k/\b<R.length:=by
  rcases h.is with e|h1
  ·exact(hne e).elim
  ·exact h1
 refine⟨by omega,hb.2.2,?_⟩
 rw[List.length_set,List.length_set,Ha R d0 (by omega) hb.2.2]
 refine dn_step (ma o) hd hlo (by omega) hb.2.2 (by omega) ?_ fun c h0 hc hp=>h.bst c (.inr ⟨by omega,by omega,hc⟩)
 rcases h.up with e|hu
 ·exact(hne e).elim
 ·exact hu
section
variable {B b:Nat} {o:List J} {w w':World} {f:Value} {A:Option Addr} {M cap:Nat} {R:List It} {pu pe:Nat}
theorem lJ.AO (h:lJ B w b o f (.slice A M cap) R pu pe) (hM:R.length=M) {i:Nat} {x:It} (hi:R[i]?=some x):∃g,A=some ⟨g,0,none⟩/\i<M/\M<=cap/\g≠b/\g<w.heap.size/\B<=g/\
  w.cell? ⟨g,i*3,none⟩=some (.int .i64 x.1.1)/\w.cell? ⟨g,i*3+1,none⟩=some (.int .i64 x.1.2)/\w.cell? ⟨g,i*3+2,none⟩=some (.int .i64 x.2)/\∀j,w.frozen? ⟨g,j,none⟩=false:=by
 subst hM
 obtain⟨g,cap',e,r⟩:=h.cells hi
 injection e with e1 e2 e3
 subst e3
 exact⟨g,e1,r⟩
theorem rF {R:List It} {i:Nat} (h:i<R.length):R[i]?=some (R.getD i d0):=by rw[List.getD_eq_getElem?_getD,List.getElem?_eq_getElem h,Option.getD_some]
theorem lJ.swapM {g:Nat} {A:Option Addr} (hA:A=some ⟨g,0,none⟩) (h:lJ B w b o f (.slice A M cap) R pu pe) (hM:R.length=M) {i j:Nat} {x y:It} (hx:R[i]?=some x) (hy:R[j]?=some y) (hgb:g≠b):
  lJ B ((((((w.setCell ⟨g,i*3,none⟩ (.int .i64 y.1.1)).setCell ⟨g,i*3+1,none⟩ (.int .i64 y.1.2)).setCell ⟨g,i*3+2,none⟩ (.int .i64 y.2)).setCell ⟨g,j*3,none⟩ (.int .i64 x.1.1)).setCell ⟨g,j*3+1,none⟩ (.int .i64 x.1.2)).setCell ⟨g,j*3+2,none⟩ (.int .i64 x.2)) b o f (.slice (some ⟨g,0,none⟩) M cap) ((R.set i (R.getD j d0)).set j (R.getD i d0)) pu pe:=by
 subst hM hA
 exact h.swap hgb hx hy
end
set_option maxHeartbeats 4000000 in
set_option maxRecDepth 100000 in
theorem Ho {B b q:Nat} {w:World} {o:List J} {v:Value} {R:List It} {pu pe:Nat} (h:lJ B w b o (Al q) v R pu pe) (hb:Bet q o (xB b v) w) {lo i:Nat} (hi:i<=R.length) (hlo:lo<=i) (hu:Gp (bt o) (fun k=>R.getD k d0) lo R.length i) (hm:R.length<=1000000):
  Calls Tryz.prog 183 #[.pointer (some ⟨b,0,none⟩),.int .i64 (i:Int)] w fun e w'=>e= .returned (.tuple #[])/\∃R',lJ B w' b o (Al q) v R' pu pe/\R'.Perm R/\hp (bt o) (fun k=>R'.getD k d0) lo R'.length/\Fr (xB b v) w w':=by
 obtain⟨A,cap,rfl⟩:=Bs.bU h.own
 obtain⟨M,hM⟩:∃M,R.length=M:=⟨_,rfl⟩
 rw[hM] at h hb hm hi ⊢
 have HH:=Lib.hid h
 have HU:=Lib.hid hu
 have HB:=Lib.hid hb
 have HLO:=Lib.hid hlo
 have HM:=Lib.hid hM
 obtain⟨n,hn⟩:∃n,n=M-i:=⟨_,rfl⟩
 clear h hu hb hM hlo
 go_enter Tryz.func183,Tryz.ntmps183
 go_wp2_with fail
 try go_frame
 go_loopg [1] n (fun gk v1 wr=>∃(R':List It) (i':Nat),v1= .int .i64 (i':Int)/\i'<=M/\gk=M-i'/\Hid (lo<=i')/\Hid (R'.length=M)/\Hid (lJ B wr b o (Al q) (.slice A M cap) R' pu pe)/\Hid (R'.Perm R)/\Hid (Gp (bt o) (fun k=>R'.getD k d0) lo R'.length i')/\Hid (Fr (xB b (.slice A M cap)) w wr))
 case atStart=>exact⟨R,i,rfl,hi,hn,HLO,HM,HH,List.Perm.refl _,HU,Lib.hid (Fr.refl _ w)⟩
 case round=>
  obtain⟨R',i',rfl,hi',rfl,HL,HLen,HR,HP,HK,HF⟩:=hrel
  clear hn hi
  go_wp2_with fail
  try go_frame
  go_loopg [4,5] 2 (fun gk v4 v5 wr2=>∃(bb k:Nat),v4= .int .i64 (bb:Int)/\v5= .int .i64 (k:Int)/\k<=2*i'+3/\2*i'+1<=k/\gk=2*i'+3-k/\Hid (Xb o R' i' k bb)/\Hid (Below wr.heap.size wr wr2))
  case atStart=>exact⟨i',2*i'+1,rfl,by go_num,by omega,by omega,by omega,Lib.hid (Xb.start o R' i'),Lib.hid (Below.refl _ _)⟩
  case round=>
   obtain⟨bb,k,rfl,rfl,hk3,hk1,rfl,HBs,HW⟩:=hrel
   have HR2:=Lib.hid (HR.out.below HW.out)
   have IX:=Lib.hid (HF.out.below HW.out)
   have cb0:wr.cell? ⟨b,0,none⟩=some (.slice A M cap):=aj HR2.out.blk 0
   by_cases hk2:k<=2*i'+2
   ·have d1:decide ((k:Int)<=2*(i':Int)+2)=true:=decide_eq_true (by omega)
    by_cases hkM:k<M
    ·have d2:decide ((k:Int)<(M:Int))=true:=decide_eq_true (by omega)
     have hbM:bb<M:=by have:=HBs.out.is;have:=HLen.out;omega
     have hx:R'[k]?=some (R'.getD k d0):=rF (by have:=HLen.out;omega)
     have hy:R'[bb]?=some (R'.getD bb d0):=rF (by have:=HLen.out;omega)
     have HN:=Lib.hid (HBs.out.on (by omega) (by have:=HLen.out;omega))
     have vx:=HR2.out.vp _ (List.mem_of_getElem? hx)
     have vy:=HR2.out.vp _ (List.mem_of_getElem? hy)
     obtain⟨g,rfl,hj1,hcap,hgb,hgl,hgB,a0,a1,a2,hfz⟩:=HR2.out.drew.AO HLen.out hx
     obtain⟨g',e',hj2,_,_,_,_,b0,b1,b2,_⟩:=HR2.out.drew.AO HLen.out hy
     have eg:g'=g:=by simp at e';exact e'.symm
     rw[eg] at b0 b1 b2
     generalize R'.getD k d0=x at *
     generalize R'.getD bb d0=y at *
     clear e' eg hx hy
     obtain⟨⟨x1,x2⟩,xc⟩:=x
     obtain⟨⟨y1,y2⟩,yc⟩:=y
     simp only at a0 a1 a2 b0 b1 b2
     have hst:Below wr.heap.size wr wr.drew/\wr.drew.cell? ⟨b,0,none⟩=some (.slice (some ⟨g,0,none⟩) M cap)/\wr.drew.cell? ⟨b,1,none⟩=some (Al q)/\wr.drew.cell? ⟨g,k*3,none⟩=some (.int .i64 x1)/\wr.drew.cell? ⟨g,k*3+1,none⟩=some (.int .i64 x2)/\wr.drew.cell? ⟨g,k*3+2,none⟩=some (.int .i64 xc)/\wr.drew.cell? ⟨g,bb*3,none⟩=some (.int .i64 y1)/\wr.drew.cell? ⟨g,bb*3+1,none⟩=some (.int .i64 y2)/\wr.drew.cell? ⟨g,bb*3+2,none⟩=some (.int .i64 yc):=⟨(Below.refl _ _).drew,aj HR2.out.drew.blk 0,aj HR2.out.drew.blk 1,a0,a1,a2,b0,b1,b2⟩
     have hcall:∀U,Below wr.heap.size wr U->Calls Tryz.prog 116 #[.pointer (some ⟨q,0,none⟩),iv ((x1,x2),xc),iv ((y1,y2),yc)] U fun e w'=>e= .returned (.bool (qM o ((x1,x2),xc) ((y1,y2),yc)))/\Below U.heap.size U w':=fun U hU=>HB.out U _ _ (IX.out.below hU) vx vy
     go_wp2_with fail
     go_region_held3 (fun w'=>Below wr.heap.size wr w'/\w'.cell? ⟨b,0,none⟩=some (.slice (some ⟨g,0,none⟩) M cap)/\w'.cell? ⟨b,1,none⟩=some (Al q)/\w'.cell? ⟨g,k*3,none⟩=some (.int .i64 x1)/\w'.cell? ⟨g,k*3+1,none⟩=some (.int .i64 x2)/\w'.cell? ⟨g,k*3+2,none⟩=some (.int .i64 xc)/\w'.cell? ⟨g,bb*3,none⟩=some (.int .i64 y1)/\w'.cell? ⟨g,bb*3+1,none⟩=some (.int .i64 y2)/\w'.cell? ⟨g,bb*3+2,none⟩=some (.int .i64 yc)) (first
      |exact hst
      |exact keepD (by assumption) (by assumption)) (first
      |(go_at_call 116;refine(hcall _ (And.left (by assumption:Below wr.heap.size wr _/\_))).mono ?_;rintro e w1 ⟨rfl,hB1⟩))
     have HB1:=Lib.hid (HW.out.trans ((And.left (by assumption:Below wr.heap.size wr w1/\_)).mono HW.out.size))
     clear hcall hst a0 a1 a2 b0 b1 b2 cb0
     cases hbt:qM o ((x1,x2),xc) ((y1,y2),yc) with
     |false=>
      rw[hbt] at HN
      go_wp2
      go_roundg (2*i'+3-(k+1))
      case measure=>omega
      case rel=>exact⟨bb,k+1,rfl,by go_num,by omega,by omega,rfl,HN,HB1⟩
     |true=>
      rw[hbt] at HN
      go_wp2
      go_roundg (2*i'+3-(k+1))
      case measure=>omega
      case rel=>exact⟨k,k+1,rfl,by go_num,by omega,by omega,rfl,HN,HB1⟩
    ·have d2:decide ((k:Int)<(M:Int))=false:=decide_eq_false (by omega)
     by_cases hbi:bb=i'
     ·subst hbi
      go_wp2
      refine bodyPost_ret (results_none rfl _ _ _) rfl ?_
      exact⟨rfl,R',HR2.out,HP.out,HBs.out.stop (by have:=HLen.out;omega) HK.out,IX.out⟩
     ·have hd:decide ((bb:Int)=(i':Int))=false:=decide_eq_false (by omega)
      have HD:=Lib.hid (HBs.out.down hbi hk3 (by have:=HLen.out;omega) HL.out HK.out)
      have hib:i'<bb/\bb<M:=by have:=HD.out;have:=HLen.out;omega
      obtain⟨hib1,hib2⟩:=hib
      have hx:R'[i']?=some (R'.getD i' d0):=rF (by have:=HLen.out;omega)
      have hy:R'[bb]?=some (R'.getD bb d0):=rF (by have:=HLen.out;omega)
      have HS:Hid _:=Lib.hid (fun(g:Nat) (e:A=some ⟨g,0,none⟩)=>lJ.swapM e HR2.out HLen.out hx hy)
      obtain⟨g,rfl,hj1,hcap,hgb,hgl,hgB,a0,a1,a2,hfz⟩:=HR2.out.drew.AO HLen.out hx
      obtain⟨g',e',hj2,_,_,_,_,b0,b1,b2,_⟩:=HR2.out.drew.AO HLen.out hy
      have eg:g'=g:=by simp at e';exact e'.symm
      rw[eg] at b0 b1 b2
      have HPm:=Lib.hid (swap_perm R' d0 (i:=i') (j:=bb) (by have:=HLen.out;omega) (by have:=HLen.out;omega))
      generalize R'.getD i' d0=x at *
      generalize R'.getD bb d0=y at *
      clear e' eg hx hy
      obtain⟨⟨x1,x2⟩,xc⟩:=x
      obtain⟨⟨y1,y2⟩,yc⟩:=y
      simp only at a0 a1 a2 b0 b1 b2
      have cd0:wr.drew.cell? ⟨b,0,none⟩=some (.slice (some ⟨g,0,none⟩) M cap):=aj HR2.out.drew.blk 0
      have hfz2:∀j,wr.frozen? ⟨g,j,none⟩=false:=fun j=>hfz j
      have a0':wr.cell? ⟨g,i'*3,none⟩=some (.int .i64 x1):=a0
      have a1':wr.cell? ⟨g,i'*3+1,none⟩=some (.int .i64 x2):=a1
      have a2':wr.cell? ⟨g,i'*3+2,none⟩=some (.int .i64 xc):=a2
      have b0':wr.cell? ⟨g,bb*3,none⟩=some (.int .i64 y1):=b0
      have b1':wr.cell? ⟨g,bb*3+1,none⟩=some (.int .i64 y2):=b1
      have b2':wr.cell? ⟨g,bb*3+2,none⟩=some (.int .i64 yc):=b2
      clear hfz
      go_wp2_with fail
      go_region
      go_wp2
      go_roundg (M-bb)
      case measure=>omega
      case rel=>
       have hf:=Jk IX.out (S:=xB b (.slice (some ⟨g,0,none⟩) M cap)) (g:=g) (.inr rfl) (i'*3) (i'*3+1) (i'*3+2) (bb*3) (bb*3+1) (bb*3+2) (.int .i64 y1) (.int .i64 y2) (.int .i64 yc) (.int .i64 x1) (.int .i64 x2) (.int .i64 xc)
       exact⟨_,bb,rfl,by omega,rfl,Lib.hid (by have:=HL.out;omega),Lib.hid (by rw[List.length_set,List.length_set];exact HLen.out),Lib.hid (HS.out g rfl hgb).drew,Lib.hid (HPm.out.trans HP.out),Lib.hid HD.out.2.2,Lib.hid hf⟩
   ·have d1:decide ((k:Int)<=2*(i':Int)+2)=false:=decide_eq_false (by omega)
    by_cases hbi:bb=i'
    ·subst hbi
     go_wp2
     refine bodyPost_ret (results_none rfl _ _ _) rfl ?_
     exact⟨rfl,R',HR2.out,HP.out,HBs.out.stop (by have:=HLen.out;omega) HK.out,IX.out⟩
    ·have hd:decide ((bb:Int)=(i':Int))=false:=decide_eq_false (by omega)
     have HD:=Lib.hid (HBs.out.down hbi hk3 (by have:=HLen.out;omega) HL.out HK.out)
     have hib:i'<bb/\bb<M:=by have:=HD.out;have:=HLen.out;omega
     obtain⟨hib1,hib2⟩:=hib
     have hx:R'[i']?=some (R'.getD i' d0):=rF (by have:=HLen.out;omega)
     have hy:R'[bb]?=some (R'.getD bb d0):=rF (by have:=HLen.out;omega)
     have HS:Hid _:=Lib.hid (fun(g:Nat) (e:A=some ⟨g,0,none⟩)=>lJ.swapM e HR2.out HLen.out hx hy)
     obtain⟨g,rfl,hj1,hcap,hgb,hgl,hgB,a0,a1,a2,hfz⟩:=HR2.out.drew.AO HLen.out hx
     obtain⟨g',e',hj2,_,_,_,_,b0,b1,b2,_⟩:=HR2.out.drew.AO HLen.out hy
     have eg:g'=g:=by simp at e';exact e'.symm
     rw[eg] at b0 b1 b2
     have HPm:=Lib.hid (swap_perm R' d0 (i:=i') (j:=bb) (by have:=HLen.out;omega) (by have:=HLen.out;omega))
     generalize R'.getD i' d0=x at *
     generalize R'.getD bb d0=y at *
     clear e' eg hx hy
     obtain⟨⟨x1,x2⟩,xc⟩:=x
     obtain⟨⟨y1,y2⟩,yc⟩:=y
     simp only at a0 a1 a2 b0 b1 b2
     have cd0:wr.drew.cell? ⟨b,0,none⟩=some (.slice (some ⟨g,0,none⟩) M cap):=aj HR2.out.drew.blk 0
     have hfz2:∀j,wr.frozen? ⟨g,j,none⟩=false:=fun j=>hfz j
     have a0':wr.cell? ⟨g,i'*3,none⟩=some (.int .i64 x1):=a0
     have a1':wr.cell? ⟨g,i'*3+1,none⟩=some (.int .i64 x2):=a1
     have a2':wr.cell? ⟨g,i'*3+2,none⟩=some (.int .i64 xc):=a2
     have b0':wr.cell? ⟨g,bb*3,none⟩=some (.int .i64 y1):=b0
     have b1':wr.cell? ⟨g,bb*3+1,none⟩=some (.int .i64 y2):=b1
     have b2':wr.cell? ⟨g,bb*3+2,none⟩=some (.int .i64 yc):=b2
     clear hfz
     go_wp2_with fail
     go_region
     go_wp2
     go_roundg (M-bb)
     case measure=>omega
     case rel=>
      have hf:=Jk IX.out (S:=xB b (.slice (some ⟨g,0,none⟩) M cap)) (g:=g) (.inr rfl) (i'*3) (i'*3+1) (i'*3+2) (bb*3) (bb*3+1) (bb*3+2) (.int .i64 y1) (.int .i64 y2) (.int .i64 yc) (.int .i64 x1) (.int .i64 x2) (.int .i64 xc)
      exact⟨_,bb,rfl,by omega,rfl,Lib.hid (by have:=HL.out;omega),Lib.hid (by rw[List.length_set,List.length_set];exact HLen.out),Lib.hid (HS.out g rfl hgb).drew,Lib.hid (HPm.out.trans HP.out),Lib.hid HD.out.2.2,Lib.hid hf⟩
end Go.Proofs.YtilpincgjlclpaaGreat.Ob
end
section
namespace Go.Proofs.YtilpincgjlclpaaGreat.Ob
open Go Go.RowKit Bs Mp jL Hp
open Tm (It bt qM ma)
theorem Zi:(Tryz.prog.info? 162).map (fun i=>(i.zero,i.size,i.bytes))=some (some (.agg #[.int .i64 0,.int .i64 0,.int .i64 0]),3,24):=by kernel_rfl
theorem lJ.snoc {B b:Nat} {o:List J} {w1 Ua w2:World} {f v:Value} {R:List It} {pu pe gg cap:Nat} {x:It} (h:lJ B w1 b o f v R pu pe) (hU:Below w1.heap.size w1 Ua)
  (ho:w2.ownsRow B TI 3 (.slice (some ⟨gg,0,none⟩) (R.length+1) cap) (R.length+1) (rc (R.map c3)++[.int .i64 x.1.1,.int .i64 x.1.2,.int .i64 x.2])) (hg:Ua.grownBy w2 v.ownBlock) (hx:VP o x.1) {H:Nat} (hat:v.ownBlock=some gg\/gg=w1.heap.size+H):
  lJ B (w2.setCell ⟨b,0,none⟩ (.slice (some ⟨gg,0,none⟩) (R.length+1) cap)) b o f (.slice (some ⟨gg,0,none⟩) (R.length+1) cap) (R++[x]) pu pe:=by
 have hbl:=bA h.blk
 have hne:v.ownBlock≠some b:=Bs.own_ne h.own h.blk (show TH≠TI by decide)
 have hb2:w2.heap[b]?=_:=((hg.block b (Nat.lt_of_lt_of_le hbl hU.size) (fun e=>hne e.symm)).trans (hU.block b hbl)).trans h.blk
 have hgb:gg≠b:=fun e=>by
  rcases hat with h1|h1
  ·exact hne (by rw[h1,e])
  ·omega
 refine⟨h.lo,?_,?_,fun y hy=>?_⟩
 ·exact heap_set hb2 0 _
 ·have h3:=iq ho (p:=⟨b,0,none⟩) (by simp[Value.ownBlock];exact hgb) (.slice (some ⟨gg,0,none⟩) (R.length+1) cap)
  rw[List.map_append,List.length_append,show List.map c3 [x]=[c3 x] from rfl,KD]
  exact h3
 ·rcases List.mem_append.1 hy with hy|hy
  ·exact h.vp y hy
  ·rw[List.mem_singleton.1 hy];exact hx
theorem lJ.setPu {B b:Nat} {o:List J} {w:World} {f v:Value} {R:List It} {pu pe:Nat} (h:lJ B w b o f v R pu pe) (n:Nat):lJ B (w.setCell ⟨b,2,none⟩ (.int .i64 (n:Int))) b o f v R n pe:=
 ⟨h.lo,heap_set h.blk 2 _,iq h.own (p:=⟨b,2,none⟩) (Bs.own_ne h.own h.blk (show TH≠TI by decide)) _,h.vp⟩
theorem lJ.setPe {B b:Nat} {o:List J} {w:World} {f v:Value} {R:List It} {pu pe:Nat} (h:lJ B w b o f v R pu pe) (n:Nat):lJ B (w.setCell ⟨b,3,none⟩ (.int .i64 (n:Int))) b o f v R pu n:=
 ⟨h.lo,heap_set h.blk 3 _,iq h.own (p:=⟨b,3,none⟩) (Bs.own_ne h.own h.blk (show TH≠TI by decide)) _,h.vp⟩
theorem up_snoc {o:List J} {R:List It} (x:It) (h:hp (bt o) (fun k=>R.getD k d0) 0 R.length):MN (bt o) (fun k=>(R++[x]).getD k d0) (R++[x]).length R.length:=by
 have e:∀j,j<R.length->(R++[x]).getD j d0=R.getD j d0:=fun j hj=>by rw[List.getD_eq_getElem?_getD,List.getD_eq_getElem?_getD,List.getElem?_append_left hj]
 refine⟨fun j hj hn hne=>?_,fun h0 c hc hn hp=>?_⟩
 ·rw[List.length_append,List.length_singleton] at hn
  have h1:=h j hj (by omega) (by omega)
  simp only at h1 ⊢
  rw[e j (by omega),e ((j-1)/2) (by omega)]
  exact h1
 ·rw[List.length_append,List.length_singleton] at hn
  omega
theorem _root_.Go.World.ownsRow.below_ {w w':World} {B e sz n:Nat} {v:Value} {xs:List Value} (h:w.ownsRow B e sz v n xs) (hB:Below w.heap.size w w'):w'.drew.ownsRow B e sz v n xs:=
 ((Fr.dL (S:=fun _=>False) hB).drew).own h fun _ _ hf=>hf
set_option maxHeartbeats 2000000 in
set_option maxRecDepth 100000 in
theorem VB {B b q:Nat} {w:World} {o:List J} {v:Value} {R:List It} {pu pe:Nat} (h:lJ B w b o (Al q) v R pu pe) (hb:Bet q o (xB b v) w) (hu:hp (bt o) (fun k=>R.getD k d0) 0 R.length) {x:It} (hx:VP o x.1) (hm:R.length<1000000) (jA:pu<1000000000) (hpe:pe<=1000000000):
    Calls Tryz.prog 146 #[.pointer (some ⟨b,0,none⟩),iv x] w fun e w'=>e= .returned (.tuple #[])/\∃v' R',lJ B w' b o (Al q) v' R' (pu+1) (max pe (R.length+1))/\R'.Perm (x::R)/\hp (bt o) (fun k=>R'.getD k d0) 0 R'.length/\Fr (xB b v) w w'/\Into w (xB b v) (xB b v'):=by
  obtain⟨⟨x1,x2⟩,xc⟩:=x
  obtain⟨i0,hi0,hz0,hz1,hz2⟩:=info_parts Zi
  have hbl:=bA h.blk
  have hlo:=h.lo
  have h0:=h.below (gp w (.cells #[.int .i64 x1,.int .i64 x2,.int .i64 xc] 162))
  have hd:=AY h0
  have hxb:=bG w (.cells #[.int .i64 x1,.int .i64 x2,.int .i64 xc] 162)
  obtain⟨wa,wQ⟩:∃wa,wa=w.alloc (.cells #[.int .i64 x1,.int .i64 x2,.int .i64 xc] 162):=⟨_,rfl⟩
  have hBa:Below w.heap.size w wa:=by rw[wQ];exact gp _ _
  rw[<-wQ] at h0 hd hxb
  have HH:=Lib.hid h
  have HU:=Lib.hid hu
  have HB:=Lib.hid hb
  clear h hu hb
  go_enter Tryz.func146,Tryz.ntmps146
  go_wp2_with fail
  rw[<-wQ]
  clear wQ
  go_wp2_with (go_at_call 179;refine hd.mono ?_;rintro e w1 ⟨rfl,hB1⟩)
  have h1:=h0.below hB1
  have hb1:=(hB1.block w.heap.size (bA hxb)).trans hxb
  have hBw1:Below w.heap.size w w1:=hBa.trans (hB1.mono hBa.size)
  have hne:some b≠v.ownBlock:=fun e=>Bs.own_ne h1.own h1.blk (show TH≠TI by decide) e.symm
  have hnx:some w.heap.size≠v.ownBlock:=fun e=>by have:=(eG HH.out.own e.symm).2;omega
  have hbx:w.heap.size<w1.heap.size:=bA hb1
  have hst:w1.drew.cell? ⟨b,0,none⟩=some v/\w1.drew.cell? ⟨w.heap.size,0,none⟩=some (.int .i64 x1)/\w1.drew.cell? ⟨w.heap.size,1,none⟩=some (.int .i64 x2)/\w1.drew.cell? ⟨w.heap.size,2,none⟩=some (.int .i64 xc)/\w1.drew.frozen? ⟨b,0,none⟩=false:=⟨aj h1.blk 0,aj hb1 0,aj hb1 1,aj hb1 2,aX h1.blk 0⟩
  have HO:=Lib.hid h1.own
  have hb1l:b<w1.heap.size:=bA h1.blk
  have HX:=Lib.hid (And.intro h1 (And.intro hBw1 hBa))
  have hfb:=aX h1.blk 0
  clear hd hB1 h1 hb1 h0 hxb hBa
  obtain⟨k0,k1,k2,k3,k4⟩:=hst
  have k0':w1.cell? ⟨b,0,none⟩=some v:=k0
  have k1':w1.cell? ⟨w.heap.size,0,none⟩=some (.int .i64 x1):=k1
  have k2':w1.cell? ⟨w.heap.size,1,none⟩=some (.int .i64 x2):=k2
  have k3':w1.cell? ⟨w.heap.size,2,none⟩=some (.int .i64 xc):=k3
  go_region_law
    ((refine step_append_lies _ (by rfl) _ _ _ (by rfl) B TI i0 _ 3 24 Tryz.underlying255 hi0 hz0 hz1 hz2 rfl (by omega) v R.length (rc (R.map c3)) (by rfl) (((HO.out).below_ (gp _ _)))
        ⟨w1.heap.size,0,none⟩ 1 1 [.int .i64 x1,.int .i64 x2,.int .i64 xc] (by rfl) (by rfl) (World.news_of_block (cs:=#[.int .i64 x1,.int .i64 x2,.int .i64 xc]) (t:=TI) (fr:=(0,0)) (heap_alloc_new w1 _)) (by simp[Value.oneCell'])
        (by omega) (by unfold maxLen;omega) (by omega) (by simp;omega) (w1.heap.size+1) (by simp) ?_;intro gg cap w2 hown2 hgrow2 kL hlt2;have kb2:w2.cell? ⟨b,0,none⟩=some v:=(hgrow2.cell_far ⟨b,0,none⟩ (by simp;omega) hne).trans (((gp _ _).cell hb1l).trans k0);have kf2:w2.frozen? ⟨b,0,none⟩=false:=(hgrow2.frozen_far ⟨b,0,none⟩ (by simp;omega) hne).trans ((World.frozen?_of_block ((gp _ _).block b hb1l)).trans k4)))
  all_goals
    have h2:=lJ.snoc (x:=((x1,x2),xc)) HX.out.1 ((gp _ _).drew) hown2 hgrow2 hx kL
    have hf2:Fr (xB b v) w (w2.setCell ⟨b,0,none⟩ (.slice (some ⟨gg,0,none⟩) (R.length+1) cap)):=
      (((((Fr.dL (S:=xB b v) HX.out.2.1).alloc _).drew).grown hgrow2 (fun k e=> .inl (.inr e))).set (p:=⟨b,0,none⟩) (.inl (.inl rfl)) _)
    have hgg:v.ownBlock=some gg\/w.heap.size<=gg:=kL.imp id (fun e=>by have:=HX.out.2.1.size;omega)
    obtain⟨W2,hW2⟩:∃W2,W2=w2.setCell ⟨b,0,none⟩ (.slice (some ⟨gg,0,none⟩) (R.length+1) cap):=⟨_,rfl⟩
    rw[<-hW2] at h2 hf2 ⊢
    have c2:W2.cell? ⟨b,2,none⟩=some (.int .i64 (pu:Int)):=aj h2.blk 2
    have f2:W2.frozen? ⟨b,2,none⟩=false:=aX h2.blk 2
    clear hW2 hown2 hgrow2 kL hlt2 kb2 kf2 k0 k1 k2 k3 k4 k0' k1' k2' k3' hne hnx
    have H2:=Lib.hid (And.intro h2 (And.intro hf2 hgg))
    clear h2 hf2 hgg
    go_wp2_with fail
    have hl2:(R++[((x1,x2),xc)]).length=R.length+1:=by simp
    have h3:lJ B (W2.setCell ⟨b,2,none⟩ (.int .i64 ((pu+1:Nat):Int))) b o (Al q) (.slice (some ⟨gg,0,none⟩) (R.length+1) cap) (R++[((x1,x2),xc)]) (pu+1) pe:=H2.out.1.setPu _
    have e3:((pu+1:Nat):Int)=(pu:Int)+1:=by omega
    rw[e3] at h3
    have hf3:=H2.out.2.1.set (p:=⟨b,2,none⟩) (.inl (.inl rfl)) (.int .i64 ((pu:Int)+1))
    obtain⟨W3,hW3⟩:∃W3,W3=W2.setCell ⟨b,2,none⟩ (.int .i64 ((pu:Int)+1)):=⟨_,rfl⟩
    rw[<-hW3] at h3 hf3 ⊢
    have cp3:W3.cell? ⟨b,3,none⟩=some (.int .i64 (pe:Int)):=aj h3.blk 3
    have cv3:W3.cell? ⟨b,0,none⟩=some (.slice (some ⟨gg,0,none⟩) (R.length+1) cap):=aj h3.blk 0
    have fp3:W3.frozen? ⟨b,3,none⟩=false:=aX h3.blk 3
    have cp4:W3.drew.cell? ⟨b,3,none⟩=some (.int .i64 (pe:Int)):=aj h3.blk 3
    have cv4:W3.drew.cell? ⟨b,0,none⟩=some (.slice (some ⟨gg,0,none⟩) (R.length+1) cap):=aj h3.blk 0
    have fp4:W3.drew.frozen? ⟨b,3,none⟩=false:=aX h3.blk 3
    have H3:=Lib.hid (And.intro h3 hf3)
    clear h3 hf3 hW3 c2 f2 e3
    go_region
    have e4:((max pe (R.length+1):Nat):Int)=max (pe:Int) ((R.length:Int)+1):=by omega
    have h4:=(H3.out.1.setPe (max pe (R.length+1))).drew
    have JF:=(H3.out.2.set (p:=⟨b,3,none⟩) (.inl (.inl rfl)) (.int .i64 (max (pe:Int) ((R.length:Int)+1)))).drew
    rw[e4] at h4
    obtain⟨W4,Gm⟩:∃W4,W4=(W3.setCell ⟨b,3,none⟩ (.int .i64 (max (pe:Int) ((R.length:Int)+1)))).drew:=⟨_,rfl⟩
    rw[<-Gm] at h4 JF ⊢
    clear cp3 cv3 fp3 cp4 cv4 fp4 Gm e4
    have hin:∀i,xB b (.slice (some ⟨gg,0,none⟩) (R.length+1) cap) i->xB b v i\/w.heap.size<=i:=fun i hi=>by
      rcases hi with hi|hi
      · exact .inl (.inl hi)
      · have hi':gg=i:=by simpa[Value.ownBlock] using hi
        subst hi'
        exact H2.out.2.2.imp .inr id
    have hup:=heap_up h4 (HB.out.fr JF hin) (i:=R.length) (by omega) (up_snoc _ HU.out) (by omega)
    have cl4:W4.cell? ⟨b,0,none⟩=some (.slice (some ⟨gg,0,none⟩) (R.length+1) cap):=aj h4.blk 0
    have H4:=Lib.hid (And.intro JF hin)
    clear h4 JF hin
    go_wp2_with (go_at_call 180;refine hup.mono ?_;rintro e w5 ⟨rfl,R',hr1,hr2,hr3,hr4⟩;have HR5:=Lib.hid (And.intro hr1 (And.intro hr2 (And.intro hr3 hr4)));clear hr1 hr2 hr3 hr4)
    go_end0
    obtain⟨hr1,hr2,hr3,hr4⟩:=HR5.out
    exact⟨rfl,_,R',hr1,hr2.trans (List.perm_append_singleton _ _),hr3,H4.out.1.trans hr4 H4.out.2,H4.out.2⟩
end Go.Proofs.YtilpincgjlclpaaGreat.Ob
end
