import Derived.Laws.ResultCell
import Derived.Laws.Rows
import Derived.RangeFuncCalls
import Derived.RangeFuncKeeps
import Derived.Shelf.RegionOpen
import Derived.Test.YtilpincgjlclpaaGreatB23
set_option linter.unusedVariables false
set_option linter.unusedSimpArgs false
section
namespace Go.Proofs.YtilpincgjlclpaaGreat.Ob
open Go Go.RowKit Bs Mp jL
open Tm (It)
def oL (D:Nat) (W W':World):Prop:=W.heap.size<=W'.heap.size/\W'.heap[D]?=W.heap[D]?/\W'.heap[D+1]?=W.heap[D+1]?
def Vq (D:Nat) (I:World->Prop) (Ix:Code->World->Prop) (W:World):Exit->Act->World->Prop
 | .normal,_,W'=>oL D W W'/\I W'
 | .ret,_,W'=>oL D W W'/\Ix .ret W'
 | .exit id,_,W'=>oL D W W'/\Ix (.exit id) W'
 | .goto t,_,W'=>oL D W W'/\Ix (.goto t) W'
 | .panic _,_,_=>False
 | .outgrown,_,_=>False
def Off (l:Nat) (I:World->Prop):Prop:=∀(W:World) (o:Obj),l<W.heap.size->I W->I (W.putObj l o)
set_option maxRecDepth 100000 in
set_option maxHeartbeats 1000000 in
theorem wD {F:Fence} {n:Nat} {g:Operand} {ps:Array Tmp} {assign body:Code} {Q:Exit->Act->World->Prop} {a:Act} {w:World}
  (hro:F.round=none) (hn:2<=n) {Bm hb k0:Nat} (hg:a.eval g= .func (.func 150) #[] #[.pointer (some ⟨Bm,0,none⟩)]) (h1:F.fn 150) (h2:F.fn 151)
  (eg:∀args w,(callFunc 150 args).run Tryz.prog w= .ok (.enter 150 args) w)
  (hps:ps.size=1) (I:Nat->World->Prop) (I1:Nat->It->World->Prop) (Ix:Code->World->Prop) (Id:World->Prop)
  (hI:∀k,Off (w.heap.size+1) (I k)) (hI1:∀k x,Off (w.heap.size+1) (I1 k x)) (hIx:∀c,Off (w.heap.size+1) (Ix c)) (hId:Off (w.heap.size+1) Id)
  (hI1a:∀k x W o,I1 k x W->I1 k x (W.alloc o)) (hIda:∀W o,Id W->Id (W.alloc o))
  (h0:∀o,I k0 ((w.alloc (.deferred (some []))).alloc o))
  (hBm:∀k W,I k W->W.cell? ⟨Bm,0,none⟩=some (.pointer (some ⟨hb,0,none⟩)))
  (hP:∀k W,I k W->CallsIn F (n-1-1) Tryz.prog 151 #[.pointer (some ⟨hb,0,none⟩)] W fun e W'=>oL w.heap.size W W'/\((e= .returned (.tuple #[iv d0,.bool false])/\Id W')\/(∃x j,j<k/\e= .returned (.tuple #[iv x,.bool true])/\I1 j x W')))
  (A:Nat->It->Act->World->Prop) (hA:∀k x a',Off (w.heap.size+1) (A k x a'))
  (hassign:∀(l j:Nat) (x:It) (W:World),w.heap.size+1<W.heap.size->I1 j x W->
   assign.wpIn (F.inRound l) (n-1-1) Tryz.prog (Exit.then (fun a' W'=>oL w.heap.size W W'/\A j x a' W') (fun _ _ _=>False)) {tmps:=(ps.zip #[iv x]).foldl (fun t (p,v)=>t.setIfInBounds p v) a.tmps,defers:=[]} W)
  (hbody:∀(l j:Nat) (x:It) (a':Act) (W:World),w.heap.size+1<W.heap.size->A j x a' W->body.wpIn (F.inRound l) (n-1-1) Tryz.prog (Vq w.heap.size (I j) Ix W) a' W)
  (hdone:∀(D:Nat) (W:World),D=w.heap.size->Id W->W.heap[D]?=some (.deferred (some []))->Q .normal {a with defers:={target:= .collected D,args:=#[]}::a.defers} W)
  (hstop:∀(D:Nat) (c:Code) (W:World),D=w.heap.size->Ix c W->W.heap[D]?=some (.deferred (some []))->c.wpIn F n Tryz.prog Q {a with defers:={target:= .collected D,args:=#[]}::a.defers} W):
  (Code.rangeFunc g ps assign body).wpIn F n Tryz.prog Q a w:=by
 refine wpIn_rangeFunc ?_
 intro fn hfn
 rw[hro]
 obtain⟨rec,hrec⟩:∃rec:LoopState->Option Code->Loop,rec=fun st pe=>{state:=st,pending:=pe,fn,tmps:=a.tmps,params:=ps,assign,body,defers:=w.heap.size}:=⟨_,rfl⟩
 obtain⟨W1,hW1⟩:∃W1,(w.alloc (.deferred (some []))).alloc (.loop (rec .ready none))=W1:=⟨_,rfl⟩
 have hL1:W1.heap[w.heap.size+1]?=some (.loop (rec .ready none)):=by
  rw[<-hW1];have:=World.alloc_heap_new (w.alloc (.deferred (some []))) (.loop (rec .ready none));rwa[World.size_alloc] at this
 have hK1:W1.heap[w.heap.size]?=some (.deferred (some [])):=by
  rw[<-hW1];exact(Below.heap_alloc _ _ _ (by simp)).trans (World.alloc_heap_new w _)
 have hI0:I k0 W1:=by rw[<-hW1];exact h0 _
 refine⟨w.heap.size+1,[{target:= .collected w.heap.size,args:=#[]}],W1,{target:= .fn (.func 150) #[.pointer (some ⟨Bm,0,none⟩)],args:=#[.func (.yield (w.heap.size+1)) #[] #[]]},W1,150,
  #[.func (.yield (w.heap.size+1)) #[] #[]]++#[.pointer (some ⟨Bm,0,none⟩)],W1,?_,?_,?_,?_,fun _=>by omega,?_⟩
 ·rw[<-hW1,hrec];exact run_enterLoop_outer _ _ _ _ _
 ·simp only[resolve,hg]
  simp[go_sem]
 ·intro f' hf';simp[Target.leads] at hf';subst hf';exact h1
 ·simp[invoke,go_sem,eg]
 ·have lz:∀{W:World},W.heap[w.heap.size+1]?=some (.loop (rec .ready none))->w.heap.size+1<W.heap.size:=fun h=>(Array.getElem?_eq_some_iff.1 h).1
  refine(Vp F (n-1) h1 h2 hro (by omega) (w.heap.size+1) Bm hb
   (fun k W=>I k W/\W.heap[w.heap.size+1]?=some (.loop (rec .ready none))/\W.heap[w.heap.size]?=some (.deferred (some [])))
   (fun k x W=>I1 k x W/\W.heap[w.heap.size+1]?=some (.loop (rec .ready none))/\W.heap[w.heap.size]?=some (.deferred (some [])))
   (fun W=>∃c,Ix c W/\W.heap[w.heap.size+1]?=some (.loop (rec .done (some c)))/\W.heap[w.heap.size]?=some (.deferred (some [])))
   (fun W=>Id W/\W.heap[w.heap.size+1]?=some (.loop (rec .ready none))/\W.heap[w.heap.size]?=some (.deferred (some [])))
   (fun k W h=>hBm k W h.1) ?_ ?_ ?_ ?_ k0 W1 ⟨hI0,hL1,hK1⟩).mono ?_
  ·rintro k W ⟨hi,hl,hk⟩
   refine(hP k W hi).mono ?_
   rintro e W' ⟨⟨_,k1,k2⟩,(⟨he,hd⟩|⟨x,j,hj,he,h1⟩)⟩
   ·exact .inl ⟨he,hd,k2.trans hl,k1.trans hk⟩
   ·exact .inr ⟨x,j,hj,he,h1,k2.trans hl,k1.trans hk⟩
  ·rintro k x W o ⟨hi,hl,hk⟩
   exact⟨hI1a k x W o hi,(Below.heap_alloc W o _ (lz hl)).trans hl,(Below.heap_alloc W o _ (by have:=lz hl;omega)).trans hk⟩
  ·rintro W o ⟨hi,hl,hk⟩
   exact⟨hIda W o hi,(Below.heap_alloc W o _ (lz hl)).trans hl,(Below.heap_alloc W o _ (by have:=lz hl;omega)).trans hk⟩
  ·rintro j x W ⟨hi,hl,hk⟩
   have hlt:=lz hl
   have hy:=run_yield (P:=Tryz.prog) (args:=#[iv x]) hl (by rw[hrec];simp[hps])
   rw[hrec] at hy
   refine⟨fn,_,assign,body,hy,roundIn_of_wpIn hfn (wpIn_mono (hassign _ j x W hlt hi) ?_)⟩
   rintro e0 a' W0 hp0
   cases e0 with
   |normal=>?_
   |exit id=>exact hp0.elim
   |goto t=>exact hp0.elim
   |ret=>exact hp0.elim
   |panic ch=>exact hp0.elim
   |outgrown=>exact hp0.elim
   obtain⟨⟨s0,t0,u0⟩,hi⟩:=hp0
   replace hl:=u0.trans hl
   replace hk:=t0.trans hk
   replace hlt:=Nat.lt_of_lt_of_le hlt s0
   refine⟨_,run_beginRound hl (by rw[hrec]),?_⟩
   clear hy s0 t0 u0
   generalize W0=W at *
   have hl2:(W.putObj (w.heap.size+1) (.loop {rec .ready none with state:= .busy})).heap[w.heap.size+1]?=some (.loop {rec .ready none with state:= .busy}):=World.putObj_heap_same hlt
   have hk2:(W.putObj (w.heap.size+1) (.loop {rec .ready none with state:= .busy})).heap[w.heap.size]?=some (.deferred (some [])):=(World.putObj_heap_other (by omega)).trans hk
   refine wpIn_mono (hbody _ j x a' _ (Array.getElem?_eq_some_iff.1 hl2).1 (hA j x a' W _ hlt hi)) ?_
   have fin:∀(jump:Option Code) (W3:World),oL w.heap.size (W.putObj (w.heap.size+1) (.loop {rec .ready none with state:= .busy})) W3->
     (Instr.endRound (w.heap.size+1) jump).run Tryz.prog W3= .ok (.bool jump.isNone) (W3.putObj (w.heap.size+1) (.loop (rec (if jump.isNone then .ready else .done) jump)))/\
     w.heap.size+1<W3.heap.size/\
     (W3.putObj (w.heap.size+1) (.loop (rec (if jump.isNone then .ready else .done) jump))).heap[w.heap.size+1]?=some (.loop (rec (if jump.isNone then .ready else .done) jump))/\
     (W3.putObj (w.heap.size+1) (.loop (rec (if jump.isNone then .ready else .done) jump))).heap[w.heap.size]?=some (.deferred (some [])):=fun jump W3 hk3=>by
    have hl3:=hk3.2.2.trans hl2
    have:=run_endRound (P:=Tryz.prog) jump hl3
    rw[hrec] at this ⊢
    have hlt3:=(Array.getElem?_eq_some_iff.1 hl3).1
    exact⟨this,hlt3,World.putObj_heap_same hlt3,(World.putObj_heap_other (by omega)).trans (hk3.2.1.trans hk2)⟩
   rintro e a3 W3 hp
   cases e with
   |normal=>
    obtain⟨hk3,hi3⟩:=hp
    obtain⟨hr,hl3,hl4,hk4⟩:=fin none W3 hk3
    exact⟨_,_,hr,.inl ⟨rfl,hI _ _ _ hl3 hi3,hl4,hk4⟩⟩
   |ret=>
    obtain⟨hk3,hi3⟩:=hp
    obtain⟨hr,hl3,hl4,hk4⟩:=fin (some .ret) W3 hk3
    exact⟨_,_,hr,.inr ⟨rfl,.ret,hIx _ _ _ hl3 hi3,hl4,hk4⟩⟩
   |exit id=>
    obtain⟨hk3,hi3⟩:=hp
    obtain⟨hr,hl3,hl4,hk4⟩:=fin (some (.exit id)) W3 hk3
    exact⟨_,_,hr,.inr ⟨rfl,.exit id,hIx _ _ _ hl3 hi3,hl4,hk4⟩⟩
   |goto t=>
    obtain⟨hk3,hi3⟩:=hp
    obtain⟨hr,hl3,hl4,hk4⟩:=fin (some (.goto t)) W3 hk3
    exact⟨_,_,hr,.inr ⟨rfl,.goto t,hIx _ _ _ hl3 hi3,hl4,hk4⟩⟩
   |panic ch=>exact hp.elim
   |outgrown=>exact hp.elim
  ·rintro e W2 ⟨⟨v,rfl⟩,(⟨hi,hl,hk⟩|⟨c,hi,hl,hk⟩)⟩
   ·exact⟨none,_,by have:=run_endLoop (P:=Tryz.prog) hl (by rw[hrec];simp);rw[hrec] at this;exact this,hdone _ _ rfl (hId _ _ (lz hl) hi) ((World.putObj_heap_other (by omega)).trans hk)⟩
   ·exact⟨some c,_,by have:=run_endLoop (P:=Tryz.prog) hl (by rw[hrec];simp);rw[hrec] at this;exact this,hstop _ c _ rfl (hIx c _ _ (Array.getElem?_eq_some_iff.1 hl).1 hi) ((World.putObj_heap_other (by omega)).trans hk)⟩
end Go.Proofs.YtilpincgjlclpaaGreat.Ob
end
section
namespace Go.Proofs.YtilpincgjlclpaaGreat.Ob
open Go Go.RowKit Go.Shelf Bs Mp jL
open Tm (It St lI jd)
attribute [local go_sem] Oper.semAt_some
set_option maxHeartbeats 1000000 in
theorem Yi (F:Fence) (n:Nat) (h1:F.fn 120) (hro:F.round=none) (hb:Nat) (w:World):
  CallsIn F n Tryz.prog 120 #[.pointer (some ⟨hb,0,none⟩)] w fun e w'=>e= .returned (.func (.func 150) #[] #[.pointer (some ⟨w.heap.size,0,none⟩)])/\w'=w.alloc (.cells #[.pointer (some ⟨hb,0,none⟩)] 208):=by
 refine callsIn_of_wp Tryz.func120 rfl h1 ?_ hro
 simp only[Tryz.ntmps120,List.size_toArray,List.length_cons,List.length_nil,Nat.reduceAdd,Nat.reduceSub,Array.replicate_succ,Array.replicate_zero,List.push_toArray,List.append_toArray,List.nil_append,List.cons_append]
 gi_wp2
 go_ret
 exact⟨rfl,rfl⟩
end Go.Proofs.YtilpincgjlclpaaGreat.Ob
end
section
namespace Go.Proofs.YtilpincgjlclpaaGreat.Ob
open Go Go.RowKit Go.Shelf Bs Mp jL Hp
open Tm (It St lI jd bt qM top Ak)
theorem Zy (ix:Nat) (W:World):(binOp BinOp.eql 158 (.func (.func 86) #[.pointer (some ⟨ix,0,none⟩)] #[]) .nilFunc).run Tryz.prog W= .ok (.bool false) W:=by kernel_rfl
theorem Vt (W:World) (l:Nat) (o:Obj):Fr (fun k=>k=l) W (W.putObj l o):=⟨rfl,rfl,rfl,by simp,fun k _ hn=>World.putObj_heap_other hn⟩
def CntAt (ix:Nat) (o:List J) (f:P2->Int) (S:Nat->Prop) (w:World):Prop:=∀(W:World) (p:P2),Fr S w W->VP o p->
 Calls Tryz.prog 86 #[.pointer (some ⟨ix,0,none⟩),pv p] W fun e w'=>e= .returned (.int .i64 (f p))/\Below W.heap.size W w'
abbrev MI (ix:Nat):Value:= .func (.func 86) #[.pointer (some ⟨ix,0,none⟩)] #[]
abbrev Bb (x:It):Array Value:=#[.int .i64 x.1.1,.int .i64 x.1.2,.int .i64 x.2]
def IBox (W:World) (g:Nat) (x:It):Prop:=W.heap[g]?=some (.cells (Bb x) TI (0,0))
section
variable {B b tb hb kb ix jA hpe n:Nat} {v0:Value} {w0 W W':World} {s:St} {kn H R:List It} {po:Nat} {x:It} {c:Bool} {T:Nat->Prop}
structure lL (B b tb hb kb ix jA hpe n:Nat) (v0:Value) (w0:World) (s:St) (W:World) (kn H:List It) (po:Nat) (x:It) (c:Bool):Prop where
 q:∃v R,oM B W b tb hb kb v s.o kn H R s.pu po s.pe s.re jA hpe n/\v.ownBlock=v0.ownBlock
 lt:∀k,yD b hb kb v0 k->k<w0.heap.size
 b0:W.heap[w0.heap.size]?=some (.cells #[.pointer (some ⟨b,0,none⟩)] 151 (0,0))
 b1:W.heap[w0.heap.size+1]?=some (.cells #[MI ix] 158 (0,0))
 b2:W.heap[w0.heap.size+2]?=some (.cells (Bb x) TI (0,0))
 b3:W.heap[w0.heap.size+3]?=some (.cells #[.bool c] 4 (0,0))
 b4:W.heap[w0.heap.size+4]?=some (.cells #[.pointer (some ⟨hb,0,none⟩)] 208 (0,0))
 fr:Fr (yD b hb kb v0) w0 W
 big:w0.heap.size+7<=W.heap.size
theorem lL.keep (h:lL B b tb hb kb ix jA hpe n v0 w0 s W kn H po x c) (f:Fr T W W') (hT:∀k,T k->w0.heap.size+5<=k):lL B b tb hb kb ix jA hpe n v0 w0 s W' kn H po x c:=by
 obtain⟨⟨v,R,hq,hv⟩,lt,b0,b1,b2,b3,b4,fr,big⟩:=h
 refine⟨⟨v,R,hq.same fun k hk=>f.blk k (hq.oq k hk).2 (fun ht=>?_),hv⟩,lt,f.heap b0 ?_,f.heap b1 ?_,f.heap b2 ?_,f.heap b3 ?_,f.heap b4 ?_,fr.trans f (fun i hi=> .inr (by have:=hT i hi;omega)),Nat.le_trans big f.size⟩
 ·have h1:=hT k ht
  have h2:=lt k (by unfold yD at hk ⊢;rw[hv] at hk;exact hk)
  omega
 all_goals
  intro ht
  have:=hT _ ht
  omega
theorem lL.alloc (h:lL B b tb hb kb ix jA hpe n v0 w0 s W kn H po x c) (o:Obj):lL B b tb hb kb ix jA hpe n v0 w0 s (W.alloc o) kn H po x c:=
 h.keep (T:=fun _=>False) (Fr.dL ((Below.refl _ W).alloc (Nat.le_refl _) o)) (fun _ h=>h.elim)
theorem lL.below (h:lL B b tb hb kb ix jA hpe n v0 w0 s W kn H po x c) (f:Below W.heap.size W W'):lL B b tb hb kb ix jA hpe n v0 w0 s W' kn H po x c:=
 h.keep (T:=fun _=>False) (Fr.dL f) (fun _ h=>h.elim)
theorem lL.drew (h:lL B b tb hb kb ix jA hpe n v0 w0 s W kn H po x c):lL B b tb hb kb ix jA hpe n v0 w0 s W.drew kn H po x c:=
 h.keep (T:=fun _=>False) (Fr.refl _ W).drew (fun _ h=>h.elim)
theorem lL.putObj (h:lL B b tb hb kb ix jA hpe n v0 w0 s W kn H po x c) {l:Nat} (hl:w0.heap.size+5<=l) (o:Obj):lL B b tb hb kb ix jA hpe n v0 w0 s (W.putObj l o) kn H po x c:=
 h.keep (Vt W l o) (fun k hk=>by omega)
theorem lL.two (h:lL B b tb hb kb ix jA hpe n v0 w0 s W kn H po x c) (f:Fr T W W') (hT:∀k,T k->k<w0.heap.size+5):oL (w0.heap.size+5) W W':=
 ⟨f.size,f.blk _ (by have:=h.big;omega) (fun e=>by have:=hT _ e;omega),f.blk _ (by have:=h.big;omega) (fun e=>by have:=hT _ e;omega)⟩
theorem lL.turn {kn' H':List It} {po':Nat} (h:lL B b tb hb kb ix jA hpe n v0 w0 s W kn H po x c) (f:Fr T W W') (hT:∀k,T k->yD b hb kb v0 k) (hq:∃v R,oM B W' b tb hb kb v s.o kn' H' R s.pu po' s.pe s.re jA hpe n/\v.ownBlock=v0.ownBlock):lL B b tb hb kb ix jA hpe n v0 w0 s W' kn' H' po' x c:=by
 have hlt:∀k,T k->k<w0.heap.size:=fun k hk=>h.lt k (hT k hk)
 refine⟨hq,h.lt,f.heap h.b0 ?_,f.heap h.b1 ?_,f.heap h.b2 ?_,f.heap h.b3 ?_,f.heap h.b4 ?_,h.fr.trans f (fun i hi=> .inl (hT i hi)),Nat.le_trans h.big f.size⟩
 all_goals
  intro ht
  have:=hlt _ ht
  omega
theorem lL.pop1 (h:lL B b tb hb kb ix jA hpe n v0 w0 s W kn H po x c) (hn:H.length+(po+1)<=n):lL B b tb hb kb ix jA hpe n v0 w0 s (W.setCell ⟨b,6,none⟩ (.int .i64 ((po:Int)+1))) kn H (po+1) x c:=by
 obtain⟨v,R,hq,hv⟩:=h.q
 have hb:=hq.bnd
 refine h.turn (T:=fun k=>k=b) ((Fr.refl (fun k=>k=b) W).set (p:=⟨b,6,none⟩) (.inl rfl) _) (fun k hk=> .inl hk) ⟨v,R,hq.num ?_ (by omega),hv⟩
 simp[qcs]
theorem lL.found (h:lL B b tb hb kb ix jA hpe n v0 w0 s W kn H po d0 false) (y:It):lL B b tb hb kb ix jA hpe n v0 w0 s ((((W.setCell ⟨w0.heap.size+1+1,0,none⟩ (.int .i64 y.1.1)).setCell ⟨w0.heap.size+1+1,1,none⟩ (.int .i64 y.1.2)).setCell ⟨w0.heap.size+1+1,2,none⟩ (.int .i64 y.2)).setCell ⟨w0.heap.size+1+1+1,0,none⟩ (.bool true)) kn H po y true:=by
 obtain⟨⟨v,R,hq,hv⟩,lt,b0,b1,b2,b3,b4,fr,big⟩:=h
 have hF:Fr (fun k=>k=w0.heap.size+1+1\/k=w0.heap.size+1+1+1) W ((((W.setCell ⟨w0.heap.size+1+1,0,none⟩ (.int .i64 y.1.1)).setCell ⟨w0.heap.size+1+1,1,none⟩ (.int .i64 y.1.2)).setCell ⟨w0.heap.size+1+1,2,none⟩ (.int .i64 y.2)).setCell ⟨w0.heap.size+1+1+1,0,none⟩ (.bool true)):=
  ((((Fr.refl _ W).set (.inl (.inl rfl)) _).set (.inl (.inl rfl)) _).set (.inl (.inl rfl)) _).set (.inl (.inr rfl)) _
 refine⟨⟨v,R,hq.same fun k hk=>hF.blk k (hq.oq k hk).2 (fun ht=>?_),hv⟩,lt,hF.heap b0 (by omega),hF.heap b1 (by omega),?_,?_,hF.heap b4 (by omega),fr.trans hF (fun i hi=> .inr (by omega)),Nat.le_trans big hF.size⟩
 ·have h2:=lt k (by unfold yD at hk ⊢;rw[hv] at hk;exact hk)
  omega
 ·exact dI (heap_set (heap_set (heap_set b2 0 _) 1 _) 2 _) (by simp) _
 ·exact heap_set (dI (dI (dI b3 (by simp) _) (by simp) _) (by simp) _) 0 _
theorem lL.zero (h:lL B b tb hb kb ix jA hpe n v0 w0 s W kn H po d0 false):lL B b tb hb kb ix jA hpe n v0 w0 s ((((W.setCell ⟨w0.heap.size+1+1,0,none⟩ (.int .i64 0)).setCell ⟨w0.heap.size+1+1,1,none⟩ (.int .i64 0)).setCell ⟨w0.heap.size+1+1,2,none⟩ (.int .i64 0)).setCell ⟨w0.heap.size+1+1+1,0,none⟩ (.bool false)) kn H po d0 false:=by
 obtain⟨⟨v,R,hq,hv⟩,lt,b0,b1,b2,b3,b4,fr,big⟩:=h
 have hF:Fr (fun k=>k=w0.heap.size+1+1\/k=w0.heap.size+1+1+1) W ((((W.setCell ⟨w0.heap.size+1+1,0,none⟩ (.int .i64 0)).setCell ⟨w0.heap.size+1+1,1,none⟩ (.int .i64 0)).setCell ⟨w0.heap.size+1+1,2,none⟩ (.int .i64 0)).setCell ⟨w0.heap.size+1+1+1,0,none⟩ (.bool false)):=
  ((((Fr.refl _ W).set (.inl (.inl rfl)) _).set (.inl (.inl rfl)) _).set (.inl (.inl rfl)) _).set (.inl (.inr rfl)) _
 refine⟨⟨v,R,hq.same fun k hk=>hF.blk k (hq.oq k hk).2 (fun ht=>?_),hv⟩,lt,hF.heap b0 (by omega),hF.heap b1 (by omega),?_,?_,hF.heap b4 (by omega),fr.trans hF (fun i hi=> .inr (by omega)),Nat.le_trans big hF.size⟩
 ·have h2:=lt k (by unfold yD at hk ⊢;rw[hv] at hk;exact hk)
  omega
 ·exact dI (heap_set (heap_set (heap_set b2 0 _) 1 _) 2 _) (by simp) _
 ·exact heap_set (dI (dI (dI b3 (by simp) _) (by simp) _) (by simp) _) 0 _
theorem ZX {f:P2->Int} {k:Nat} (ht:top s.o H=some x) (e:x.2=f x.1):jd f (k+1) {s with H:=H,po:=po}=({s with H:=H.erase x,po:=po+1,kn:=Mp.del s.kn x.1},some x):=by
 rw[jd]
 simp only[ht,if_pos e]
theorem VT {f:P2->Int} {k:Nat} (ht:top s.o H=some x) (e:x.2≠f x.1):jd f (k+1) {s with H:=H,po:=po}=jd f k {s with H:=H.erase x,po:=po+1}:=by
 rw[jd]
 simp only[ht,if_neg e]
theorem oM.popped {v v1:Value} {o:List J} {pu pe re:Nat} {R1:List It} (h:oM B W b tb hb kb v o kn H (x::R) pu po pe re jA hpe n) (hR:lJ B W' hb o (Al b) v1 R1 jA hpe) (hP:R1.Perm R) (ho:hp (bt o) (fun k=>R1.getD k d0) 0 R1.length) (hF:Fr (xB hb v) W W'):oM B W' b tb hb kb v1 o kn (H.erase x) R1 pu po pe re jA hpe n:=by
 obtain⟨n1,n2,n3,n4,n5,n6⟩:=h.ne
 have hm:x∈H:=h.per.mem_iff.1 (by simp)
 have hl:(H.erase x).length<=H.length:=by rw[List.length_erase_of_mem hm];omega
 have hp2:R.Perm (H.erase x):=by
  have:=h.per.erase x
  rwa[List.erase_cons_head] at this
 refine⟨h.lo,h.klo,hF.heap h.blk ?_,h.Gc.same (hF.blk kb h.Gc.lt ?_),h.WQ,hR,ho,hP.trans hp2,by have:=h.bnd;omega⟩
 ·rintro(e|e)
  ·exact n1 e
  ·exact n4 e
 ·rintro(e|e)
  ·exact n3 e.symm
  ·exact n6 e
theorem oM.DF {v:Value} {o:List J} {pu pe re:Nat} (hi:Ak o) (h:oM B W b tb hb kb v o kn H (x::R) pu po pe re jA hpe n):top o H=some x:=by
 have hm:x∈H:=h.per.mem_iff.1 (by simp)
 refine Tm.top_eq hi (fun y hy=>h.hpr.vp y (h.per.mem_iff.2 hy)) hm fun y hy=>?_
 obtain⟨j,hj,rfl⟩:=List.getElem_of_mem (h.per.mem_iff.2 hy)
 have e1:(x::R).getD j d0=(x::R)[j]:=by rw[List.getD_eq_getElem?_getD,List.getElem?_eq_getElem hj];rfl
 have h2:¬bt o ((x::R).getD j d0) x:=hp_best (Tm.ma o) h.ord j hj
 rwa[e1] at h2
def PopI (B b tb hb kb ix jA hpe n:Nat) (v0:Value) (w0:World) (s:St) (f:P2->Int) (k:Nat) (W:World):Prop:=
 ∃H po,lL B b tb hb kb ix jA hpe n v0 w0 s W s.kn H po d0 false/\H.length=k/\jd f (k+1) {s with H:=H,po:=po}=jd f (s.H.length+1) s
def XB (B b tb hb kb ix jA hpe n:Nat) (v0:Value) (w0:World) (s:St) (f:P2->Int) (j:Nat) (x:It) (W:World):Prop:=
 ∃H po,lL B b tb hb kb ix jA hpe n v0 w0 s W s.kn (H.erase x) po d0 false/\H.length=j+1/\po+H.length<=n/\VP s.o x.1/\top s.o H=some x/\jd f (j+1+1) {s with H:=H,po:=po}=jd f (s.H.length+1) s
def PopX (B b tb hb kb ix jA hpe n:Nat) (v0:Value) (w0:World) (s:St) (f:P2->Int) (W:World):Prop:=
 ∃kn H po x,lL B b tb hb kb ix jA hpe n v0 w0 s W kn H po x true/\jd f (s.H.length+1) s=({s with kn:=kn,H:=H,po:=po},some x)
def PopD (B b tb hb kb ix jA hpe n:Nat) (v0:Value) (w0:World) (s:St) (f:P2->Int) (W:World):Prop:=
 ∃po,lL B b tb hb kb ix jA hpe n v0 w0 s W s.kn [] po d0 false/\jd f (s.H.length+1) s=({s with H:=[],po:=po},none)
theorem ZW {Bt:Nat} {So:Nat->Prop} {f:P2->Int} {k:Nat} (hS:Sym Bt w0 tb s.o So) (hsep:Sep (yD b hb kb v0) So) (hinj:Ak s.o) (hl:s.o.length<=1000000) (hn:n<100000)
  (h:PopI B b tb hb kb ix jA hpe n v0 w0 s f k W):Calls Tryz.prog 151 #[.pointer (some ⟨hb,0,none⟩)] W fun e W'=>oL (w0.heap.size+5) W W'/\
   ((e= .returned (.tuple #[iv d0,.bool false])/\PopD B b tb hb kb ix jA hpe n v0 w0 s f W')\/(∃x j,j<k/\e= .returned (.tuple #[iv x,.bool true])/\XB B b tb hb kb ix jA hpe n v0 w0 s f j x W')):=by
 obtain⟨H,po,hp0,hk,he⟩:=h
 obtain⟨v,R,hq,hv⟩:=hp0.q
 have hbnd:=hq.bnd
 have hlen:=hq.per.length_eq
 have hfq:∀k,yD b hb kb v k->yD b hb kb v0 k:=fun k hk=>by unfold yD at hk ⊢;rw[<-hv];exact hk
 cases R with
 |nil=>
  have hH:H=[]:=List.length_eq_zero_iff.1 (by rw[<-hlen];rfl)
  subst hH
  simp only[List.length_nil] at hk
  subst hk
  refine(JC hq.hpr).mono ?_
  rintro e W' ⟨rfl,hB⟩
  refine⟨hp0.two (T:=fun _=>False) (Fr.dL hB) (fun _ h=>h.elim),.inl ⟨rfl,po,hp0.below hB,?_⟩⟩
  rw[<-he]
  rfl
 |cons x R=>
  have hSW:Sym Bt W tb s.o So:=hS.fr hp0.fr hsep
  obtain⟨n1,n2,n3,n4,n5,n6⟩:=hq.ne
  have hsub:∀k,xB hb v k->yD b hb kb v k:=fun k hk=>by
   rcases hk with hk|hk
   ·exact .inr (.inl hk)
   ·exact .inr (.inr (.inr hk))
  have hbt:=Pt (T:=xB hb v) hSW hl (aj hq.blk 0) (hsep.sub fun k hk=>hfq k (hsub k hk)) (by rintro(e|e);exact n1 e;exact n4 e)
  refine(YU hq.hpr hbt hq.ord (by rw[List.length_cons] at hlen;omega)).mono ?_
  rintro e W' ⟨rfl,v1,R1,hr1,hp1,ho1,hf1,hv1⟩
  have hm:x∈H:=hq.per.mem_iff.1 (by simp)
  have hpos:=List.length_pos_of_mem hm
  obtain⟨j,hj⟩:∃j,H.length=j+1:=⟨H.length-1,by omega⟩
  have hlt2:∀k,xB hb v k->k<w0.heap.size:=fun k hk=>hp0.lt k (hfq k (hsub k hk))
  refine⟨hp0.two hf1 (fun k hk=>by have:=hlt2 k hk;omega),.inr ⟨x,j,by omega,rfl,H,po,⟨⟨v1,R1,hq.popped hr1 hp1 ho1 hf1,hv1.trans hv⟩,hp0.lt,?_,?_,?_,?_,?_,hp0.fr.trans hf1 (fun i hi=> .inl (hfq i (hsub i hi))),Nat.le_trans hp0.big hf1.size⟩,hj,by omega,hq.hpr.vp x (by simp),hq.DF hinj,?_⟩⟩
  ·exact hf1.heap hp0.b0 (fun e=>by have:=hlt2 _ e;omega)
  ·exact hf1.heap hp0.b1 (fun e=>by have:=hlt2 _ e;omega)
  ·exact hf1.heap hp0.b2 (fun e=>by have:=hlt2 _ e;omega)
  ·exact hf1.heap hp0.b3 (fun e=>by have:=hlt2 _ e;omega)
  ·exact hf1.heap hp0.b4 (fun e=>by have:=hlt2 _ e;omega)
  ·rw[<-he,<-hk,hj]
end
end Go.Proofs.YtilpincgjlclpaaGreat.Ob
end
section
namespace Go.Proofs.YtilpincgjlclpaaGreat.Ob
open Go Go.RowKit Go.Shelf Bs Mp jL Hp
open Tm (It St lI jd bt qM top Ak)
attribute [local go_sem] Oper.semAt_some
theorem VM {W:World} {z:Nat} {c:Bool} {t:TypeId} {fr:Nat×Nat} (b3:W.heap[z]?=some (.cells #[.bool c] t fr)):(loadVar 4 ⟨z,0,none⟩).run Tryz.prog W= .ok (.bool c) W:=by
 have c3:W.cell? ⟨z,0,none⟩=some (.bool c):=aj b3 0
 simp[loadVar,go_sem,c3,Tryz.underlying4,Result.andThen,isAgg]
theorem BS {tmps:Array Value} {W:World} {z:Nat} {x:It} {c:Bool} (h4:tmps[4]?.getD undef= .pointer (some ⟨z+1+1,0,none⟩)) (h5:tmps[5]?.getD undef= .pointer (some ⟨z+1+1+1,0,none⟩)) (b2:W.heap[z+2]?=some (.cells (Bb x) TI (0,0))) (b3:W.heap[z+3]?=some (.cells #[.bool c] 4 (0,0))):
  (results Tryz.f87 tmps).run Tryz.prog W= .ok (.tuple #[iv x,.bool c]) W:=by
 have e2:=run_loadVar_row (P:=Tryz.prog) W (z+2) TI 162 (Bb x) (0,0) _ b2 Tryz.underlying162 rfl (by kernel_rfl)
 have e3:=VM b3
 simp[results,show Tryz.f87.results=#[.cell 4 162,.cell 5 4] from rfl,h4,h5,asAddr,e2,e3,Result.andThen]
set_option maxHeartbeats 4000000 in
set_option maxRecDepth 100000 in
theorem pop_in (n:Nat) (hn:5<=n) {B Bt b tb hb kb ix:Nat} {w:World} {v:Value} {s:St} {R:List It} {jA hpe m:Nat} {So:Nat->Prop} {f:P2->Int} (h:oM B w b tb hb kb v s.o s.kn s.H R s.pu s.po s.pe s.re jA hpe m)
  (hS:Sym Bt w tb s.o So) (hsep:Sep (yD b hb kb v) So) (hinj:Ak s.o) (hl:s.o.length<=1000000) (hm:m<100000) (hc:CntAt ix s.o f (yD b hb kb v) w):
  CallsIn Fence.wide n Tryz.prog 87 #[.pointer (some ⟨b,0,none⟩),MI ix] w fun e w'=>(PopX B b tb hb kb ix jA hpe m v w s f w'/\∃x,(jd f (s.H.length+1) s).2=some x/\e= .returned (.tuple #[iv x,.bool true]))\/(PopD B b tb hb kb ix jA hpe m v w s f w'/\e= .returned (.tuple #[iv d0,.bool false])):=by
 have hn1:1<=n:=by omega
 have hfd:Fence.wide.fn 120:=trivial
 have hlv:=Zy ix
 obtain⟨W4,Gm⟩:∃W4,W4=(((w.alloc (.cells #[.pointer (some ⟨b,0,none⟩)] 151)).alloc (.cells #[MI ix] 158)).alloc (.cells #[.int .i64 0,.int .i64 0,.int .i64 0] 162)).alloc (.cells #[.bool false] 4):=⟨_,rfl⟩
 have hB4:Below w.heap.size w W4:=by rw[Gm];exact((((Below.refl _ w).alloc (Nat.le_refl _) _).alloc (by simp) _).alloc (by simp;omega) _).alloc (by simp;omega) _
 have hs4:W4.heap.size=w.heap.size+4:=by rw[Gm];simp
 have c1:((((w.alloc (.cells #[.pointer (some ⟨b,0,none⟩)] 151)).alloc (.cells #[MI ix] 158)).alloc (.cells #[.int .i64 0,.int .i64 0,.int .i64 0] 162)).alloc (.cells #[.bool false] 4)).cell? ⟨b,1,none⟩=some (.pointer (some ⟨hb,0,none⟩)):=by rw[<-Gm];exact aj ((h.below hB4).blk) 1
 have b0:W4.heap[w.heap.size]?=some (.cells #[.pointer (some ⟨b,0,none⟩)] 151 (0,0)):=by rw[Gm];exact dw (dw (dw (bG _ _) _) _) _
 have b1:W4.heap[w.heap.size+1]?=some (.cells #[MI ix] 158 (0,0)):=by
  rw[Gm]
  have:=bG (w.alloc (.cells #[.pointer (some ⟨b,0,none⟩)] 151)) (.cells #[MI ix] 158)
  rw[World.size_alloc] at this
  exact dw (dw this _) _
 have b2:W4.heap[w.heap.size+2]?=some (.cells (Bb d0) TI (0,0)):=by
  rw[Gm]
  have:=bG ((w.alloc (.cells #[.pointer (some ⟨b,0,none⟩)] 151)).alloc (.cells #[MI ix] 158)) (.cells #[.int .i64 0,.int .i64 0,.int .i64 0] 162)
  rw[World.size_alloc,World.size_alloc] at this
  exact dw this _
 have b3:W4.heap[w.heap.size+3]?=some (.cells #[.bool false] 4 (0,0)):=by
  rw[Gm]
  have:=bG (((w.alloc (.cells #[.pointer (some ⟨b,0,none⟩)] 151)).alloc (.cells #[MI ix] 158)).alloc (.cells #[.int .i64 0,.int .i64 0,.int .i64 0] 162)) (.cells #[.bool false] 4)
  rwa[World.size_alloc,World.size_alloc,World.size_alloc] at this
 have HX:=Lib.hid (And.intro hB4 (And.intro b0 (And.intro b1 (And.intro b2 (And.intro b3 hs4)))))
 have HH:=Lib.hid h
 have HC:=Lib.hid hc
 have HS:=Lib.hid (And.intro hS (And.intro hsep hinj))
 have k0:W4.cell? ⟨w.heap.size,0,none⟩=some (.pointer (some ⟨b,0,none⟩)):=aj b0 0
 have k1:W4.cell? ⟨w.heap.size+1,0,none⟩=some (MI ix):=aj b1 0
 clear hB4 b0 b1 b2 b3 h hc hS hsep hinj
 refine callsIn_of_wp_marks Tryz.func87 rfl trivial ?_ rfl
 simp only[Tryz.ntmps87,List.size_toArray,List.length_cons,List.length_nil,Nat.reduceAdd,Nat.reduceSub,Array.replicate_succ,Array.replicate_zero,List.push_toArray,List.append_toArray,List.nil_append,List.cons_append]
 have hdr:=fun W=>Yi Fence.wide (n-1) trivial rfl hb W
 gi_wp2_with (first
  |(gi_at_call 120;refine(hdr _).mono ?_;rintro e w1 ⟨rfl,rfl⟩)
  |gi_in)
 rw[<-Gm]
 clear Gm c1
 obtain⟨W5,YL⟩:∃W5,W5=W4.alloc (.cells #[.pointer (some ⟨hb,0,none⟩)] 208):=⟨_,rfl⟩
 have b5:W5.heap[w.heap.size+4]?=some (.cells #[.pointer (some ⟨hb,0,none⟩)] 208 (0,0)):=by rw[YL,<-HX.out.2.2.2.2.2];exact bG _ _
 have hs5:W5.heap.size=w.heap.size+5:=by rw[YL,World.size_alloc,HX.out.2.2.2.2.2]
 have hB45:Below W4.heap.size W4 W5:=by rw[YL];exact(Below.refl _ W4).alloc (Nat.le_refl _) _
 have hP5:∀W,W5.heap.size+2<=W.heap.size->Below W5.heap.size W5 W->PopI B b tb hb kb ix jA hpe m v w s f s.H.length W:=fun W hsz hBW=>by
  have h4:=HX.out.2.2.2.2.2
  have hB4W:Below W4.heap.size W4 W:=hB45.trans (hBW.mono hB45.size)
  have hB:Below w.heap.size w W:=HX.out.1.trans (hB4W.mono HX.out.1.size)
  have kk:∀{k:Nat} {o:Obj},W4.heap[k]?=some o->W.heap[k]?=some o:=fun hk=>(hB4W.block _ (bA hk)).trans hk
  exact⟨s.H,s.po,⟨⟨v,R,HH.out.below hB,rfl⟩,fun k hk=>(HH.out.oq k hk).2,kk HX.out.2.1,kk HX.out.2.2.1,kk HX.out.2.2.2.1,kk HX.out.2.2.2.2.1,(hBW.block _ (bA b5)).trans b5,Fr.dL hB,by omega⟩,rfl,rfl⟩
 rw[<-YL]
 clear HX hB45 b5 k0 k1 YL
 have AA:∀(I:World->Prop),(∀W o,I W->I (W.putObj (w.heap.size+6) o))->Off (W5.heap.size+1) I:=fun I hI W o hl hW=>by rw[hs5];exact hI W o hW
 refine wD (w:=W5) rfl (by omega) (Bm:=w.heap.size+4) (hb:=hb) (k0:=s.H.length) rfl trivial trivial (enters_of Tryz.func150 (by kernel_rfl) rfl) rfl
  (PopI B b tb hb kb ix jA hpe m v w s f) (XB B b tb hb kb ix jA hpe m v w s f) (fun c W=>c= .ret/\PopX B b tb hb kb ix jA hpe m v w s f W) (PopD B b tb hb kb ix jA hpe m v w s f)
  (fun k=>AA _ fun W o h=>by obtain⟨H,po,h1,h2⟩:=h;exact⟨H,po,h1.putObj (by omega) o,h2⟩)
  (fun k x=>AA _ fun W o h=>by obtain⟨H,po,h1,h2⟩:=h;exact⟨H,po,h1.putObj (by omega) o,h2⟩)
  (fun c=>AA _ fun W o h=>by obtain⟨hc,kn,H,po,x,h1,h2⟩:=h;exact⟨hc,kn,H,po,x,h1.putObj (by omega) o,h2⟩)
  (AA _ fun W o h=>by obtain⟨po,h1,h2⟩:=h;exact⟨po,h1.putObj (by omega) o,h2⟩)
  (fun k x W o h=>by obtain⟨H,po,h1,h2⟩:=h;exact⟨H,po,h1.alloc o,h2⟩)
  (fun W o h=>by obtain⟨po,h1,h2⟩:=h;exact⟨po,h1.alloc o,h2⟩)
  (fun o=>hP5 _ (by simp) (((Below.refl _ W5).alloc (Nat.le_refl _) _).alloc (by simp) _))
  (fun k W h=>by obtain⟨H,po,h1,h2⟩:=h;exact aj h1.b4 0)
  (fun k W h=>by rw[hs5];exact callsIn_wide.2 (ZW HS.out.1 HS.out.2.1 HS.out.2.2 hl hm h))
  (fun j x a' W=>∃g,XB B b tb hb kb ix jA hpe m v w s f j x W/\w.heap.size+7<=g/\IBox W g x/\a'={tmps:=#[.pointer (some ⟨b,0,none⟩),MI ix,.pointer (some ⟨w.heap.size,0,none⟩),.pointer (some ⟨w.heap.size+1,0,none⟩),.pointer (some ⟨w.heap.size+1+1,0,none⟩),.pointer (some ⟨w.heap.size+1+1+1,0,none⟩),.pointer (some ⟨g,0,none⟩),.pointer (some ⟨b,0,none⟩),.bool false,.bool false,MI ix,.bool false,.bool false,undef,.pointer (some ⟨b,0,none⟩),.pointer (some ⟨b,0,none⟩),.pointer (some ⟨b,1,none⟩),.pointer (some ⟨hb,0,none⟩),.func (.func 150) #[] #[.pointer (some ⟨w.heap.size+4,0,none⟩)],iv x,undef,undef,undef,undef,undef,undef,undef,undef,undef,undef,undef,undef,undef,undef,undef,undef,undef,undef,undef,undef,undef,undef,undef,undef],defers:=[]})
  (fun j x a'=>AA _ fun W o h=>by obtain⟨g,⟨H,po,h1,h2⟩,hg,hb,ha⟩:=h;exact⟨g,⟨H,po,h1.putObj (by omega) o,h2⟩,hg,(World.putObj_heap_other (by omega)).trans hb,ha⟩)
  ?assign ?body ?done ?stop
 case assign=>
  rintro l j ⟨⟨x1,x2⟩,xc⟩ W hlt ⟨H,po,h1,h2⟩
  gi_wp2
  exact⟨h1.two (T:=fun _=>False) (Fr.dL (gp _ _)) (fun _ h=>h.elim),⟨H,po,h1.alloc _,h2⟩,h1.big,bG W _⟩
 case body=>
  rintro l j ⟨⟨x1,x2⟩,xc⟩ a' W hlt ⟨g,⟨H,po,h1,h2⟩,hg,hbx,rfl⟩
  obtain⟨h2,h3,h4,h5,h6⟩:=h2
  obtain⟨v1,R1,hq,hv1⟩:=h1.q
  have hpoH:(H.erase ((x1,x2),xc)).length+(po+1)<=m:=by
   have hm:=(Tm.qd h5).1
   rw[List.length_erase_of_mem hm]
   omega
  have hb6:=h1.pop1 hpoH
  have k0:W.cell? ⟨w.heap.size,0,none⟩=some (.pointer (some ⟨b,0,none⟩)):=aj h1.b0 0
  have k6:W.cell? ⟨b,6,none⟩=some (.int .i64 (po:Int)):=aj hq.blk 6
  have f6:=aX hq.blk 6
  have hbl:b<w.heap.size:=h1.lt b (.inl rfl)
  have hx6:(W.setCell ⟨b,6,none⟩ (.int .i64 ((po:Int)+1))).heap[g]?=some (.cells (Bb ((x1,x2),xc)) TI (0,0)):=dI hbx (by simp;omega) _
  have Cm:Fr (yD b hb kb v) W (W.setCell ⟨b,6,none⟩ (.int .i64 ((po:Int)+1))):=(Fr.refl _ W).set (.inl (.inl rfl)) _
  have HP:=Lib.hid (And.intro h2 (And.intro h4 (And.intro h5 (And.intro h6 (And.intro h1 Cm)))))
  have hpo:po<1000000:=by have:=hq.bnd;omega
  clear h1 h2 h3 h4 h5 h6 hq hv1 hbx hP5 AA Cm
  obtain⟨W1,hW1⟩:∃W1,W1=W.setCell ⟨b,6,none⟩ (.int .i64 ((po:Int)+1)):=⟨_,rfl⟩
  gi_wp2_with fail
  rw[<-hW1] at hb6 hx6 HP ⊢
  clear hW1 k0 k6 f6
  have hcnt:∀U,Below W1.heap.size W1 U->CallsIn (Fence.wide.inRound l) (n-1-1-1) Tryz.prog 86 #[.pointer (some ⟨ix,0,none⟩),pv (x1,x2)] U fun e w'=>e= .returned (.int .i64 (f (x1,x2)))/\Below U.heap.size U w':=fun U hU=>
   (callsIn_wide.2 (HC.out U (x1,x2) ((HP.out.2.2.2.2.1.fr.trans HP.out.2.2.2.2.2 (fun _ h=> .inl h)).below hU) HP.out.2.1)).inRound l
  obtain⟨c,hc⟩:∃c,f (x1,x2)=c:=⟨_,rfl⟩
  rw[hc] at hcnt
  have Ld:=Lib.hid hc
  clear hc
  have k1:W1.cell? ⟨w.heap.size+1,0,none⟩=some (MI ix):=aj hb6.b1 0
  have k1d:W1.drew.cell? ⟨w.heap.size+1,0,none⟩=some (MI ix):=k1
  have c0:W1.cell? ⟨g,0,none⟩=some (.int .i64 x1):=aj hx6 0
  have c0d:W1.drew.cell? ⟨g,0,none⟩=some (.int .i64 x1):=c0
  have c1:W1.cell? ⟨g,1,none⟩=some (.int .i64 x2):=aj hx6 1
  have c1d:W1.drew.cell? ⟨g,1,none⟩=some (.int .i64 x2):=c1
  have c2:W1.cell? ⟨g,2,none⟩=some (.int .i64 xc):=aj hx6 2
  have c2d:W1.drew.cell? ⟨g,2,none⟩=some (.int .i64 xc):=c2
  have yJ:=Lib.hid (And.intro hb6 hx6)
  clear hb6 hx6
  have hn3:1<=n-1-1:=by omega
  have hf86:Fence.wide.fn 86:=trivial
  have hmx:Tryz.prog.follows .mixedOrders=true:=by kernel_rfl
  refine wpIn_mono (Q:=fun e a' w2=>e= .normal/\a'={tmps:=#[.pointer (some ⟨b,0,none⟩),MI ix,.pointer (some ⟨w.heap.size,0,none⟩),.pointer (some ⟨w.heap.size+1,0,none⟩),.pointer (some ⟨w.heap.size+1+1,0,none⟩),.pointer (some ⟨w.heap.size+1+1+1,0,none⟩),.pointer (some ⟨g,0,none⟩),.pointer (some ⟨b,0,none⟩),.bool false,.bool false,MI ix,.bool false,.bool false,undef,.pointer (some ⟨b,0,none⟩),.pointer (some ⟨b,0,none⟩),.pointer (some ⟨b,1,none⟩),.pointer (some ⟨hb,0,none⟩),.func (.func 150) #[] #[.pointer (some ⟨w.heap.size+4,0,none⟩)],iv ((x1,x2),xc),.pointer (some ⟨b,0,none⟩),.pointer (some ⟨b,0,none⟩),.pointer (some ⟨b,3,none⟩),.pointer (some ⟨b,6,none⟩),.int .i64 (po:Int),.int .i64 ((po:Int)+1),.pointer (some ⟨b,0,none⟩),.pointer (some ⟨b,3,none⟩),.pointer (some ⟨b,6,none⟩),.pointer (some ⟨g,2,none⟩),.int .i64 xc,MI ix,.pointer (some ⟨g,0,none⟩),.agg #[.int .i64 x1,.int .i64 x2],.int .i64 c,.bool (xc==c),undef,undef,undef,undef,undef,undef,undef,undef],defers:=[]}/\Below W1.heap.size W1 w2) ?region ?rest
  case region=>
   gi_region_with_o (gi_at_call 86;refine(hcnt _ (Below.refl _ _).drew).mono ?_;rintro e w2 ⟨rfl,hB2⟩;have e2:=(hB2.block _ (bA yJ.out.2)).trans yJ.out.2;have c2e:w2.cell? ⟨g,2,none⟩=some (.int .i64 xc):=aj e2 2;have H2:=Lib.hid hB2;clear hB2 e2)
   all_goals exact⟨rfl,rfl,((Below.refl _ W1).drew).trans H2.out⟩
  case rest=>
   rintro e a' w2 ⟨rfl,rfl,hB2⟩
   clear hcnt k1 k1d c0 c0d c1 c1d c2 c2d
   have hb2:=yJ.out.1.below hB2
   have hx2:=(hB2.block _ (bA yJ.out.2)).trans yJ.out.2
   have IX:=Lib.hid (HP.out.2.2.2.2.2.below hB2)
   clear hB2
   by_cases he:xc=c
   ·subst he
    obtain⟨v2,R2,hq2,hv2⟩:=hb2.q
    have hok:ou.ok (x1,x2):=VP.ok hl HP.out.2.1
    obtain⟨w4,hd,Cn,uw,hs4⟩:=wJ (T:=ou) w2.drew hq2.Gc.drew hok 0
    have e2:(Builtin.delete_ #[207,160] 0 #[.map (some kb),.agg #[.int .i64 x1,.int .i64 x2]]).run Tryz.prog w2.drew= .ok (.tuple #[]) w4:=hd
    have q0:w2.cell? ⟨w.heap.size,0,none⟩=some (.pointer (some ⟨b,0,none⟩)):=aj hb2.b0 0
    have q0d:w2.drew.cell? ⟨w.heap.size,0,none⟩=some (.pointer (some ⟨b,0,none⟩)):=q0
    have q2:w2.cell? ⟨b,2,none⟩=some (.map (some kb)):=aj hq2.blk 2
    have q2d:w2.drew.cell? ⟨b,2,none⟩=some (.map (some kb)):=q2
    have c0:w2.cell? ⟨g,0,none⟩=some (.int .i64 x1):=aj hx2 0
    have c0d:w2.drew.cell? ⟨g,0,none⟩=some (.int .i64 x1):=c0
    have c1:w2.cell? ⟨g,1,none⟩=some (.int .i64 x2):=aj hx2 1
    have c1d:w2.drew.cell? ⟨g,1,none⟩=some (.int .i64 x2):=c1
    have hkb:kb<w.heap.size:=hb2.lt kb (.inr (.inr (.inl rfl)))
    have hx4:=uw.heap hx2 (by omega)
    have hb4:=(hb2.drew).turn uw (fun k hk=> .inr (.inr (.inl hk))) (kn':=Mp.del s.kn (x1,x2)) ⟨v2,R2,hq2.drew.known Cn uw (fun x hx=>hq2.WQ x (by unfold Mp.del at hx;exact(List.mem_filter.1 hx).1)) (by have:=hq2.bnd;have:=yX (m:=s.kn) (p:=(x1,x2));omega),hv2⟩
    have HM4:=Lib.hid (And.intro hb4 ((IX.out.drew).trans uw (fun i hi=> .inl (.inr (.inr (.inl hi))))))
    have m0:w4.cell? ⟨g,0,none⟩=some (.int .i64 x1):=aj hx4 0
    have m1:w4.cell? ⟨g,1,none⟩=some (.int .i64 x2):=aj hx4 1
    have m2:w4.cell? ⟨g,2,none⟩=some (.int .i64 xc):=aj hx4 2
    have n0:w4.cell? ⟨w.heap.size+1+1,0,none⟩=some (.int .i64 0):=aj hb4.b2 0
    have n1:w4.cell? ⟨w.heap.size+1+1,1,none⟩=some (.int .i64 0):=aj hb4.b2 1
    have n2:w4.cell? ⟨w.heap.size+1+1,2,none⟩=some (.int .i64 0):=aj hb4.b2 2
    have n3:w4.cell? ⟨w.heap.size+1+1+1,0,none⟩=some (.bool false):=aj hb4.b3 0
    have u0:w4.frozen? ⟨w.heap.size+1+1,0,none⟩=false:=aX hb4.b2 0
    have u1:w4.frozen? ⟨w.heap.size+1+1,1,none⟩=false:=aX hb4.b2 1
    have u2:w4.frozen? ⟨w.heap.size+1+1,2,none⟩=false:=aX hb4.b2 2
    have u3:w4.frozen? ⟨w.heap.size+1+1+1,0,none⟩=false:=aX hb4.b3 0
    clear hb2 hx2 hd Cn uw hs4 hx4 hb4 hq2 hv2 hok HC
    gi_wp2_with fail
    gi_region_with_o fail
    all_goals
     gi_wp2
     have uw:Fr (fun k=>yD b hb kb v k\/k=w.heap.size+1+1\/k=w.heap.size+1+1+1) W w4:=HM4.out.2.mono fun i hi=> .inl hi
     refine⟨?_,rfl,_,_,_,_,HM4.out.1.found ((x1,x2),xc),?_⟩
     ·rw[hs5]
      refine HP.out.2.2.2.2.1.two ((((uw.set (p:=⟨w.heap.size+1+1,0,none⟩) (.inl (.inr (.inl rfl))) _).set (p:=⟨w.heap.size+1+1,1,none⟩) (.inl (.inr (.inl rfl))) _).set (p:=⟨w.heap.size+1+1,2,none⟩) (.inl (.inr (.inl rfl))) _).set (p:=⟨w.heap.size+1+1+1,0,none⟩) (.inl (.inr (.inr rfl))) _) fun k hk=>?_
      rcases hk with hk|hk|hk
      ·have:=HP.out.2.2.2.2.1.lt k hk
       omega
      ·omega
      ·omega
     ·rw[<-HP.out.2.2.2.1,ZX HP.out.2.2.1 Ld.out.symm]
   ·have hne:(xc==c)=false:=beq_eq_false_iff_ne.mpr he
    gi_wp2
    refine⟨?_,_,_,hb2,?_,?_⟩
    ·rw[hs5]
     refine HP.out.2.2.2.2.1.two IX.out fun k hk=>?_
     have:=HP.out.2.2.2.2.1.lt k hk
     omega
    ·have hm:=(Tm.qd HP.out.2.2.1).1
     rw[List.length_erase_of_mem hm]
     have:=HP.out.1
     omega
    ·rw[<-HP.out.2.2.2.1,VT HP.out.2.2.1 (fun e=>he (by rw[<-Ld.out];exact e))]
 case done=>
  rintro D W hDe ⟨po,h1,h2⟩ hD
  rw[hs5] at hDe
  subst hDe
  have f20:W.frozen? ⟨w.heap.size+1+1,0,none⟩=false:=aX h1.b2 0
  have f21:W.frozen? ⟨w.heap.size+1+1,1,none⟩=false:=aX h1.b2 1
  have f22:W.frozen? ⟨w.heap.size+1+1,2,none⟩=false:=aX h1.b2 2
  have f30:W.frozen? ⟨w.heap.size+1+1+1,0,none⟩=false:=aX h1.b3 0
  have k20:W.cell? ⟨w.heap.size+1+1,0,none⟩=some (.int .i64 0):=aj h1.b2 0
  have k21:W.cell? ⟨w.heap.size+1+1,1,none⟩=some (.int .i64 0):=aj h1.b2 1
  have k22:W.cell? ⟨w.heap.size+1+1,2,none⟩=some (.int .i64 0):=aj h1.b2 2
  have k30:W.cell? ⟨w.heap.size+1+1+1,0,none⟩=some (.bool false):=aj h1.b3 0
  have HD:=Lib.hid (And.intro h1 (And.intro h2 hD))
  clear h1 h2 hD
  gi_wp2
  obtain⟨h1,h2,hD⟩:=HD.out
  have h3:=h1.zero
  have hD3:((((W.setCell ⟨w.heap.size+1+1,0,none⟩ (.int .i64 0)).setCell ⟨w.heap.size+1+1,1,none⟩ (.int .i64 0)).setCell ⟨w.heap.size+1+1,2,none⟩ (.int .i64 0)).setCell ⟨w.heap.size+1+1+1,0,none⟩ (.bool false)).heap[w.heap.size+5]?=some (.deferred (some [])):=dI (dI (dI (dI hD (by simp) _) (by simp) _) (by simp) _) (by simp) _
  have h4:=h3.putObj (Nat.le_refl _) (.deferred none)
  refine⟨by simp,.inl ⟨_,_,rfl,run_takeDeferred hD3,?_⟩⟩
  exact⟨_,BS rfl rfl h4.b2 h4.b3,.inr ⟨⟨po,h4,h2⟩,rfl⟩⟩
 case stop=>
  rintro D c W hDe ⟨rfl,kn,H,po,x,h1,h2⟩ hD
  rw[hs5] at hDe
  subst hDe
  obtain⟨⟨x1,x2⟩,xc⟩:=x
  gi_wp2
  have h4:=h1.putObj (Nat.le_refl _) (.deferred none)
  refine⟨by simp,.inl ⟨_,_,rfl,run_takeDeferred hD,?_⟩⟩
  exact⟨_,BS rfl rfl h4.b2 h4.b3,.inl ⟨⟨kn,H,po,_,h4,h2⟩,((x1,x2),xc),by rw[h2],rfl⟩⟩
theorem Nu {B Bt b tb ix m:Nat} {w:World} {s:St} {S So:Nat->Prop} {f:P2->Int} (h:QuS B w b tb s m S) (hS:Sym Bt w tb s.o So) (hsep:Sep S So) (hinj:Ak s.o) (hl:s.o.length<=1000000) (hm:m<100000) (hc:CntAt ix s.o f S w):
  Calls Tryz.prog 87 #[.pointer (some ⟨b,0,none⟩),MI ix] w fun e w'=>∃s' r,jd f (s.H.length+1) s=(s',r)/\(∃S',QuS B w' b tb s' m S'/\Fr S w w'/\Into w S S')/\(e= .returned (match r with|some x=> .tuple #[iv x,.bool true]|none=> .tuple #[iv d0,.bool false])):=by
 obtain⟨hb,kb,v,R,jA,hpe,h,rfl⟩:=h
 refine(callsIn_wide.1 (pop_in 5 (Nat.le_refl _) h hS hsep hinj hl hm hc)).mono ?_
 have into:∀v',v'.ownBlock=v.ownBlock->Into w (yD b hb kb v) (yD b hb kb v'):=fun v' e k hk=> .inl (by unfold yD at hk ⊢;rw[e] at hk;exact hk)
 rintro e w' (⟨⟨kn,H,po,x,h1,h2⟩,y,h3,rfl⟩|⟨⟨po,h1,h2⟩,rfl⟩)
 ·rw[h2] at h3
  cases h3
  obtain⟨v',R',hq,hv⟩:=h1.q
  exact⟨_,_,h2,⟨_,⟨hb,kb,v',R',jA,hpe,hq,rfl⟩,h1.fr,into v' hv⟩,rfl⟩
 ·obtain⟨v',R',hq,hv⟩:=h1.q
  exact⟨_,_,h2,⟨_,⟨hb,kb,v',R',jA,hpe,hq,rfl⟩,h1.fr,into v' hv⟩,rfl⟩
end Go.Proofs.YtilpincgjlclpaaGreat.Ob
end
section
namespace Go.Proofs.YtilpincgjlclpaaGreat.Ob
open Go Go.RowKit Bs Mp jL Hp
open Go.Proofs.ae.au (iV eY xR)
open Tm (It bt qM)
abbrev Cz:Nat:=47
def mW (x:ByteArray×ByteArray):List Value:=[.string x.1,.string x.2]
def pR (o:List J):List (ByteArray×ByteArray):=o.map fun x=>(fI o x.1.1,fI o x.1.2)
theorem infoMg:(Tryz.prog.info? 47).map (fun i=>(i.zero,i.size,i.bytes))=some (some (.agg #[.string ByteArray.empty,.string ByteArray.empty]),2,32):=by kernel_rfl
set_option maxHeartbeats 2000000 in
set_option maxRecDepth 100000 in
theorem aaw {B b:Nat} {o:List J} {S:Nat->Prop} {w:World} (h:Sym B w b o S) (hl:o.length<=1000000) {i:Nat} {x:J} (hx:o[i]?=some x):
  Calls Tryz.prog 133 #[.pointer (some ⟨b,0,none⟩),.int .i64 (256+(i:Int))] w fun e w'=>e= .returned (.tuple #[pv x.1,.bool true])/\Below w.heap.size w w':=by
 obtain⟨⟨p1,p2⟩,t⟩:=x
 have hil:=(List.getElem?_eq_some_iff.1 hx).1
 obtain⟨V,hV⟩:∃V,V=w.alloc (.cells #[.int .i64 0,.int .i64 0] 160):=⟨_,rfl⟩
 have ji:Below w.heap.size w V:=by rw[hV];exact(Below.refl _ w).alloc (Nat.le_refl _) _
 have hb0:V.heap[w.heap.size]?=some (.cells #[.int .i64 0,.int .i64 0] 160 (0,0)):=by rw[hV];exact bG _ _
 have h1:=h.same fun k hk=>ji.block k (h.oq k hk).2
 have hlen:=zZ h1 hl
 obtain⟨v,m,hB,hb,ho,hm,hSe⟩:=h1
 obtain⟨ao,cap,rfl⟩:=Bs.bU ho
 obtain⟨g,rfl,hg,hgl,hcap,hc,hfz⟩:=gz ho (by omega)
 have c0:V.cell? ⟨b,0,none⟩=some (.slice (some ⟨g,0,none⟩) o.length cap):=by rw[aj hb];rfl
 have d0:=hc _ _ (Zp hx).1
 have d1:=hc _ _ (Zp hx).2.1
 have hge:decide (256+(o.length:Int)<=256+(i:Int))=false:=decide_eq_false (by omega)
 have JV:decide (o.length<=i)=false:=decide_eq_false (by omega)
 have hlt:decide (256+(i:Int)<256)=false:=decide_eq_false (by omega)
 have e2:(256+(i:Int)-256)=(i:Int):=by omega
 have hi6:i<=1000000:=by omega
 have f0:=aX hb0 0
 have f1:=aX hb0 1
 have z0:V.cell? ⟨w.heap.size,0,none⟩=some (.int .i64 0):=aj hb0 0
 have z1:V.cell? ⟨w.heap.size,1,none⟩=some (.int .i64 0):=aj hb0 1
 have HX:=Lib.hid (And.intro ji hb0)
 clear hb ho hm hSe hc hfz h ji hb0 hx
 go_enter Tryz.func133,Tryz.ntmps133
 go_wp2_with fail
 rw[<-hV]
 clear hV
 go_wp2_with (go_at_call 123;refine hlen.mono ?_;rintro e w1 ⟨rfl,rfl⟩)
 have hb2:=heap_set (heap_set HX.out.2 0 (.int .i64 p1)) 1 (.int .i64 p2)
 apply bodyPost_ret
 ·exact iV rfl _ _ w.heap.size 160 #[.int .i64 p1,.int .i64 p2] (0,0) _ rfl hb2 Tryz.underlying160 rfl (by kernel_rfl)
 ·rfl
 refine⟨rfl,?_⟩
 exact(((Fr.dL (S:=fun k=>w.heap.size<=k) HX.out.1).set (p:=⟨w.heap.size,0,none⟩) (.inr (Nat.le_refl _)) _).set (p:=⟨w.heap.size,1,none⟩) (.inr (Nat.le_refl _)) _).toBelow (fun _ h=>h) (Nat.le_refl _)
set_option maxHeartbeats 8000000 in
set_option maxRecDepth 100000 in
theorem RN {B b:Nat} {o:List J} {S:Nat->Prop} {w:World} (h:Sym B w b o S) (hl:o.length<=1000000) (hs:∀x∈o,VP o x.1):
  Calls Tryz.prog 91 #[.pointer (some ⟨b,0,none⟩)] w fun e w'=>∃v,e= .returned v/\w'.ownsRow w.heap.size Cz 2 v (pR o).length ((pR o).flatMap mW)/\Below w.heap.size w w':=by
 obtain⟨i0,hi0,hz0,hz1,hz2⟩:=info_parts infoMg
 have HH:=Lib.hid (And.intro h hs)
 clear h hs
 go_enter Tryz.func91,Tryz.ntmps91
 go_wp2_with fail
 go_loopg [3,4] o.length (fun gk v3 v4 wr=>∃(D R:List J),v4= .int .i64 (256+(D.length:Int))/\R.length=gk/\Hid (o=D++R)/\Hid (wr.ownsRow w.heap.size Cz 2 v3 D.length ((D.map fun x=>(fI o x.1.1,fI o x.1.2)).flatMap mW))/\Hid (Below w.heap.size w wr))
 case atStart=>exact⟨[],o,by simp,rfl,Lib.hid rfl,Lib.hid (World.ownsRow_nil _ _ _ _),Lib.hid (Below.refl _ w)⟩
 case round=>
  obtain⟨D,R,rfl,qy,HX,HO,HB⟩:=hrel
  have hS:=HH.out.1.same (w':=wr) fun k hk=>HB.out.block k (HH.out.1.oq k hk).2
  have hlen:=zZ hS hl
  cases R with
  |nil=>
   have hxe:o=D:=by rw[HX.out];simp
   have hge:decide (256+(D.length:Int)<256+(o.length:Int))=false:=decide_eq_false (by rw[hxe];omega)
   have JV:decide (D.length<o.length)=false:=decide_eq_false (by rw[hxe];omega)
   have hge3:¬D.length<o.length:=by rw[hxe];omega
   have Le:=Lib.hid hxe
   clear hxe hS
   go_wp2_with (go_at_call 123;refine hlen.mono ?_;rintro e w1 ⟨rfl,rfl⟩)
   go_ret
   refine⟨_,rfl,?_,HB.out⟩
   have h9:=HO.out
   unfold pR
   rw[List.length_map]
   have e1:D.map (fun x=>(fI o x.1.1,fI o x.1.2))=o.map fun x=>(fI o x.1.1,fI o x.1.2):=by rw[<-Le.out]
   have e2:D.length=o.length:=by rw[<-Le.out]
   rw[e1,e2] at h9
   exact h9
  |cons x R=>
   obtain⟨gk,rfl⟩:∃g,gk=g+1:=⟨R.length,by simpa using qy.symm⟩
   obtain⟨⟨p1,p2⟩,t⟩:=x
   have hxe:=HX.out
   have hxi:o[D.length]?=some ((p1,p2),t):=by rw[hxe];simp
   have hlt:D.length<o.length:=(List.getElem?_eq_some_iff.1 hxi).1
   have hge:decide (256+(D.length:Int)<256+(o.length:Int))=true:=decide_eq_true (by omega)
   have hvp:=HH.out.2 _ (List.mem_of_getElem? hxi)
   have hv1:Vl o p1:=hvp.1
   have hv2:Vl o p2:=hvp.2
   obtain⟨n1,rfl⟩:∃n1:Nat,p1=(n1:Int):=⟨p1.toNat,by have:=hv1.1;omega⟩
   obtain⟨n2,rfl⟩:∃n2:Nat,p2=(n2:Int):=⟨p2.toNat,by have:=hv2.1;omega⟩
   have hn1:n1<256+o.length:=by have:=hv1.2;omega
   have hn2:n2<256+o.length:=by have:=hv2.2;omega
   have hpr:=aaw hS hl hxi
   have htx:=fun(W:World) (hB:Below wr.heap.size wr W) (n:Nat) (hn:n<256+o.length)=>wu (hS.same fun k hk=>hB.block k (hS.oq k hk).2) hl hn
   obtain⟨A3,c3,hv3⟩:=bU HO.out
   have HV:=Lib.hid (And.intro hxi hxe)
   subst hv3
   obtain⟨t1,ht1⟩:∃t1,txt o n1=t1:=⟨_,rfl⟩
   obtain⟨t2,ht2⟩:∃t2,txt o n2=t2:=⟨_,rfl⟩
   have hT1:=fun W hB=>htx W hB n1 hn1
   have SI:=fun W hB=>htx W hB n2 hn2
   rw[ht1] at hT1
   rw[ht2] at SI
   have HT1:=Lib.hid hT1
   have HT2:=Lib.hid SI
   have HTT:=Lib.hid (And.intro ht1 ht2)
   clear hT1 SI ht1 ht2
   have hDl:D.length<=1000000:=by omega
   clear hS hxi hxe hvp hv1 hv2 htx
   go_wp2_with (first
    |(go_at_call 123;refine hlen.mono ?_;rintro e w1 ⟨rfl,rfl⟩)
    |(go_at_call 133;refine hpr.mono ?_;rintro e w1 ⟨rfl,hB1⟩;have H1:=Lib.hid hB1;have p0:=aj (bG w1 (.cells #[.int .i64 (n1:Int),.int .i64 (n2:Int)] 160)) 0;have p1:=aj (bG w1 (.cells #[.int .i64 (n1:Int),.int .i64 (n2:Int)] 160)) 1;clear hB1)
    |(go_at_call 121;refine(HT1.out (w1.alloc (.cells #[.int .i64 (n1:Int),.int .i64 (n2:Int)] 160)) (H1.out.alloc H1.out.size _)).mono ?_;rintro e w2 ⟨rfl,hB2⟩;have q1:w2.cell? ⟨w1.heap.size,1,none⟩=some (.int .i64 (n2:Int)):=(hB2.cell (World.block_lt_of_cell? _ _ p1)).trans p1;have H2:=Lib.hid ((H1.out.alloc H1.out.size (.cells #[.int .i64 (n1:Int),.int .i64 (n2:Int)] 160)).trans (hB2.mono (by have:=H1.out.size;simp;omega)));clear hB2 HT1)
    |(go_at_call 121;refine(HT2.out w2 H2.out).mono ?_;rintro e w3 ⟨rfl,hB3⟩;have H3:=Lib.hid (H2.out.trans (hB3.mono H2.out.size));have ho3:=(Fr.dL (S:=none_) H3.out).own HO.out (fun _ _ h=>h);clear hB3)
    |(at_builtin;refine wpList_append_own_at _ rfl _ _ 27 rfl w.heap.size Cz i0 (.agg #[.string ByteArray.empty,.string ByteArray.empty]) 2 32 Tryz.underlying27 hi0 hz0 hz1 hz2 rfl (by decide) _ _ _ rfl (ho3.alloc _) _ 1 1 [.string t1,.string t2] rfl rfl ?c1 ?c2 ?c3 ?c4 ?c5 ?_))
   case c1=>exact mr _ _ _
   case c2=>intro u hu;simp at hu;rcases hu with rfl|rfl<;>rfl
   case c3=>unfold maxLen;omega
   case c4=>omega
   case c5=>have:=H3.out.size;have:=HB.out.size;simp;omega
   intro v' w6 hown6 iZ _ AV
   have HO6:=Lib.hid hown6
   have yJ:=Lib.hid ((HB.out.trans (H3.out.mono HB.out.size) |>.alloc (Nat.le_trans HB.out.size H3.out.size) (.cells [.string t1,.string t2].toArray Cz)).grown iZ (by have:=H3.out.size;have:=HB.out.size;simp;omega) (fun k e=>(eG ho3 e).1))
   clear iZ hown6 AV ho3
   go_wp2
   go_roundg R.length
   case measure=>simp at qy;omega
   case rel=>exact⟨D++[(((n1:Int),(n2:Int)),t)],R,by rw[List.length_append,List.length_singleton];simp;omega,rfl,Lib.hid (by rw[HX.out];simp),by rw[List.length_append,List.map_append,List.flatMap_append];exact Lib.hid (by simpa[mW,fI,HTT.out.1,HTT.out.2] using HO6.out),yJ⟩
set_option maxHeartbeats 1000000 in
set_option maxRecDepth 100000 in
theorem Qn {B b tb n:Nat} {w:World} {o:List J} {kn H:List It} {pu po pe re:Nat} {S:Nat->Prop} (h:Qu B w b tb o kn H pu po pe re n S):
  Calls Tryz.prog 92 #[.pointer (some ⟨b,0,none⟩)] w fun e w'=>e= .returned (.agg #[.int .i64 0,.int .i64 0,.int .i64 (pu:Int),.int .i64 (po:Int),.int .i64 (pe:Int),.int .i64 (re:Int)])/\Below w.heap.size w w':=by
 obtain⟨hb,kb,v,R,jA,hpe,h,rfl⟩:=h
 obtain⟨V,hV⟩:∃V,V=w.alloc (.cells #[.int .i64 0,.int .i64 0,.int .i64 0,.int .i64 0,.int .i64 0,.int .i64 0] 29):=⟨_,rfl⟩
 have ji:Below w.heap.size w V:=by rw[hV];exact(Below.refl _ w).alloc (Nat.le_refl _) _
 have hb0:V.heap[w.heap.size]?=some (.cells #[.int .i64 0,.int .i64 0,.int .i64 0,.int .i64 0,.int .i64 0,.int .i64 0] 29 (0,0)):=by rw[hV];exact bG _ _
 have h1:=h.below ji
 have c3:V.cell? ⟨b,3,none⟩=some (.int .i64 0):=aj h1.blk 3
 have c4:V.cell? ⟨b,4,none⟩=some (.int .i64 0):=aj h1.blk 4
 have c5:V.cell? ⟨b,5,none⟩=some (.int .i64 (pu:Int)):=aj h1.blk 5
 have c6:V.cell? ⟨b,6,none⟩=some (.int .i64 (po:Int)):=aj h1.blk 6
 have c7:V.cell? ⟨b,7,none⟩=some (.int .i64 (pe:Int)):=aj h1.blk 7
 have c8:V.cell? ⟨b,8,none⟩=some (.int .i64 (re:Int)):=aj h1.blk 8
 rw[hV] at c3 c4 c5 c6 c7 c8
 have HX:=Lib.hid (And.intro ji (And.intro hb0 hV))
 clear h1 h ji hb0 hV
 go_enter Tryz.func92,Tryz.ntmps92
 go_wp2
 (try simp only[Exit.inBlock,Exit.then])
 refine bodyPost_ret (v:= .agg #[.int .i64 0,.int .i64 0,.int .i64 (pu:Int),.int .i64 (po:Int),.int .i64 (pe:Int),.int .i64 (re:Int)]) ?res rfl ?_
 case res=>exact eY rfl (.cell w.heap.size 29 _ (0,0) _ rfl (bG w _) Tryz.underlying29 rfl (by kernel_rfl) .nil)
 exact⟨rfl,(Below.refl _ w).alloc (Nat.le_refl _) _⟩
end Go.Proofs.YtilpincgjlclpaaGreat.Ob
end
