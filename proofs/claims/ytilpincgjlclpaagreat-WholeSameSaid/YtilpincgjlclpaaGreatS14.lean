import Derived.Test.YtilpincgjlclpaaGreatS13
set_option linter.unusedVariables false
set_option linter.unusedSimpArgs false
namespace Go.Proofs.YtilpincgjlclpaaGreat.Ob
open Go Go.RowKit Bs Pr Go.Proofs.ae.au
def ot (t:Array Value) (i:Nat):Option Value->Array Value
 |some v=>t.setIfInBounds i v
 |none=>t
theorem ot_size (t:Array Value) (i:Nat) (o:Option Value):(ot t i o).size=t.size:=by cases o<;>simp[ot]
theorem ot_get {t:Array Value} {i j:Nat} (h:i≠j) (o:Option Value) (d:Value):(ot t i o).getD j d=t.getD j d:=by
 cases o with
 |none=>rfl
 |some v=>simp[ot,Array.getD_eq_getD_getElem?,Array.getElem?_setIfInBounds,h]
theorem ot_got {t:Array Value} {i:Nat} (h:i<t.size) (v d:Value):(ot t i (some v)).getD i d=v:=by
 simp[ot,Array.getD_eq_getD_getElem?,Array.getElem?_setIfInBounds,h]
theorem ot_set {t:Array Value} {i j:Nat} (h:i≠j) (o:Option Value) (v:Value):(ot t i o).setIfInBounds j v=ot (t.setIfInBounds j v) i o:=by
 cases o with
 |none=>rfl
 |some u=>exact Array.setIfInBounds_comm _ _ h
structure aaJ where
 s19:Option Value
 s20:Option Value
 s116:Option Value
 s119:Option Value
 s120:Option Value
 s121:Option Value
 s123:Option Value
def aaJ.act (A:Act) (s:aaJ):Act:={A with tmps:=ot (ot (ot (ot (ot (ot (ot A.tmps 19 s.s19) 20 s.s20) 116 s.s116) 119 s.s119) 120 s.s120) 121 s.s121) 123 s.s123}
section
variable {A:Act} {s:aaJ}
theorem aaJ.far (j:Nat) (h:j≠19/\j≠20/\j≠116/\j≠119/\j≠120/\j≠121/\j≠123):(s.act A).eval (.tmp j)=A.eval (.tmp j):=by
 show(ot (ot (ot (ot (ot (ot (ot A.tmps 19 s.s19) 20 s.s20) 116 s.s116) 119 s.s119) 120 s.s120) 121 s.s121) 123 s.s123).getD j undef=A.tmps.getD j undef
 rw[ot_get (fun e=>h.2.2.2.2.2.2 e.symm),ot_get (fun e=>h.2.2.2.2.2.1 e.symm),ot_get (fun e=>h.2.2.2.2.1 e.symm),ot_get (fun e=>h.2.2.2.1 e.symm),ot_get (fun e=>h.2.2.1 e.symm),ot_get (fun e=>h.2.1 e.symm),ot_get (fun e=>h.1 e.symm)]
theorem aaJ.e123 {v:Value} (hs:173<=A.tmps.size) (h:s.s123=some v):(s.act A).eval (.tmp 123)=v:=by
 show(ot _ 123 s.s123).getD 123 undef=v
 rw[h,ot_got (by simp only[ot_size];omega)]
theorem aaJ.e121 {v:Value} (hs:173<=A.tmps.size) (h:s.s121=some v):(s.act A).eval (.tmp 121)=v:=by
 show(ot (ot _ 121 s.s121) 123 _).getD 121 undef=v
 rw[ot_get (by decide),h,ot_got (by simp only[ot_size];omega)]
theorem aaJ.e120 {v:Value} (hs:173<=A.tmps.size) (h:s.s120=some v):(s.act A).eval (.tmp 120)=v:=by
 show(ot (ot (ot _ 120 s.s120) 121 _) 123 _).getD 120 undef=v
 rw[ot_get (by decide),ot_get (by decide),h,ot_got (by simp only[ot_size];omega)]
theorem aaJ.e119 {v:Value} (hs:173<=A.tmps.size) (h:s.s119=some v):(s.act A).eval (.tmp 119)=v:=by
 show(ot (ot (ot (ot _ 119 s.s119) 120 _) 121 _) 123 _).getD 119 undef=v
 rw[ot_get (by decide),ot_get (by decide),ot_get (by decide),h,ot_got (by simp only[ot_size];omega)]
theorem aaJ.e116 {v:Value} (hs:173<=A.tmps.size) (h:s.s116=some v):(s.act A).eval (.tmp 116)=v:=by
 show(ot (ot (ot (ot (ot _ 116 s.s116) 119 _) 120 _) 121 _) 123 _).getD 116 undef=v
 rw[ot_get (by decide),ot_get (by decide),ot_get (by decide),ot_get (by decide),h,ot_got (by simp only[ot_size];omega)]
theorem aaJ.e20 {v:Value} (hs:173<=A.tmps.size) (h:s.s20=some v):(s.act A).eval (.tmp 20)=v:=by
 show(ot (ot (ot (ot (ot (ot _ 20 s.s20) 116 _) 119 _) 120 _) 121 _) 123 _).getD 20 undef=v
 rw[ot_get (by decide),ot_get (by decide),ot_get (by decide),ot_get (by decide),ot_get (by decide),h,ot_got (by simp only[ot_size];omega)]
theorem aaJ.e19 {v:Value} (hs:173<=A.tmps.size) (h:s.s19=some v):(s.act A).eval (.tmp 19)=v:=by
 show(ot (ot (ot (ot (ot (ot (ot _ 19 s.s19) 20 _) 116 _) 119 _) 120 _) 121 _) 123 _).getD 19 undef=v
 rw[ot_get (by decide),ot_get (by decide),ot_get (by decide),ot_get (by decide),ot_get (by decide),ot_get (by decide),h,ot_got (by omega)]
theorem aaJ.p123 (h:s.s123=none) (v:Value):(s.act A).put (some 123) v=aaJ.act A {s with s123:=some v}:=by
 unfold aaJ.act Act.put
 simp only[h]
 rfl
theorem aaJ.p121 (h:s.s121=none) (v:Value):(s.act A).put (some 121) v=aaJ.act A {s with s121:=some v}:=by
 unfold aaJ.act Act.put
 simp only[h]
 rw[ot_set (by decide)]
 rfl
theorem aaJ.Qy (h:s.s120=none) (v:Value):(s.act A).put (some 120) v=aaJ.act A {s with s120:=some v}:=by
 unfold aaJ.act Act.put
 simp only[h]
 rw[ot_set (by decide),ot_set (by decide)]
 rfl
theorem aaJ.Qx (h:s.s119=none) (v:Value):(s.act A).put (some 119) v=aaJ.act A {s with s119:=some v}:=by
 unfold aaJ.act Act.put
 simp only[h]
 rw[ot_set (by decide),ot_set (by decide),ot_set (by decide)]
 rfl
theorem aaJ.NH (h:s.s116=none) (v:Value):(s.act A).put (some 116) v=aaJ.act A {s with s116:=some v}:=by
 unfold aaJ.act Act.put
 simp only[h]
 rw[ot_set (by decide),ot_set (by decide),ot_set (by decide),ot_set (by decide)]
 rfl
theorem aaJ.p20 (h:s.s20=none) (v:Value):(s.act A).put (some 20) v=aaJ.act A {s with s20:=some v}:=by
 unfold aaJ.act Act.put
 simp only[h]
 rw[ot_set (by decide),ot_set (by decide),ot_set (by decide),ot_set (by decide),ot_set (by decide)]
 rfl
theorem aaJ.p19 (h:s.s19=none) (v:Value):(s.act A).put (some 19) v=aaJ.act A {s with s19:=some v}:=by
 unfold aaJ.act Act.put
 simp only[h]
 rw[ot_set (by decide),ot_set (by decide),ot_set (by decide),ot_set (by decide),ot_set (by decide),ot_set (by decide)]
 rfl
end
end Go.Proofs.YtilpincgjlclpaaGreat.Ob
namespace Go.Proofs.YtilpincgjlclpaaGreat.Ow
open Go
theorem wanted_of {o:Oper} (h:o.guard=none) (t:Nat->Option Bool):Region.wanted o t=true:=by unfold Region.wanted;rw[h]
theorem wp_enters {P:Program} {o:Oper} {a:Act} {w:World} {K:Act->World->Prop} {Q:Exit->Act->World->Prop} {f:FuncId} {fn:Func} {xs:Array Operand} {ts:Array TypeId} {c:Code} (hf:P.funcs[f]?=some fn) (hname:(fn.name== "runtime.NumGoroutine")=false) (hb:fn.body=some c) (args:Array Value)
  (hop:o.op= .call {callee:= .value (.func f),args:=xs,argTypes:=ts}) (hargs:xs.map a.eval=args) (h:Calls P f args w fun e w'=>∃v,e= .returned v/\K (a.put o.dst v) w'):o.wp P a w K Q:=by
 have he:(callFunc f args).run P w= .ok (.enter f args) w:=by
  have h1:fn.name≠ "runtime.NumGoroutine" :=by simpa using hname
  simp[callFunc,hf,h1,hb]
 have hrun:(execOp a.eval o).run P w= .ok (.enter f args) w:=by
  unfold execOp
  simp[hop,resolve,Deferred.ofValue,invoke,Act.eval,hargs,he]
 unfold Oper.wp
 rw[hrun,Oper.upon_enter]
 refine h.mono fun e w'' hh=>?_
 obtain⟨v,rfl,hk⟩:=hh
 exact hk
theorem wp_value {P:Program} {o:Oper} {a:Act} {w w1:World} {v:Value} {K:Act->World->Prop} {Q:Exit->Act->World->Prop} (hrun:(execOp a.eval o).run P w= .ok (.value v) w1) (h:K (a.put o.dst v) w1):o.wp P a w K Q:=by
 unfold Oper.wp
 rw[hrun]
 exact h
theorem wp_skip {P:Program} {o:Oper} {a:Act} {w w1:World} {K:Act->World->Prop} {Q:Exit->Act->World->Prop} (hd:o.dst=none) (hrun:(execOp a.eval o).run P w= .ok .skip w1) (h:K a w1):o.wp P a w K Q:=by
 unfold Oper.wp
 rw[hrun]
 show K (a.put o.dst undef) w1
 rw[hd]
 exact h
end Go.Proofs.YtilpincgjlclpaaGreat.Ow
namespace Go.Proofs.YtilpincgjlclpaaGreat.Ob
open Go Go.RowKit Bs Pr Go.Proofs.ae.au
abbrev ptr (p:Nat):Value:= .pointer (some ⟨p,0,none⟩)
def set10 (w:World) (g:Nat) (F:ByteArray) (v:Value) (s:S6) (n e:Int):World:=
 ((((((((((w.setCell ⟨g,0,none⟩ (.string F)).setCell ⟨g,1,none⟩ v).setCell ⟨g,2,none⟩ (.int .i64 s.a)).setCell ⟨g,3,none⟩ (.int .i64 s.b)).setCell ⟨g,4,none⟩ (.int .i64 s.c)).setCell ⟨g,5,none⟩ (.int .i64 s.d)).setCell ⟨g,6,none⟩ (.int .i64 s.e)).setCell ⟨g,7,none⟩ (.int .i64 s.f)).setCell ⟨g,8,none⟩ (.int .i64 n)).setCell ⟨g,9,none⟩ (.int .i64 e))
theorem store_ten {a:Act} {o:Oper} {W:World} {p:Nat} {x y:Operand} {F F':ByteArray} {v:Value} {Av:Option Addr} {lv cv:Nat} {s s':S6} {n n' e e':Int} (hop:o.op= .store Gb x y) (hx:a.eval x=ptr p) (hy:a.eval y=uz F' (.slice Av lv cv) s' n' e') (h:W.heap[p]?=some (.cells (lW F v s n e) Gb (0,0))):
  (execOp a.eval o).run Tryz.prog W= .ok .skip (set10 W p F' (.slice Av lv cv) s' n' e'):=by
 obtain⟨y0,y1,y2,y3,y4,y5,y6,y7,y8,y9⟩:=nP h
 obtain⟨g0,g1,g2,g3,g4,g5,g6,g7,g8,g9⟩:=zT h
 unfold uz lW at hy
 unfold execOp set10
 simp only[hop]
 rw[hx,hy]
 clear hx hy
 go_simp
theorem alloc_ten {a:Act} {o:Oper} {W:World} (hop:o.op= .alloc Gb):(execOp a.eval o).run Tryz.prog W= .ok (.value (ptr W.heap.size)) (W.alloc KL):=by
 unfold execOp
 simp only[hop]
 go_simp
 rfl
theorem iface_run {a:Act} {o:Oper} {W:World} {b:Nat} {x:Operand} (hop:o.op= .makeInterface Src.PC x) (hx:a.eval x=ptr b):(execOp a.eval o).run Tryz.prog W= .ok (.value (.iface Src.PC (ptr b))) W:=by
 unfold execOp
 simp only[hop]
 rw[hx]
 clear hx
 go_simp
end Go.Proofs.YtilpincgjlclpaaGreat.Ob
namespace Go.Proofs.YtilpincgjlclpaaGreat.Ob
open Go Go.RowKit Bs Pr Go.Proofs.ae.au
abbrev aaQ:Array Value:=lW ByteArray.empty (.slice none 0 0) z6 0 0
def chainO:Nat->List Nat
 |0=>[2]|1=>[5]|2=>[6]|3=>[7]|4=>[9]|_=>[]
def aaH (k:Nat) (d1 d2:Bool):Array Bool:=#[true,true,decide (1<=k),true,true,decide (2<=k),decide (3<=k),decide (4<=k),true,decide (5<=k),d1,d2,false,false]
def Rd (k:Nat) (d1 d2:Bool):List Nat:=chainO k++(if d1 then[] else[10])++(if d2 then[] else[11])++(if k=5/\d1=true/\d2=true then[12] else[])
structure Ops (ops:Array Oper):Prop where
 f2:∃o ts,ops[2]?=some o/\o.guard=none/\o.dst=some 116/\o.op= .call {callee:= .value (.func 32),args:=#[.tmp 114,.tmp 115],argTypes:=ts}
 f5:∃o ts,ops[5]?=some o/\o.guard=none/\o.dst=some 119/\o.op= .call {callee:= .value (.func 20),args:=#[.tmp 117,.tmp 118],argTypes:=ts}
 f6:∃o ts,ops[6]?=some o/\o.guard=none/\o.dst=some 120/\o.op= .call {callee:= .value (.func 19),args:=#[.tmp 119,.const (.int .i64 (-1))],argTypes:=ts}
 f7:∃o,ops[7]?=some o/\o.guard=none/\o.dst=some 121/\o.op= .makeInterface Src.PC (.tmp 120)
 f9:∃o ts,ops[9]?=some o/\o.guard=none/\o.dst=some 123/\o.op= .call {callee:= .value (.func 33),args:=#[.tmp 121,.tmp 122],argTypes:=ts}
 f10:∃o,ops[10]?=some o/\o.guard=none/\o.dst=some 19/\o.op= .alloc Gb
 f11:∃o,ops[11]?=some o/\o.guard=none/\o.dst=some 20/\o.op= .alloc Gb
 f12:∃o,ops[12]?=some o/\o.guard=none/\o.dst=none/\o.op= .store Gb (.tmp 19) (.tmp 116)
 f13:∃o,ops[13]?=some o/\o.guard=none/\o.dst=none/\o.op= .store Gb (.tmp 20) (.tmp 123)
 rdy:∀k d1 d2,k<=5->Region.ready .any ops (aaH k d1 d2)=Rd k d1 d2
 rd13:Region.ready .any ops ((aaH 5 true true).setIfInBounds 12 true)=[13]
 rdd:Region.ready .any ops (((aaH 5 true true).setIfInBounds 12 true).setIfInBounds 13 true)=[]
structure aaG (wr:World) (a0 aaN:ByteArray) (aaI aaF:Value) (P:List ByteArray) (F0:ByteArray) (S0:S6) (r0:Int):Prop where
 aaP:∀V,Calls Tryz.prog 32 #[.string a0,aaI] V fun e w'=>Below V.heap.size V w'/\∃Av lv cv n,e= .returned (uz F0 (.slice Av lv cv) S0 n r0)
 aaL:∀V,Below wr.heap.size wr V->Calls Tryz.prog 20 #[.string aaN,aaF] V fun e w'=>∃A c,e= .returned (.slice A P.length c)/\Kd.C Kd.string w' A P.length P/\Below V.heap.size V w'
 ne:∀V A c,Below wr.heap.size wr V->Kd.C Kd.string V A P.length P->Calls Tryz.prog 19 #[.slice A P.length c,.int .i64 (-1)] V fun e w'=>∃b ob,e= .returned (ptr b)/\Src.Dy wr.heap.size b ob P 0 (-1) w'/\Below V.heap.size V w'
 aaO:∀V b ob,Below wr.heap.size wr V->Src.Dy wr.heap.size b ob P 0 (-1) V->Calls Tryz.prog 33 #[.iface Src.PC (ptr b),aaI] V fun e w'=>Below wr.heap.size wr w'/\(∀(x:Nat) (cs:Array Value) (fr:Nat×Nat),V.heap[x]?=some (.cells cs Gb fr)->w'.heap[x]?=some (.cells cs Gb fr))/\∃Av lv cv n,e= .returned (uz F0 (.slice Av lv cv) S0 n r0)
structure Iv (wr:World) (P:List ByteArray) (F0:ByteArray) (S0:S6) (r0:Int) (k:Nat) (d1 d2:Bool) (s:aaJ) (W:World):Prop where
 hB:Below wr.heap.size wr W
 n116:k=0->s.s116=none
 y116:0<k->∃Av lv cv n,s.s116=some (uz F0 (.slice Av lv cv) S0 n r0)
 n119:k<=1->s.s119=none
 i119:2<=k->∃v,s.s119=some v
 y119:k=2->∃A c,s.s119=some (.slice A P.length c)/\Kd.C Kd.string W A P.length P
 n120:k<=2->s.s120=none
 i120:3<=k->∃v,s.s120=some v
 y120:k=3->∃b ob,s.s120=some (ptr b)/\Src.Dy wr.heap.size b ob P 0 (-1) W
 n121:k<=3->s.s121=none
 i121:4<=k->∃v,s.s121=some v
 y121:k=4->∃b ob,s.s121=some (.iface Src.PC (ptr b))/\Src.Dy wr.heap.size b ob P 0 (-1) W
 n123:k<=4->s.s123=none
 y123:k=5->∃Av lv cv n,s.s123=some (uz F0 (.slice Av lv cv) S0 n r0)
 n19:d1=false->s.s19=none
 y19:d1=true->∃p,s.s19=some (ptr p)/\wr.heap.size<=p/\W.heap[p]?=some (.cells aaQ Gb (0,0))
 n20:d2=false->s.s20=none
 y20:d2=true->∃p,s.s20=some (ptr p)/\wr.heap.size<=p/\W.heap[p]?=some (.cells aaQ Gb (0,0))
 ne:∀p q,s.s19=some (ptr p)->s.s20=some (ptr q)->p≠q
section
variable {wr:World} {P:List ByteArray} {F0:ByteArray} {S0:S6} {r0:Int} {k:Nat} {d1 d2:Bool} {s:aaJ} {W V:World}
theorem Iv.grow (h:Iv wr P F0 S0 r0 k d1 d2 s W) (hB':Below W.heap.size W V):Iv wr P F0 S0 r0 k d1 d2 s V:=
 {h with
  hB:=h.hB.trans (hB'.mono h.hB.size)
  y119:=fun e=>by obtain⟨A,c,h1,h2⟩:=h.y119 e;exact⟨A,c,h1,Kd.bY h2 hB'⟩
  y120:=fun e=>by obtain⟨b,ob,h1,h2⟩:=h.y120 e;exact⟨b,ob,h1,h2.fr (S:=fun _=>False) (Fr.dL hB') (fun h=>h) (fun _ _ h=>h)⟩
  y121:=fun e=>by obtain⟨b,ob,h1,h2⟩:=h.y121 e;exact⟨b,ob,h1,h2.fr (S:=fun _=>False) (Fr.dL hB') (fun h=>h) (fun _ _ h=>h)⟩
  y19:=fun e=>by obtain⟨p,h1,h2,h3⟩:=h.y19 e;exact⟨p,h1,h2,(hB'.block _ (Bs.bA h3)).trans h3⟩
  y20:=fun e=>by obtain⟨p,h1,h2,h3⟩:=h.y20 e;exact⟨p,h1,h2,(hB'.block _ (Bs.bA h3)).trans h3⟩}
theorem Iv.lay1 (h:Iv wr P F0 S0 r0 k false d2 s W):Iv wr P F0 S0 r0 k true d2 {s with s19:=some (ptr W.heap.size)} (W.alloc KL):=
 {h.grow ((Below.refl _ W).alloc (Nat.le_refl _) KL) with
  n19:=fun e=>by cases e
  y19:=fun _=>⟨_,rfl,h.hB.size,Bs.bG W _⟩
  ne:=fun p q h1 h2=>by
   cases h1
   have h2':s.s20=some (ptr q):=h2
   cases hd:d2 with
   |false=>rw[h.n20 hd] at h2';cases h2'
   |true=>
    obtain⟨q',e1,_,e3⟩:=h.y20 hd
    rw[e1] at h2'
    cases h2'
    exact(Nat.ne_of_lt (Bs.bA e3)).symm}
theorem Iv.lay2 (h:Iv wr P F0 S0 r0 k d1 false s W):Iv wr P F0 S0 r0 k d1 true {s with s20:=some (ptr W.heap.size)} (W.alloc KL):=
 {h.grow ((Below.refl _ W).alloc (Nat.le_refl _) KL) with
  n20:=fun e=>by cases e
  y20:=fun _=>⟨_,rfl,h.hB.size,Bs.bG W _⟩
  ne:=fun p q h1 h2=>by
   cases h2
   have h1':s.s19=some (ptr p):=h1
   cases hd:d1 with
   |false=>rw[h.n19 hd] at h1';cases h1'
   |true=>
    obtain⟨q',e1,_,e3⟩:=h.y19 hd
    rw[e1] at h1'
    cases h1'
    exact Nat.ne_of_lt (Bs.bA e3)}
end
end Go.Proofs.YtilpincgjlclpaaGreat.Ob
namespace Go.Proofs.YtilpincgjlclpaaGreat.Ob
open Go Go.RowKit Bs Pr Go.Proofs.ae.au
section
variable {wr:World} {P:List ByteArray} {F0:ByteArray} {S0:S6} {r0:Int} {k:Nat} {d1 d2:Bool} {s:aaJ} {W V:World}
theorem Iv.call1 {v:Value} (hB:Below W.heap.size W V) (hv:∃Av lv cv n,v=uz F0 (.slice Av lv cv) S0 n r0) (h:Iv wr P F0 S0 r0 0 d1 d2 s W):Iv wr P F0 S0 r0 1 d1 d2 {s with s116:=some v} V:=
 {h.grow hB with
  n116:=fun e=>by omega
  y116:=fun _=>by obtain⟨a,b,c,n,rfl⟩:=hv;exact⟨a,b,c,n,rfl⟩
  n119:=fun e=>h.n119 (by omega)
  i119:=fun e=>by omega
  y119:=fun e=>by omega
  n120:=fun e=>h.n120 (by omega)
  i120:=fun e=>by omega
  y120:=fun e=>by omega
  n121:=fun e=>h.n121 (by omega)
  i121:=fun e=>by omega
  y121:=fun e=>by omega
  n123:=fun e=>h.n123 (by omega)
  y123:=fun e=>by omega}
theorem Iv.call2 {v:Value} (hB:Below W.heap.size W V) (hv:∃A c,v= .slice A P.length c/\Kd.C Kd.string V A P.length P) (h:Iv wr P F0 S0 r0 1 d1 d2 s W):Iv wr P F0 S0 r0 2 d1 d2 {s with s119:=some v} V:=
 {h.grow hB with
  n116:=fun e=>by omega
  y116:=fun e=>h.y116 (by omega)
  n119:=fun e=>by omega
  i119:=fun _=>⟨_,rfl⟩
  y119:=fun _=>by obtain⟨a,c,rfl,h1⟩:=hv;exact⟨a,c,rfl,h1⟩
  n120:=fun e=>h.n120 (by omega)
  i120:=fun e=>by omega
  y120:=fun e=>by omega
  n121:=fun e=>h.n121 (by omega)
  i121:=fun e=>by omega
  y121:=fun e=>by omega
  n123:=fun e=>h.n123 (by omega)
  y123:=fun e=>by omega}
theorem Iv.call3 {v:Value} (hB:Below W.heap.size W V) (hv:∃b ob,v=ptr b/\Src.Dy wr.heap.size b ob P 0 (-1) V) (h:Iv wr P F0 S0 r0 2 d1 d2 s W):Iv wr P F0 S0 r0 3 d1 d2 {s with s120:=some v} V:=
 {h.grow hB with
  n116:=fun e=>by omega
  y116:=fun e=>h.y116 (by omega)
  n119:=fun e=>by omega
  i119:=fun e=>h.i119 (by omega)
  y119:=fun e=>by omega
  n120:=fun e=>by omega
  i120:=fun _=>⟨_,rfl⟩
  y120:=fun _=>by obtain⟨a,c,rfl,h1⟩:=hv;exact⟨a,c,rfl,h1⟩
  n121:=fun e=>h.n121 (by omega)
  i121:=fun e=>by omega
  y121:=fun e=>by omega
  n123:=fun e=>h.n123 (by omega)
  y123:=fun e=>by omega}
theorem Iv.call4 {v:Value} (hB:Below W.heap.size W V) (hv:∃b ob,v= .iface Src.PC (ptr b)/\Src.Dy wr.heap.size b ob P 0 (-1) V) (h:Iv wr P F0 S0 r0 3 d1 d2 s W):Iv wr P F0 S0 r0 4 d1 d2 {s with s121:=some v} V:=
 {h.grow hB with
  n116:=fun e=>by omega
  y116:=fun e=>h.y116 (by omega)
  n119:=fun e=>by omega
  i119:=fun e=>h.i119 (by omega)
  y119:=fun e=>by omega
  n120:=fun e=>by omega
  i120:=fun e=>h.i120 (by omega)
  y120:=fun e=>by omega
  n121:=fun e=>by omega
  i121:=fun _=>⟨_,rfl⟩
  y121:=fun _=>by obtain⟨a,c,rfl,h1⟩:=hv;exact⟨a,c,rfl,h1⟩
  n123:=fun e=>h.n123 (by omega)
  y123:=fun e=>by omega}
theorem Iv.call5 {v:Value} (hB:Below wr.heap.size wr V) (hz:∀(x:Nat) (cs:Array Value) (fr:Nat×Nat),W.heap[x]?=some (.cells cs Gb fr)->V.heap[x]?=some (.cells cs Gb fr)) (hv:∃Av lv cv n,v=uz F0 (.slice Av lv cv) S0 n r0) (h:Iv wr P F0 S0 r0 4 d1 d2 s W):Iv wr P F0 S0 r0 5 d1 d2 {s with s123:=some v} V:=
 {hB:=hB
  n116:=fun e=>by omega
  y116:=fun e=>h.y116 (by omega)
  n119:=fun e=>by omega
  i119:=fun e=>h.i119 (by omega)
  y119:=fun e=>by omega
  n120:=fun e=>by omega
  i120:=fun e=>h.i120 (by omega)
  y120:=fun e=>by omega
  n121:=fun e=>by omega
  i121:=fun e=>h.i121 (by omega)
  y121:=fun e=>by omega
  n123:=fun e=>by omega
  y123:=fun _=>by obtain⟨a,b,c,n,rfl⟩:=hv;exact⟨a,b,c,n,rfl⟩
  n19:=h.n19
  y19:=fun e=>by obtain⟨p,h1,h2,h3⟩:=h.y19 e;exact⟨p,h1,h2,hz _ _ _ h3⟩
  n20:=h.n20
  y20:=fun e=>by obtain⟨p,h1,h2,h3⟩:=h.y20 e;exact⟨p,h1,h2,hz _ _ _ h3⟩
  ne:=h.ne}
end
end Go.Proofs.YtilpincgjlclpaaGreat.Ob
namespace Go.Proofs.YtilpincgjlclpaaGreat.Ob
open Go Go.RowKit Bs Pr Go.Proofs.ae.au
theorem set10_fr {S:Nat->Prop} {w0 w:World} {g:Nat} (h:Fr S w0 w) (hg:S g\/w0.heap.size<=g) (F:ByteArray) (v:Value) (s:S6) (n e:Int):Fr S w0 (set10 w g F v s n e):=pY h hg _ _ _ _ _ _ _ _ _ _
section
variable {ops:Array Oper} {Q:Exit->Act->World->Prop} {S:World->Prop} {A:Act} {wr:World} {a0 aaN:ByteArray} {aaI aaF:Value} {P:List ByteArray} {F0:ByteArray} {S0:S6} {r0:Int}
def Fin21 (wr:World) (F0:ByteArray) (S0:S6) (r0:Int) (p1 p2:Nat) (W:World):Prop:=
 ∃(Av aaE:Option Addr) (lv lw cv cw:Nat) (n1 n2:Int),W.heap[p1]?=some (.cells (lW F0 (.slice Av lv cv) S0 n1 r0) Gb (0,0))/\W.heap[p2]?=some (.cells (lW F0 (.slice aaE lw cw) S0 n2 r0) Gb (0,0))/\Below wr.heap.size wr W
theorem tail21 (hO:Ops ops) (hA:173<=A.tmps.size) (hS:∀V,Below wr.heap.size wr V->S V)
  (hQ:∀(s:aaJ) (p1 p2:Nat) (v1 v2 v3 v4 v5:Value) (W:World),s=⟨some (ptr p1),some (ptr p2),some v1,some v2,some v3,some v4,some v5⟩->Fin21 wr F0 S0 r0 p1 p2 W->Q .normal (s.act A) W)
  {s:aaJ} {W:World} (h:Iv wr P F0 S0 r0 5 true true s W):Ow.oG Tryz.prog .any ops Q S (fun _=>false) 2 (aaH 5 true true) (s.act A) W:=by
 obtain⟨Av,lv,cv,n1,e116⟩:=h.y116 (by omega)
 obtain⟨aaE,lw,cw,n2,e123⟩:=h.y123 rfl
 obtain⟨p1,e19,l1,z1⟩:=h.y19 rfl
 obtain⟨p2,e20,l2,z2⟩:=h.y20 rfl
 obtain⟨v2,e119⟩:=h.i119 (by omega)
 obtain⟨v3,e120⟩:=h.i120 (by omega)
 obtain⟨v4,e121⟩:=h.i121 (by omega)
 have hne:=h.ne p1 p2 e19 e20
 obtain⟨o12,a1,a2,a3,a4⟩:=hO.f12
 obtain⟨o13,b1,b2,b3,b4⟩:=hO.f13
 have f1:=set10_fr (S:=fun j=>j=p1) (Fr.refl _ W) (g:=p1) (.inl rfl) F0 (.slice Av lv cv) S0 n1 r0
 have k1:(set10 W p1 F0 (.slice Av lv cv) S0 n1 r0).heap[p1]?=some (.cells (lW F0 (.slice Av lv cv) S0 n1 r0) Gb (0,0)):=mX z1
 have k2:=f1.heap z2 (fun e=>hne e.symm)
 have B1:=h.hB.trans (f1.toBelow (fun i hi=>by rw[show i=p1 from hi];exact l1) h.hB.size)
 have f2:=set10_fr (S:=fun j=>j=p2) (Fr.refl _ (set10 W p1 F0 (.slice Av lv cv) S0 n1 r0)) (g:=p2) (.inl rfl) F0 (.slice aaE lw cw) S0 n2 r0
 have k3:(set10 (set10 W p1 F0 (.slice Av lv cv) S0 n1 r0) p2 F0 (.slice aaE lw cw) S0 n2 r0).heap[p2]?=some (.cells (lW F0 (.slice aaE lw cw) S0 n2 r0) Gb (0,0)):=mX k2
 have k4:=f2.heap k1 (fun e=>hne e)
 have B2:=B1.trans (f2.toBelow (fun i hi=>by rw[show i=p2 from hi];exact l2) B1.size)
 have hr:Region.ready .any ops (aaH 5 true true)=[12]:=hO.rdy 5 true true (Nat.le_refl _)
 refine Ow.bJ hr (by simp) (Ow.dV.cons a1 (fun K hK=>?_) Ow.dV.nil)
 rw[if_pos (Ow.wanted_of a2 _)]
 refine Ow.wp_skip a3 (store_ten a4 (aaJ.e19 hA e19) (aaJ.e116 hA e116) z1) (hK.out _ _ (fun _=>hS _ B1) ?_)
 refine Ow.bJ hO.rd13 (by simp) (Ow.dV.cons b1 (fun K hK=>?_) Ow.dV.nil)
 rw[if_pos (Ow.wanted_of b2 _)]
 refine Ow.wp_skip b3 (store_ten b4 (aaJ.e20 hA e20) (aaJ.e123 hA e123) k2) (hK.out _ _ (fun _=>hS _ B2) ?_)
 refine Ow.mD hO.rdd ?_ _
 refine hQ s p1 p2 (uz F0 (.slice Av lv cv) S0 n1 r0) v2 v3 v4 (uz F0 (.slice aaE lw cw) S0 n2 r0) _ ?_ ⟨Av,aaE,lv,lw,cv,cw,n1,n2,k4,k3,B2⟩
 obtain⟨s1,s2,s3,s4,s5,s6,s7⟩:=s
 simp only at e19 e20 e116 e123 e119 e120 e121
 rw[e19,e20,e116,e123,e119,e120,e121]
theorem run21 (hO:Ops ops) (hC:aaG wr a0 aaN aaI aaF P F0 S0 r0) (hA:173<=A.tmps.size) (hS:∀V,Below wr.heap.size wr V->S V)
  (h114:A.eval (.tmp 114)= .string a0) (h115:A.eval (.tmp 115)=aaI) (h117:A.eval (.tmp 117)= .string aaN) (h118:A.eval (.tmp 118)=aaF) (h122:A.eval (.tmp 122)=aaI)
  (hQ:∀(s:aaJ) (p1 p2:Nat) (v1 v2 v3 v4 v5:Value) (W:World),s=⟨some (ptr p1),some (ptr p2),some v1,some v2,some v3,some v4,some v5⟩->Fin21 wr F0 S0 r0 p1 p2 W->Q .normal (s.act A) W):
  ∀(n k:Nat) (d1 d2:Bool) (s:aaJ) (W:World),k<=5->(5-k)+(if d1 then 0 else 1)+(if d2 then 0 else 1)=n->Iv wr P F0 S0 r0 k d1 d2 s W->Ow.oG Tryz.prog .any ops Q S (fun _=>false) (n+2) (aaH k d1 d2) (s.act A) W:=by
 intro n
 induction n with
 |zero=>
  intro k d1 d2 s W hk hn h
  have h1:d1=true:=by cases d1<;>simp at hn ⊢
  have h2:d2=true:=by cases d2<;>simp at hn ⊢
  subst h1 h2
  have h5:k=5:=by simp at hn;omega
  subst h5
  exact tail21 hO hA hS hQ h
 |succ n ih=>
  intro k d1 d2 s W hk hn h
  have hr:=hO.rdy k d1 d2 hk
  refine⟨fun h0=>?_,fun i hi=>?_⟩
  ·rw[hr] at h0
   exfalso
   unfold Rd at h0
   simp only[List.append_eq_nil_iff] at h0
   obtain⟨⟨⟨g1,g2⟩,g3⟩,_⟩:=h0
   have h1:d1=true:=by cases d1<;>simp at g2 ⊢
   have h2:d2=true:=by cases d2<;>simp at g3 ⊢
   subst h1 h2
   simp at hn
   have:k=0\/k=1\/k=2\/k=3\/k=4:=by omega
   rcases this with rfl|rfl|rfl|rfl|rfl<;>cases g1
  ·rw[hr] at hi
   unfold Rd at hi
   simp only[List.mem_append] at hi
   rcases hi with((hi|hi)|hi)|hi
   ·have hk5:k=0\/k=1\/k=2\/k=3\/k=4:=by
     rcases Nat.lt_or_ge k 5 with h5|h5
     ·omega
     ·have:k=5:=by omega
      subst this
      simp[chainO] at hi
    rcases hk5 with rfl|rfl|rfl|rfl|rfl
    ·have hi2:i=2:=by simpa[chainO] using hi
     subst hi2
     obtain⟨o,ts,a1,a2,a3,a4⟩:=hO.f2
     refine wpOp_step a1 fun K hK=>?_
     rw[if_pos (Ow.wanted_of a2 _)]
     refine Ow.wp_enters Tryz.func32 (by rfl) (by rfl) _ a4 (by rw[List.map_toArray,List.map_cons,List.map_cons,List.map_nil,aaJ.far 114 (by decide),aaJ.far 115 (by decide),h114,h115]) ((hC.aaP W).mono ?_)
     rintro e V ⟨hV,Av,lv,cv,n1,rfl⟩
     refine⟨_,rfl,hK _ _ ⟨fun _=>hS _ (h.hB.trans (hV.mono h.hB.size)),?_⟩⟩
     rw[a3,aaJ.NH (h.n116 rfl)]
     exact ih 1 d1 d2 _ V (by omega) (by omega) (h.call1 hV ⟨_,_,_,_,rfl⟩)
    ·have hi2:i=5:=by simpa[chainO] using hi
     subst hi2
     obtain⟨o,ts,a1,a2,a3,a4⟩:=hO.f5
     refine wpOp_step a1 fun K hK=>?_
     rw[if_pos (Ow.wanted_of a2 _)]
     refine Ow.wp_enters Tryz.func20 (by rfl) (by rfl) _ a4 (by rw[List.map_toArray,List.map_cons,List.map_cons,List.map_nil,aaJ.far 117 (by decide),aaJ.far 118 (by decide),h117,h118]) ((hC.aaL W h.hB).mono ?_)
     rintro e V ⟨A9,c9,rfl,hC9,hV⟩
     refine⟨_,rfl,hK _ _ ⟨fun _=>hS _ (h.hB.trans (hV.mono h.hB.size)),?_⟩⟩
     rw[a3,aaJ.Qx (h.n119 (by omega))]
     exact ih 2 d1 d2 _ V (by omega) (by omega) (h.call2 hV ⟨_,_,rfl,hC9⟩)
    ·have hi2:i=6:=by simpa[chainO] using hi
     subst hi2
     obtain⟨A9,c9,e119,hC9⟩:=h.y119 rfl
     obtain⟨o,ts,a1,a2,a3,a4⟩:=hO.f6
     refine wpOp_step a1 fun K hK=>?_
     rw[if_pos (Ow.wanted_of a2 _)]
     refine Ow.wp_enters Tryz.func19 (by rfl) (by rfl) _ a4 (by rw[List.map_toArray,List.map_cons,List.map_cons,List.map_nil,aaJ.e119 hA e119];rfl) ((hC.ne W A9 c9 h.hB hC9).mono ?_)
     rintro e V ⟨b,ob,rfl,hb,hV⟩
     refine⟨_,rfl,hK _ _ ⟨fun _=>hS _ (h.hB.trans (hV.mono h.hB.size)),?_⟩⟩
     rw[a3,aaJ.Qy (h.n120 (by omega))]
     exact ih 3 d1 d2 _ V (by omega) (by omega) (h.call3 hV ⟨_,_,rfl,hb⟩)
    ·have hi2:i=7:=by simpa[chainO] using hi
     subst hi2
     obtain⟨b,ob,e120,hb⟩:=h.y120 rfl
     obtain⟨o,a1,a2,a3,a4⟩:=hO.f7
     refine wpOp_step a1 fun K hK=>?_
     rw[if_pos (Ow.wanted_of a2 _)]
     refine Ow.wp_value (iface_run a4 (aaJ.e120 hA e120)) (hK _ _ ⟨fun _=>hS _ h.hB,?_⟩)
     rw[a3,aaJ.p121 (h.n121 (by omega))]
     exact ih 4 d1 d2 _ W (by omega) (by omega) (h.call4 (Below.refl _ W) ⟨_,_,rfl,hb⟩)
    ·have hi2:i=9:=by simpa[chainO] using hi
     subst hi2
     obtain⟨b,ob,e121,hb⟩:=h.y121 rfl
     obtain⟨o,ts,a1,a2,a3,a4⟩:=hO.f9
     refine wpOp_step a1 fun K hK=>?_
     rw[if_pos (Ow.wanted_of a2 _)]
     refine Ow.wp_enters Tryz.func33 (by rfl) (by rfl) _ a4 (by rw[List.map_toArray,List.map_cons,List.map_cons,List.map_nil,aaJ.e121 hA e121,aaJ.far 122 (by decide),h122]) ((hC.aaO W b ob h.hB hb).mono ?_)
     rintro e V ⟨hV,hz,Av,lv,cv,n1,rfl⟩
     refine⟨_,rfl,hK _ _ ⟨fun _=>hS _ hV,?_⟩⟩
     rw[a3,aaJ.p123 (h.n123 (by omega))]
     exact ih 5 d1 d2 _ V (by omega) (by omega) (Iv.call5 hV hz ⟨_,_,_,_,rfl⟩ h)
   ·cases d1 with
    |true=>simp at hi
    |false=>
     have hi2:i=10:=by simpa using hi
     subst hi2
     obtain⟨o,a1,a2,a3,a4⟩:=hO.f10
     refine wpOp_step a1 fun K hK=>?_
     rw[if_pos (Ow.wanted_of a2 _)]
     refine Ow.wp_value (alloc_ten a4) (hK _ _ ⟨fun _=>hS _ (h.hB.alloc h.hB.size _),?_⟩)
     rw[a3,aaJ.p19 (h.n19 rfl)]
     have:=ih k true d2 _ _ hk (by simp at hn ⊢;omega) h.lay1
     simpa[aaH] using this
   ·cases d2 with
    |true=>simp at hi
    |false=>
     have hi2:i=11:=by simpa using hi
     subst hi2
     obtain⟨o,a1,a2,a3,a4⟩:=hO.f11
     refine wpOp_step a1 fun K hK=>?_
     rw[if_pos (Ow.wanted_of a2 _)]
     refine Ow.wp_value (alloc_ten a4) (hK _ _ ⟨fun _=>hS _ (h.hB.alloc h.hB.size _),?_⟩)
     rw[a3,aaJ.p20 (h.n20 rfl)]
     have:=ih k d1 true _ _ hk (by simp at hn ⊢;omega) h.lay2
     simpa[aaH] using this
   ·exfalso
    split at hi
    ·rename_i h9
     obtain⟨rfl,rfl,rfl⟩:=h9
     simp at hn
    ·simp at hi
end
end Go.Proofs.YtilpincgjlclpaaGreat.Ob
namespace Go.Proofs.YtilpincgjlclpaaGreat.Ob
open Go Go.RowKit Bs Pr Go.Proofs.ae.au
theorem start21 {ops:Array Oper} {Q:Exit->Act->World->Prop} {S:World->Prop} {A:Act} {wr V0:World} {a0 aaN:ByteArray} {aaI aaF:Value} {P:List ByteArray} {F0:ByteArray} {S0:S6} {r0:Int} (hO:Ops ops) (hC:aaG wr a0 aaN aaI aaF P F0 S0 r0) (hA:173<=A.tmps.size) (hS:∀V,Below wr.heap.size wr V->S V)
  (h114:A.eval (.tmp 114)= .string a0) (h115:A.eval (.tmp 115)=aaI) (h117:A.eval (.tmp 117)= .string aaN) (h118:A.eval (.tmp 118)=aaF) (h122:A.eval (.tmp 122)=aaI) (h0:Below wr.heap.size wr V0)
  (hQ:∀(s:aaJ) (p1 p2:Nat) (v1 v2 v3 v4 v5:Value) (W:World),s=⟨some (ptr p1),some (ptr p2),some v1,some v2,some v3,some v4,some v5⟩->Fin21 wr F0 S0 r0 p1 p2 W->Q .normal (s.act A) W):
  Ow.oG Tryz.prog .any ops Q S (fun _=>false) 9 (aaH 0 false false) A V0:=
 run21 hO hC hA hS h114 h115 h117 h118 h122 hQ 7 0 false false ⟨none,none,none,none,none,none,none⟩ V0 (by omega) rfl
  ⟨h0,fun _=>rfl,fun e=>by omega,fun _=>rfl,fun e=>by omega,fun e=>by omega,fun _=>rfl,fun e=>by omega,fun e=>by omega,fun _=>rfl,fun e=>by omega,fun e=>by omega,fun _=>rfl,fun e=>by omega,fun _=>rfl,fun e=>(by cases e),fun _=>rfl,fun e=>(by cases e),fun p q e=>by cases e⟩
end Go.Proofs.YtilpincgjlclpaaGreat.Ob
namespace Go.Proofs.YtilpincgjlclpaaGreat.Ob
open Go Go.RowKit
theorem keep27 {V W W':World} {q p:Nat} {a b c F:Value} (h:Below V.heap.size V W/\W.cell? ⟨q,0,none⟩=some a/\W.cell? ⟨q,1,none⟩=some b/\W.cell? ⟨q,2,none⟩=some c/\W.cell? ⟨p,0,none⟩=some F) (hB:Below W.heap.size W W'):
  Below V.heap.size V W'/\W'.cell? ⟨q,0,none⟩=some a/\W'.cell? ⟨q,1,none⟩=some b/\W'.cell? ⟨q,2,none⟩=some c/\W'.cell? ⟨p,0,none⟩=some F:=by
 obtain⟨h0,h1,h2,h3,h4⟩:=h
 have k:∀{x:Addr} {v:Value},W.cell? x=some v->W'.cell? x=some v:=fun hx=>(hB.cell (World.block_lt_of_cell? _ _ hx)).trans hx
 exact⟨h0.trans (hB.mono h0.size),k h1,k h2,k h3,k h4⟩
end Go.Proofs.YtilpincgjlclpaaGreat.Ob
namespace Go.Proofs.YtilpincgjlclpaaGreat.Ob
open Go Go.RowKit
theorem field_file (W:World) (F:ByteArray) (A:Option Addr) (l c:Nat) (t0 t1 t2 t3 t4 t5 n e:Int):(Instr.field Gb (.agg #[.string F,.slice A l c,.int .i64 t0,.int .i64 t1,.int .i64 t2,.int .i64 t3,.int .i64 t4,.int .i64 t5,.int .i64 n,.int .i64 e]) 0).run Tryz.prog W= .ok (.string F) W:=by
 kernel_rfl
end Go.Proofs.YtilpincgjlclpaaGreat.Ob
