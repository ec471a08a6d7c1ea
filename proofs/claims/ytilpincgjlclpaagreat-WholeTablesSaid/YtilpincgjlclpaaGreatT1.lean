import Derived.Test.YtilpincgjlclpaaGreatT0
set_option linter.unusedVariables false
set_option linter.unusedSimpArgs false
section
namespace Go.Proofs.ae.aZ
open Go.Proofs.ae.au (ai)
def xh (md:Region.Mode) (o:Oper):List Nat:=(o.after.toList.filter (fun e=>Region.binds md e)).map (fun e=>e.on)
def Jb (md:Region.Mode) (ops:Array Oper) (i:Nat) (oi:Oper):List Nat:=(List.range ops.size).filter fun j=> !(j==i)&&match ops[j]? with
 |some oj=> !(oj.after.any (fun e=>Region.binds md e&&e.on==i)||oi.apart ops oj)
 |none=>false
def qQ (md:Region.Mode) (ops:Array Oper):Bool×List (List Nat×List Nat):=(Region.noSelect ops,(List.range ops.size).map fun i=>match ops[i]? with
 |some o=>(xh md o,Jb md ops i o)
 |none=>([],[]))
def qI (T:List (List Nat×List Nat)) (l:List Bool) (i:Nat):Bool:= !l.getD i true&&match T[i]? with
 |some r=>r.1.all (fun j=>l.getD j false)
 |none=>false
def Fh (T:List (List Nat×List Nat)) (l:List Bool):List Nat:=(List.range T.length).filter (qI T l)
def MH (T:List (List Nat×List Nat)) (l:List Bool) (i:Nat):Bool:=match T[i]? with
 |some r=>r.2.all (fun j=>l.getD j true)
 |none=>false
def CF (T:List (List Nat×List Nat)) (l:List Bool):Bool:=(List.range T.length).all fun j=> !l.getD j false||match T[j]? with
 |some r=>r.1.all (fun k=>l.getD k false)
 |none=>true
def Bn (T:List (List Nat×List Nat)) (i:Nat):Nat->Nat->Bool
 |0,_=>false
 |fuel+1,d=>match T[d]? with
  |some r=>r.1.any fun j=>j==i||Bn T i fuel j
  |none=>false
def lastT (T:List (List Nat×List Nat)) (l:List Bool) (ds:List Nat) (i:Nat):Bool:=ds.all fun d=>l.getD d true||Bn T i T.length d
section
variable {md:Region.Mode} {ops:Array Oper} {T:Bool×List (List Nat×List Nat)} {l l' li lj lk:Array Bool} {ds:List Nat} {i j k:Nat}
theorem gd (l:Array Bool) (j:Nat) (b:Bool):l.getD j b=l.toList.getD j b:=by simp[Array.getD_eq_getD_getElem?,List.getD_eq_getElem?_getD]
theorem Ie (o:Oper) (p:Nat->Bool):o.after.all (fun e=> !Region.binds md e||p e.on)=(xh md o).all p:=by
 unfold xh
 rw[<-Array.all_toList]
 induction o.after.toList with
 |nil=>rfl
 |cons e r ih=>
  rw[List.all_cons,ih,List.filter_cons]
  cases h:Region.binds md e<;>simp
theorem VN (o:Oper) (p:Nat->Bool):o.after.any (fun e=>Region.binds md e&&p e.on)=(xh md o).any p:=by
 unfold xh
 rw[<-Array.any_toList]
 induction o.after.toList with
 |nil=>rfl
 |cons e r ih=>
  rw[List.any_cons,ih,List.filter_cons]
  cases h:Region.binds md e<;>simp
theorem qJ:(qQ md ops).2.length=ops.size:=by simp[qQ]
theorem xn {o:Oper} (h:ops[i]?=some o):(qQ md ops).2[i]?=some (xh md o,Jb md ops i o):=by
 have hi:=(Array.getElem?_eq_some_iff.1 h).1
 unfold qQ
 rw[List.getElem?_map,List.getElem?_range hi,Option.map_some,h]
theorem xm (h:ops[i]?=none):(qQ md ops).2[i]?=none:=by
 have hi:ops.size<=i:=Array.getElem?_eq_none_iff.1 h
 exact List.getElem?_eq_none (by rw[qJ];exact hi)
theorem Ry:qI (qQ md ops).2 l.toList i=(!l.getD i true&&((ops[i]?).map (·.after.all fun e=> !Region.binds md e||l.getD e.on false)).getD false):=by
 unfold qI
 rw[gd]
 cases h:ops[i]? with
 |none=>rw[xm h];rfl
 |some o=>
  rw[xn h]
  simp only[Option.map_some,Option.getD_some]
  rw[<-Ie]
  simp only[gd]
theorem ready_eq:Region.ready md ops l=Fh (qQ md ops).2 l.toList:=by
 unfold Region.ready Fh
 rw[qJ]
 refine List.filter_congr (fun i _=>?_)
 rw[Ry]
theorem free_eq:Region.free md ops l i=MH (qQ md ops).2 l.toList i:=by
 unfold Region.free MH
 cases h:ops[i]? with
 |none=>rw[xm h]
 |some oi=>
  rw[xn h]
  simp only[Jb]
  rw[List.all_filter]
  congr 1
  funext j
  rw[gd]
  cases hj:ops[j]? with
  |none=>cases(j==i)<;>cases(l.toList.getD j true)<;>simp
  |some oj=>
   cases(j==i)<;>cases(l.toList.getD j true)<;>cases(oj.after.any (fun e=>Region.binds md e&&e.on==i)||oi.apart ops oj)<;>simp_all
theorem Vh:Region.yT md ops l=CF (qQ md ops).2 l.toList:=by
 unfold Region.yT CF
 rw[qJ]
 congr 1
 funext j
 rw[gd]
 cases h:ops[j]? with
 |none=>rw[xm h]
 |some o=>
  rw[xn h]
  simp only
  rw[<-Ie]
  simp only[gd]
theorem NP:∀(fuel d:Nat),Region.oF md ops i fuel d=Bn (qQ md ops).2 i fuel d
 |0,_=>rfl
 |fuel+1,d=>by
  unfold Region.oF Bn
  cases h:ops[d]? with
  |none=>rw[xm h]
  |some o=>
   rw[xn h]
   simp only
   rw[<-VN]
   congr 1
   funext e
   rw[NP fuel]
theorem last_eq:Region.lastB md ops l ds i=lastT (qQ md ops).2 l.toList ds i:=by
 unfold Region.lastB lastT
 rw[qJ]
 congr 1
 funext d
 rw[gd,NP]
theorem BU (h:qI T.2 l.toList i=true) (hT:qQ md ops=T):(Region.ready md ops l).contains i=true:=by
 subst hT
 rw[ready_eq]
 unfold Fh
 rw[List.contains_iff_mem,List.mem_filter,List.mem_range]
 refine⟨?_,h⟩
 unfold qI at h
 rw[Bool.and_eq_true] at h
 cases hq:(qQ md ops).2[i]? with
 |none=>rw[hq] at h;simp at h
 |some r=>exact(List.getElem?_eq_some_iff.1 hq).1
theorem RI (h:(l.toList.set i true==l'.toList)=true):(l.setIfInBounds i true==l')=true:=by
 rw[beq_iff_eq] at h ⊢
 apply Array.ext'
 rw[Array.toList_setIfInBounds]
 exact h
def anyT (T:Bool×List (List Nat×List Nat)) (l l':List Bool) (i:Nat):Bool:=T.1&&MH T.2 l i&&qI T.2 l i&&(l.set i true==l')
theorem DC (hT:qQ md ops=T) (h:anyT T l.toList l'.toList i=true):anyB md ops l l' i=true:=by
 simp only[anyT,Bool.and_eq_true] at h
 obtain⟨⟨⟨h1,h2⟩,h3⟩,h4⟩:=h
 have h5:=BU h3 hT
 have h6:=RI h4
 subst hT
 simp only[anyB,Bool.and_eq_true]
 exact⟨⟨⟨h1,by rw[free_eq];exact h2⟩,h5⟩,h6⟩
def aaC (T:Bool×List (List Nat×List Nat)) (ds:List Nat) (l l':List Bool) (i:Nat):Bool:=T.1&&MH T.2 l i&&qI T.2 l i&&CF T.2 l&&lastT T.2 l ds i&&(l.set i true==l')
theorem take_of (hT:qQ md ops=T) (h:aaC T ds l.toList l'.toList i=true):takeB md ops ds l l' i=true:=by
 simp only[aaC,Bool.and_eq_true] at h
 obtain⟨⟨⟨⟨⟨h1,h2⟩,h3⟩,h4⟩,h5⟩,h6⟩:=h
 have h7:=BU h3 hT
 have h8:=RI h6
 subst hT
 simp only[takeB,Bool.and_eq_true]
 exact⟨⟨⟨⟨⟨h1,by rw[free_eq];exact h2⟩,h7⟩,by rw[Vh];exact h4⟩,by rw[last_eq];exact h5⟩,h8⟩
theorem Qq (hT:qQ md ops=T) (h:(Fh T.2 l.toList==[i]&&l.toList.set i true==l'.toList)=true):Bo md ops l l' i=true:=by
 simp only[Bool.and_eq_true] at h
 obtain⟨h1,h2⟩:=h
 subst hT
 simp only[Bo,Bool.and_eq_true]
 exact⟨by rw[ready_eq];exact h1,RI h2⟩
theorem done_of (hT:qQ md ops=T) (h:(Fh T.2 l.toList==[])=true):(Region.ready md ops l==[])=true:=by
 subst hT
 rw[ready_eq]
 exact h
def upM (B:List Nat) (d:Nat):List Nat->Nat
 |[]=>0
 |n::r=>(2^n|||(if n<d then B.getD n 0 else 0))|||upM B d r
def Af (T:List (List Nat×List Nat)) (B:List Nat):Bool:=(List.range T.length).all fun d=>match T[d]? with
 |some r=>(B.getD d 0|||upM B d r.1)==upM B d r.1
 |none=>false
theorem Uu {B:List Nat} {d i:Nat}:∀{ns:List Nat},(upM B d ns).testBit i=true->∃n∈ns,n=i\/(n<d/\(B.getD n 0).testBit i=true)
 |[],h=>by simp[upM] at h
 |n::r,h=>by
  unfold upM at h
  rw[Nat.testBit_or,Nat.testBit_or,Bool.or_eq_true,Bool.or_eq_true] at h
  rcases h with(h|h)|h
  ·rw[Nat.testBit_two_pow] at h
   exact⟨n,List.mem_cons_self,.inl (by simpa using h)⟩
  ·by_cases hn:n<d
   ·rw[if_pos hn] at h
    exact⟨n,List.mem_cons_self,.inr ⟨hn,h⟩⟩
   ·rw[if_neg hn] at h
    simp at h
  ·obtain⟨m,hm,h2⟩:=Uu h
   exact⟨m,List.mem_cons_of_mem _ hm,h2⟩
theorem Ip {T:List (List Nat×List Nat)} {B:List Nat} (hB:Af T B=true):∀(fuel d:Nat),d<fuel->d<T.length->(B.getD d 0).testBit i=true->Bn T i fuel d=true
 |0,d,h,_,_=>by omega
 |fuel+1,d,h,hd,hb=>by
  have h1:=List.all_eq_true.1 hB d (List.mem_range.2 hd)
  cases hr:T[d]? with
  |none=>rw[hr] at h1;simp at h1
  |some r=>
   rw[hr] at h1
   simp only[beq_iff_eq] at h1
   have h2:(upM B d r.1).testBit i=true:=by rw[<-h1,Nat.testBit_or,hb,Bool.true_or]
   obtain⟨n,hn,h3⟩:=Uu h2
   unfold Bn
   rw[hr]
   simp only
   rw[List.any_eq_true]
   refine⟨n,hn,?_⟩
   rcases h3 with rfl|⟨h4,h5⟩
   ·simp
   ·rw[Ip hB fuel n (by omega) (by omega) h5,Bool.or_true]
def lastW (T:List (List Nat×List Nat)) (B:List Nat) (l:List Bool) (ds:List Nat) (i:Nat):Bool:=ds.all fun d=>l.getD d true||(decide (d<T.length)&&(B.getD d 0).testBit i)
def takeW (T:Bool×List (List Nat×List Nat)) (B:List Nat) (ds:List Nat) (l l':List Bool) (i:Nat):Bool:=T.1&&MH T.2 l i&&qI T.2 l i&&CF T.2 l&&lastW T.2 B l ds i&&(l.set i true==l')
theorem Ot {B:List Nat} (hT:qQ md ops=T) (hB:Af T.2 B=true) (h:takeW T B ds l.toList l'.toList i=true):takeB md ops ds l l' i=true:=by
 refine take_of hT ?_
 simp only[takeW,aaC,Bool.and_eq_true] at h ⊢
 obtain⟨⟨⟨⟨⟨h1,h2⟩,h3⟩,h4⟩,h5⟩,h6⟩:=h
 refine⟨⟨⟨⟨⟨h1,h2⟩,h3⟩,h4⟩,?_⟩,h6⟩
 unfold lastW at h5
 unfold lastT
 rw[List.all_eq_true] at h5 ⊢
 intro d hd
 have h7:=h5 d hd
 rw[Bool.or_eq_true,Bool.and_eq_true,decide_eq_true_eq] at h7
 rcases h7 with h7|⟨h8,h9⟩
 ·rw[h7,Bool.true_or]
 ·rw[Ip hB _ d h8 h8 h9,Bool.or_true]
theorem WE {P:Program} {Q:Exit->Act->World->Prop} {S:World->Prop} {n:Nat} {a:Act} {w:World} {B:List Nat} (hT:qQ md ops=T) (hB:Af T.2 B=true) (h:ai (qQ md ops=T)->ai (Af T.2 B=true)->eX P md ops Q S ds n l a w):eX P md ops Q S ds n l a w:=h ⟨hT⟩ ⟨hB⟩
end
def xL:Code->Nat->Option (Array Oper)
 | .region id ops _,k=>if id==k then some ops else none
 | .seq a b,k=>match xL a k with
  |some o=>some o
  |none=>xL b k
 | .cond _ a b,k=>match xL a k with
  |some o=>some o
  |none=>xL b k
 | .block _ c,k=>xL c k
 | .loop c,k=>xL c k
 | .scope c,k=>xL c k
 | .rangeFunc _ _ a b,k=>match xL a k with
  |some o=>some o
  |none=>xL b k
 |_,_=>none
def opsOf (f:Func) (k:Nat):Array Oper:=((f.body.bind fun c=>xL c k)).getD #[]
end Go.Proofs.ae.aZ
end
section
namespace Go.Proofs.ae.au
open Go.RowKit
namespace Kd
def tag {α:Type} (f:Nat->Nat) (d:Kd α):Kd (α×Nat) where
 sz:=d.sz
 E:=d.E
 K:=fun w x cs=>d.K w x.1 cs
 M:=fun w base ok x cs=>d.M w base (fun k=>ok k/\f k=x.2) x.1 cs
 oI:=fun h=>d.oI h
 pJ:=fun h=>d.pJ h
 kN:=fun hb h=>d.kN hb h
 ku:=fun h=>d.ku h
 gP:=fun hok h=>d.gP (fun k hk=>⟨hok k hk.1,hk.2⟩) h
 jP:=fun h=>d.gP (fun _ hk=>⟨⟨hk.1.1,hk.2⟩,hk.1.2⟩) (d.jP h)
 lK:=fun hm h=>d.lK (fun k hk=>hm k hk.1) h
 kP:=fun hb h=>d.kP hb h
def S {α:Type} (d:Kd α) (e:Nat) (w:World) (base:Nat) (ok:Nat->Prop) (v:Value) (xs:List α):Prop:=∃f,(tag f d).R e w base ok v xs.zipIdx
section
variable {α β:Type} {d:Kd α} {d':Kd β} {e e':Nat} {w w1 W:World} {base b:Nat} {ok ok' Ct OX:Nat->Prop} {u v:Value} {xs:List α} {ys:List β}
theorem FY {xs:List α} {j:Nat} {p:α} (h:xs[j]?=some p):xs.zipIdx[j]?=some (p,j):=by rw[List.getElem?_zipIdx,h,Nat.zero_add];rfl
theorem WI (h:S d e w base ok v xs):d.R e w base ok v xs:=by
 obtain⟨f,h0,inner,ho,hr⟩:=h
 rw[List.length_zipIdx] at ho
 exact⟨h0,inner,ho,by have:=hr.1;rw[List.length_zipIdx] at this;exact this,fun j p hj=>d.gP (fun _ hk=>hk.1) (hr.2 j (p,j) (FY hj))⟩
theorem R_head {ad:Addr} {n cap:Nat} (h:d.R e w base ok (.slice (some ad) n cap) xs):∃g,ad=⟨g,0,none⟩:=by
 obtain⟨_,inner,ho,hr⟩:=h
 rcases ho.2 with⟨hv,_⟩|⟨g,cap',cur,hv,_⟩
 ·cases hv
 ·injection hv with ha _ _
  injection ha with ha
  exact⟨g,ha⟩
theorem R_getA {ad:Addr} {n cap:Nat} (h:d.R e W base ok (.slice (some ad) n cap) xs) (z:α) (i:Int) (h0:0<=i) (h1:i<n):
  ∃c,c.length=d.sz/\d.M W base (fun k=>ok k/\some k≠(Value.slice (some ad) n cap).ownBlock) (xs.getD i.toNat z) c/\∀j u,c[j]?=some u->W.cell? (ad.add (i.toNat*d.sz+j))=some u:=by
 obtain⟨g,rfl⟩:=R_head h
 obtain⟨c,hcl,hM,hcc,_⟩:=R_elem h z i h0 h1
 refine⟨c,hcl,d.gP (fun k hk=>⟨hk.1,fun he=>hk.2 (by simpa[Value.ownBlock] using he)⟩) hM,fun j u hu=>?_⟩
 rw[add_at,Nat.zero_add]
 exact hcc j u hu
theorem kg (d:Kd α) (e:Nat) (w:World) (base:Nat) (ok:Nat->Prop):S d e w base ok (.slice none 0 0) []:=⟨fun _=>0,jM _ _ _ _ _⟩
theorem lM (h:S d e w base ok v xs) (hok:∀k,ok k->ok' k):S d e w base ok' v xs:=by
 obtain⟨f,h⟩:=h
 exact⟨f,dU h hok⟩
theorem S_bound (h:S d e w base ok v xs):S d e w base (fun k=>ok k/\base<=k/\k<w.heap.size/\∃q,q∈e::d.E/\∃cells,w.heap[k]?=some (.cells cells q (0,0))) v xs:=by
 obtain⟨f,h⟩:=h
 exact⟨f,jb h⟩
theorem S_move (h:S d e w base ok v xs) (hm:∀k,ok k->w1.heap[k]?=w.heap[k]?):S d e w1 base ok v xs:=by
 obtain⟨f,h⟩:=h
 exact⟨f,pM h hm⟩
theorem XE (h:S d e w base ok v xs) (hm:∀k,ok k->k<w.heap.size->w1.heap[k]?=w.heap[k]?):S d e w1 base ok v xs:=
 lM (S_move (S_bound h) (fun k hk=>hm k hk.1 hk.2.2.1)) (fun _ hk=>hk.1)
theorem yO (h:S d e w base ok v xs) (hb:Below w.heap.size w w1):S d e w1 base ok v xs:=XE h (fun k _ hk=>hb.block k hk)
theorem gD (h:S d e w base ok v xs):S d e w.drew base ok v xs:=yO h (DD (Below.refl _ _))
theorem S_far (h:S d e w base ok v xs) {p:Addr} (hok:∀k,ok k->k≠p.block) (u:Value):S d e (w.setCell p u) base ok v xs:=XE h (fun k ho _=>Below.heap_setCell w p u k (hok k ho))
theorem S_types (h:S d e w base ok v xs) {g t:Nat} {cells:Array Value} (hb:w.heap[g]?=some (.cells cells t (0,0))) (ht:∀q,q∈e::d.E->q≠t):S d e w base (fun k=>ok k/\k≠g) v xs:=by
 obtain⟨f,h⟩:=h
 exact⟨f,yM h hb ht⟩
theorem jZ (h:S d e w base ok v xs):∀k,v.ownBlock=some k->∃cells,w.heap[k]?=some (.cells cells e (0,0)):=oO (WI h)
theorem S_lt (h:S d e w base ok v xs):∀k,v.ownBlock=some k->k<w.heap.size:=AJ (WI h)
theorem Sk (h:S d e W base ok u xs) (hty:∀k,v.ownBlock=some k->∃cells,W.heap[k]?=some (.cells cells e' (0,0))) (ht:∀q,q∈e::d.E->q≠e') (hg:W.grownBy w1 v.ownBlock):S d e w1 base ok u xs:=by
 obtain⟨f,h⟩:=h
 exact⟨f,sj h hty ht hg⟩
theorem mP (h:S d e W base ok u xs) (hbase:∀k,v.ownBlock=some k->W.heap.size<=k) (hb:Below W.heap.size W w1):S d e w1 base (fun k=>ok k/\some k≠v.ownBlock) u xs:=by
 obtain⟨f,h⟩:=h
 exact⟨f,nW h hbase hb⟩
theorem S_after {v1:Value} (h:S d e W base (fun k=>ok k/\some k≠v.ownBlock) u xs) (hg:W.grownBy w1 v.ownBlock) (hat:v1.ownBlock=v.ownBlock\/∃b,v1.ownBlock=some b/\W.heap.size<=b):S d e w1 base (fun k=>ok k/\some k≠v1.ownBlock) u xs:=by
 obtain⟨f,h⟩:=h
 exact⟨f,oN h hg hat⟩
theorem LJ {f f':Nat->Nat} {zs:List (α×Nat)} (h:(tag f d).R e w base ok v zs) (hf:∀k,ok k->k<w.heap.size->f' k=f k):(tag f' d).R e w base ok v zs:=by
 obtain⟨h0,inner,ho,hr⟩:=jb h
 exact⟨fun k hk=>(h0 k hk).1,inner,ho,hr.1,fun j p hj=>d.gP (fun k hk=>⟨⟨hk.1.1.1,hk.1.2⟩,(hf k hk.1.1.1 hk.1.1.2.2.1).trans hk.2⟩) (hr.2 j p hj)⟩
end
section
variable {α β:Type} {d:Kd α} {d':Kd β} {e e' g:Nat} {w w1 W:World} {base b:Nat} {ok ok' Ct OX:Nat->Prop} {u v:Value} {xs:List α} {ys:List β}
theorem S_ne (h:S d e w base ok v xs) {t:Nat} {cells:Array Value} (hb:w.heap[g]?=some (.cells cells t (0,0))) (ht:e≠t):some g≠v.ownBlock:=kC (WI h) hb ht
theorem Sl (h:S d e w base ok v xs):∃A c,v= .slice A xs.length c:=gL (WI h)
theorem qY {A:Option Addr} {n c:Nat} (h:S d e w base ok (.slice A n c) xs):n=xs.length/\n<=c/\d.C w A xs.length xs:=dP (WI h)
theorem S_get {ad:Addr} {n cap:Nat} (h:S d e W base ok (.slice (some ad) n cap) xs) (z:α) (i:Int) (h0:0<=i) (h1:i<n):
  ∃c,c.length=d.sz/\d.M W base (fun k=>ok k/\some k≠(Value.slice (some ad) n cap).ownBlock) (xs.getD i.toNat z) c/\∀j u,c[j]?=some u->W.cell? (ad.add (i.toNat*d.sz+j))=some u:=R_getA (WI h) z i h0 h1
theorem rY (xs:List α) (p:α):(xs++[p]).zipIdx=xs.zipIdx++[(p,xs.length)]:=by rw[List.zipIdx_append];simp
end
section
open Classical in
theorem GJ {α:Type} {d:Kd α} {e base:Nat} {Ct:Nat->Prop} {w:World} {v:Value} {xs:List α} (h:S d e w base Ct v xs) (m:Nat) (oZ:Nat->Prop) (hap:∀k,oZ k->¬Ct k):∃f,(∀k,oZ k->f k=m)/\(tag f d).R e w base Ct v xs.zipIdx:=by
 obtain⟨f,h⟩:=h
 exact⟨fun k=>if oZ k then m else f k,fun k hk=>if_pos hk,LJ h (fun k hk _=>if_neg (fun h2=>hap k h2 hk))⟩
variable {P:Program} {ops:Array Oper} {rest:List Oper} {o:Oper} {a:Act} {Q:Exit->Act->World->Prop} {Kc:Act->World->Prop} {α:Type}
theorem uT (d:Kd α) {w0 W:World} (base:Nat) (hgd:o.guard=none) (s x:Operand) (t e:TypeId) (z:Value) (bytes:Nat)
  (ho:o.op= .call {callee:= .builtin .append,args:=#[s,x],argTypes:=#[t,t]})
  (ht:P.underlying t=some (.slice e)) (hinfo:(P.info? e).map (fun i=>(i.zero,i.size,i.bytes))=some (some z,d.sz,bytes)) (hz:z.cells.size=d.sz) (hs0:0<d.sz) (hb0:0<bytes)
  (v:Value) (xs:List α) (p:α) (cs:List Value) (ok oZ:Nat->Prop) (hs:a.eval s=v) (hx:a.eval x= .slice (some ⟨W.heap.size,0,none⟩) 1 1) (hp:d.M W base oZ p cs) (Ba:∀k,oZ k->ok k/\some k≠v.ownBlock) (hfresh:∀k,W.heap.size<=k->ok k)
  (HO:S d e W base (fun k=>ok k/\¬oZ k) v xs) (HB:Below base w0 W) (hbase:base<=W.heap.size) (hl:(xs.length+1)*bytes<=140737488355328)
  (h:∀v1 w1,S d e w1 base ok v1 (xs++[p])->Below base w0 w1->W.grownBy w1 v.ownBlock->(v1.ownBlock=v.ownBlock\/∃b,v1.ownBlock=some b/\W.heap.size<=b)->wpList P ops Q rest (a.put o.dst v1) w1):
  wpList P ops Q (o::rest) a (W.alloc (.cells cs.toArray e)):=by
 obtain⟨f,hf,hR⟩:=GJ HO xs.length oZ (fun _ hk h2=>h2.2 hk)
 refine bT (tag f d) base hgd s x t e z bytes ho ht hinfo hz hs0 hb0 v xs.zipIdx (p,xs.length) cs ok oZ hs hx (d.gP (fun k hk=>⟨hk,hf k hk⟩) hp) Ba hfresh (dU hR (fun _ hk=>hk.1)) HB hbase (by rw[List.length_zipIdx];exact hl) ?_
 intro v1 w1 hr
 rw[<-rY] at hr
 exact h v1 w1 ⟨f,hr⟩
theorem Gi (d:Kd α) {w0 W:World} (base:Nat) (hw:Region.wanted o (yielded ops a.tmps)=true) (s x:Operand) (t e:TypeId) (z:Value) (bytes:Nat)
  (ho:o.op= .call {callee:= .builtin .append,args:=#[s,x],argTypes:=#[t,t]})
  (ht:P.underlying t=some (.slice e)) (hinfo:(P.info? e).map (fun i=>(i.zero,i.size,i.bytes))=some (some z,d.sz,bytes)) (hz:z.cells.size=d.sz) (hs0:0<d.sz) (hb0:0<bytes)
  (v:Value) (xs:List α) (p:α) (cs:List Value) (ok oZ:Nat->Prop) (hs:a.eval s=v) (hx:a.eval x= .slice (some ⟨W.heap.size,0,none⟩) 1 1) (hp:d.M W base oZ p cs) (Ba:∀k,oZ k->ok k/\some k≠v.ownBlock) (hfresh:∀k,W.heap.size<=k->ok k)
  (HO:S d e W base (fun k=>ok k/\¬oZ k) v xs) (HB:Below base w0 W) (hbase:base<=W.heap.size) (hl:(xs.length+1)*bytes<=140737488355328)
  (h:∀v1 w1,S d e w1 base ok v1 (xs++[p])->Below base w0 w1->W.grownBy w1 v.ownBlock->(v1.ownBlock=v.ownBlock\/∃b,v1.ownBlock=some b/\W.heap.size<=b)->Kc (a.put o.dst v1) w1):
  if Region.wanted o (yielded ops a.tmps)=true then Oper.wp P o a (W.alloc (.cells cs.toArray e)) Kc Q else Kc (a.put o.dst undef) (W.alloc (.cells cs.toArray e)):=by
 obtain⟨f,hf,hR⟩:=GJ HO xs.length oZ (fun _ hk h2=>h2.2 hk)
 refine Gh (tag f d) base hw s x t e z bytes ho ht hinfo hz hs0 hb0 v xs.zipIdx (p,xs.length) cs ok oZ hs hx (d.gP (fun k hk=>⟨hk,hf k hk⟩) hp) Ba hfresh (dU hR (fun _ hk=>hk.1)) HB hbase (by rw[List.length_zipIdx];exact hl) ?_
 intro v1 w1 hr
 rw[<-rY] at hr
 exact h v1 w1 ⟨f,hr⟩
end
end Kd
end Go.Proofs.ae.au
end
