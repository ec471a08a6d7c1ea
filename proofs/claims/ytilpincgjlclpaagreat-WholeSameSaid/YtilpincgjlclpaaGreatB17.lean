import Derived.Laws.StructEq
import Derived.Shelf.SlicesE.Kit
import Derived.Test.YtilpincgjlclpaaGreatB16
set_option linter.unusedVariables false
set_option linter.unusedSimpArgs false
section
namespace Go.Proofs.YtilpincgjlclpaaGreat.Ob
open Go Go.RowKit Bs Mp jL
section
variable {B b cb ab left touched n M:Nat} {w w':World} {vs vc:Value} {tg:Nat->Tag} {gF:List Nat} {am:List (P2×Value)} {ws:List (List Int)} {cs:List Int} {f:P2->Int} {rws:P2->List Nat} {T:Nat->Prop}
theorem nL.keep (h:nL B w b vs vc cb ab tg gF am ws cs f rws left touched n M) {t0:Tag} (hF:Fr (fun k=>tg k=t0) w w') {t:Tag} {k:Nat} (h1:tg k=t) (h2:t≠ .no) (h3:t≠t0):w'.heap[k]?=w.heap[k]?:=
 hF.blk k (h.lt k (by rw[h1];exact h2)).2 (fun e=>h3 (by rw[<-h1,e]))
theorem nL.del (h:nL B w b vs vc cb ab tg gF am ws cs f rws left touched n M) {p:P2} (hM:mp VK w' ab (Mp.del am p)) (hF:Fr (fun k=>k=ab) w w'):nL B w' b vs vc cb ab tg gF (Mp.del am p) ws cs f (fun r=>if r=p then[] else rws r) left touched n M:=by
 have keep:∀{t:Tag} {k:Nat},tg k=t->t≠ .no->t≠ .am->w'.heap[k]?=w.heap[k]?:=fun{t k} h1 h2 h3=>hF.blk k (h.lt k (by rw[h1];exact h2)).2 (fun e=>h3 (by rw[<-h1,e,h.Gw]))
 refine⟨h.lo,h.alo,(keep h.Cc (by simp) (by simp)).trans h.blk,h.Cc,iH h.vso fun g hg=>keep (h.Gx g hg) (by simp) (by simp),h.Gx,iH h.vco fun g hg=>keep (h.IG g hg) (by simp) (by simp),h.IG,?_,?_,h.lens,hM,h.Gw,Nat.le_trans (List.length_filter_le _ _) h.aml,?_,?_,?_,fun k hk=>⟨(h.lt k hk).1,Nat.lt_of_lt_of_le (h.lt k hk).2 hF.size⟩⟩
 ·obtain⟨S,h1,h2⟩:=h.all
  exact⟨S,h1.same fun k hk=>keep (h2 k hk) (by simp) (by simp),h2⟩
 ·intro j k u hj hu
  obtain⟨S,h1,h2⟩:=h.sqs j k u hj hu
  exact⟨S,h1.same fun k hk=>keep (h2 k hk) (by simp) (by simp),h2⟩
 ·intro r hr
  rw[zg] at hr
  by_cases e:p=r
  ·simp only[if_pos e.symm]
  ·rw[if_neg e] at hr
   simp only[if_neg (fun e2:r=p=>e e2.symm)]
   exact h.rwn r hr
 ·intro r v hr
  rw[zg] at hr
  by_cases e:p=r
  ·rw[if_pos e] at hr;cases hr
  ·rw[if_neg e] at hr
   simp only[if_neg (fun e2:r=p=>e e2.symm)]
   obtain⟨h1,h2⟩:=h.rwo r v hr
   exact⟨iH h1 fun g hg=>keep (h2 g hg) (by simp) (by simp),h2⟩
 ·intro r
  by_cases e:r=p
  ·simp only[if_pos e]
   exact⟨Nat.zero_le _,fun i hi=>by simp at hi⟩
  ·simp only[if_neg e]
   exact h.RA r
theorem nL.num (h:nL B w b vs vc cb ab tg gF am ws cs f rws left touched n M) {left' rT i:Nat} {u:Value} (hc:(#[vs,vc,.pointer (some ⟨cb,0,none⟩),.map (some ab),.int .i64 (left:Int),.int .i64 (touched:Int)]:Array Value).setIfInBounds i u=#[vs,vc,.pointer (some ⟨cb,0,none⟩),.map (some ab),.int .i64 (left':Int),.int .i64 (rT:Int)]):
  nL B (w.setCell ⟨b,i,none⟩ u) b vs vc cb ab tg gF am ws cs f rws left' rT n M:=by
 have hF:Fr (fun k=>tg k= .ix) w (w.setCell ⟨b,i,none⟩ u):=(Fr.refl _ w).set (p:=⟨b,i,none⟩) (.inl h.Cc) u
 have keep:∀{t:Tag} {k:Nat},tg k=t->t≠ .no->t≠ .ix->(w.setCell ⟨b,i,none⟩ u).heap[k]?=w.heap[k]?:=fun{t k} h1 h2 h3=>h.keep hF h1 h2 h3
 refine⟨h.lo,h.alo,?_,h.Cc,iH h.vso fun g hg=>keep (h.Gx g hg) (by simp) (by simp),h.Gx,iH h.vco fun g hg=>keep (h.IG g hg) (by simp) (by simp),h.IG,?_,?_,h.lens,h.amp.same (keep h.Gw (by simp) (by simp)),h.Gw,h.aml,h.rwn,?_,h.RA,fun k hk=>⟨(h.lt k hk).1,Nat.lt_of_lt_of_le (h.lt k hk).2 hF.size⟩⟩
 ·rw[heap_set h.blk i u,hc]
 ·obtain⟨S,h1,h2⟩:=h.all
  exact⟨S,h1.same fun k hk=>keep (h2 k hk) (by simp) (by simp),h2⟩
 ·intro j k u hj hu
  obtain⟨S,h1,h2⟩:=h.sqs j k u hj hu
  exact⟨S,h1.same fun k hk=>keep (h2 k hk) (by simp) (by simp),h2⟩
 ·intro r v hr
  obtain⟨h1,h2⟩:=h.rwo r v hr
  exact⟨iH h1 fun g hg=>keep (h2 g hg) (by simp) (by simp),h2⟩
theorem Ui {α:Type} {l:List α} {i j:Nat} {x y:α} (h:(l.set i x)[j]?=some y) (hi:i<l.length):(j=i/\y=x)\/(j≠i/\l[j]?=some y):=by
 by_cases e:i=j
 ·subst e
  rw[List.getElem?_set_self hi] at h
  cases h
  exact .inl ⟨rfl,rfl⟩
 ·rw[List.getElem?_set_ne e] at h
  exact .inr ⟨fun e2=>e e2.symm,h⟩
theorem nL.seq (h:nL B w b vs vc cb ab tg gF am ws cs f rws left touched n M) {i k:Nat} {u u':List Int} {S:Nat->Prop} (hi:gF[i]?=some k) (hu:ws[i]?=some u) (hS:∀j,S j->tg j= .sq i) (hq:Sq B w' k u' S) (hF:Fr S w w'):nL B w' b vs vc cb ab tg gF am (ws.set i u') cs f rws left touched n M:=by
 have hF2:Fr (fun k=>tg k= .sq i) w w':=hF.mono hS
 have keep:∀{t:Tag} {k:Nat},tg k=t->t≠ .no->t≠ .sq i->w'.heap[k]?=w.heap[k]?:=fun{t k} h1 h2 h3=>h.keep hF2 h1 h2 h3
 have hil:=(List.getElem?_eq_some_iff.1 hu).1
 refine⟨h.lo,h.alo,(keep h.Cc (by simp) (by simp)).trans h.blk,h.Cc,iH h.vso fun g hg=>keep (h.Gx g hg) (by simp) (by simp),h.Gx,iH h.vco fun g hg=>keep (h.IG g hg) (by simp) (by simp),h.IG,?_,?_,by rw[List.length_set];exact h.lens,h.amp.same (keep h.Gw (by simp) (by simp)),h.Gw,h.aml,h.rwn,?_,fun q=>by rw[List.length_set];exact h.RA q,fun k hk=>⟨(h.lt k hk).1,Nat.lt_of_lt_of_le (h.lt k hk).2 hF.size⟩⟩
 ·obtain⟨S,h1,h2⟩:=h.all
  exact⟨S,h1.same fun k hk=>keep (h2 k hk) (by simp) (by simp),h2⟩
 ·intro j k2 u2 hj hu2
  rcases Ui hu2 hil with⟨rfl,rfl⟩|⟨hne,hu2⟩
  ·rw[hi] at hj
   cases hj
   exact⟨S,hq,hS⟩
  ·obtain⟨S2,h1,h2⟩:=h.sqs j k2 u2 hj hu2
   exact⟨S2,h1.same fun k hk=>keep (h2 k hk) (by simp) (fun e=>hne (by cases e;rfl)),h2⟩
 ·intro r v hr
  obtain⟨h1,h2⟩:=h.rwo r v hr
  exact⟨iH h1 fun g hg=>keep (h2 g hg) (by simp) (by simp),h2⟩
set_option maxHeartbeats 1000000 in
set_option maxRecDepth 100000 in
theorem merge1 (h:nL B w b vs vc cb ab tg gF am ws cs f rws left touched n M) {Bc:Nat} (dm:w.heap[Bc]?=some (.cells #[.pointer (some ⟨b,0,none⟩)] 145 (0,0))) (q:P2) (hq:lD q.1/\lD q.2) (c:Int):
  Calls Tryz.prog 127 #[pv q,.int .i64 c,.pointer (some ⟨Bc,0,none⟩)] w fun e w'=>e= .returned (.bool (c==f q))/\Below w.heap.size w w':=by
 obtain⟨q1,q2⟩:=q
 have h':=h.below ((Below.refl _ w).alloc (Nat.le_refl _) (.cells #[.int .i64 q1,.int .i64 q2] 160))
 have hb':=dw dm (.cells #[.int .i64 q1,.int .i64 q2] 160)
 have cb:(w.alloc (.cells #[.int .i64 q1,.int .i64 q2] 160)).cell? ⟨Bc,0,none⟩=some (.pointer (some ⟨b,0,none⟩)):=aj hb' 0
 have hg:=vL h' hq
 clear h h' dm hb'
 generalize f (q1,q2)=fq at hg ⊢
 go_enter Tryz.func127,Tryz.ntmps127
 go_wp2_with (go_at_call 86;refine hg.mono ?_;rintro e w1 ⟨rfl,hB1⟩;have HB1:=Lib.hid hB1;clear hB1)
 go_ret
 exact⟨rfl,((Below.refl _ w).alloc (Nat.le_refl _) _).trans (HB1.out.mono (by simp))⟩
end
end Go.Proofs.YtilpincgjlclpaaGreat.Ob
end
section
namespace Go.Proofs.YtilpincgjlclpaaGreat.Ob
open Go Go.RowKit Bs Mp jL
def fG:List (List Int)->Nat
 |[]=>0
 |w::ws=>w.length+fG ws
theorem Fx:∀{ws:List (List Int)} {i:Nat} {u:List Int} (u':List Int),ws[i]?=some u->fG (ws.set i u')+u.length=fG ws+u'.length
 |[],i,u,u',h=>by simp at h
 |w::ws,0,u,u',h=>by
  simp at h
  subst h
  rw[List.set_cons_zero,fG,fG]
  omega
 |w::ws,i+1,u,u',h=>by
  simp only[List.getElem?_cons_succ] at h
  have:=Fx u' h
  rw[List.set_cons_succ,fG,fG]
  omega
theorem Um:∀{ws:List (List Int)} {i:Nat} {u:List Int},ws[i]?=some u->u.length<=fG ws
 |[],i,u,h=>by simp at h
 |w::ws,0,u,h=>by
  simp at h
  subst h
  rw[fG]
  omega
 |w::ws,i+1,u,h=>by
  simp only[List.getElem?_cons_succ] at h
  have:=Um h
  rw[fG]
  omega
theorem pG (u:List Int):∀ws:List (List Int),fG (ws++[u])=fG ws+u.length
 |[]=>by simp[fG]
 |w::ws=>by rw[List.cons_append,fG,fG,pG u ws];omega
theorem wgt_set {cs:List Int}:∀(ws:List (List Int)) (i:Nat) (c:Int) (u u':List Int),cs[i]?=some c->ws[i]?=some u->0<=c->u'.length<=u.length->FO cs (ws.set i u')<=FO cs ws:=by
 induction cs with
 |nil=>intro ws i c u u' h;simp at h
 |cons d cs ih=>
  intro ws i c u u' h1 h2 h3 h4
  cases ws with
  |nil=>simp at h2
  |cons w ws=>
   cases i with
   |zero=>
    simp at h1 h2
    subst h1 h2
    rw[List.set_cons_zero,FO,FO]
    have:d*((u'.length-1:Nat):Int)<=d*((w.length-1:Nat):Int):=Int.mul_le_mul_of_nonneg_left (by omega) h3
    omega
   |succ i=>
    simp only[List.getElem?_cons_succ] at h1 h2
    rw[List.set_cons_succ,FO,FO]
    have:=ih ws i c u u' h1 h2 h3 h4
    omega
structure Gd (cs:List Int) (ws:List (List Int)):Prop where
 cnt:∀c∈cs,0<=c/\c<=9223372036854775807
 wg:FO cs ws<=9223372036854775807
 sy:∀u∈ws,∀x∈u,0<=x/\x<=1000000
 len:fG ws<=10000
 many:ws.length<=10000
section
variable {cs:List Int} {ws:List (List Int)}
theorem Gd.bound (g:Gd cs ws) (q:P2):0<=bR cs ws q/\bR cs ws q<=9223372036854775807:=
 ⟨Ce (fun c hc=>(g.cnt c hc).1) q ws,Int.le_trans (totI_le (fun c hc=>(g.cnt c hc).1) q ws) g.wg⟩
theorem Gd.set (g:Gd cs ws) {i:Nat} {c:Int} {u u':List Int} (hc:cs[i]?=some c) (hu:ws[i]?=some u) (hl:u'.length<=u.length) (hs:∀x∈u',0<=x/\x<=1000000):Gd cs (ws.set i u'):=by
 have:=Fx u' hu
 refine⟨g.cnt,Int.le_trans (wgt_set ws i c u u' hc hu (g.cnt c (List.mem_of_getElem? hc)).1 hl) g.wg,fun v hv=>?_,by have:=g.len;omega,by rw[List.length_set];exact g.many⟩
 rcases List.mem_or_eq_of_mem_set hv with hv|rfl
 ·exact g.sy v hv
 ·exact hs
theorem Gd.chg (g:Gd cs ws) {i:Nat} {c:Int} {u u':List Int} (hc:cs[i]?=some c) (hu:ws[i]?=some u) (hl:u'.length<=u.length) (hs:∀x∈u',0<=x/\x<=1000000) {xs:List (P2×Int)} (hx:UQ (fun q=>jy q u'-jy q u) xs):
  BC (bR cs ws) (fun q=>jy q u'-jy q u) xs c/\(fun q=>bR cs ws q+(jy q u'-jy q u)*c)=bR cs (ws.set i u'):=by
 have e:∀q,bR cs ws q+(jy q u'-jy q u)*c=bR cs (ws.set i u') q:=fun q=>by
  rw[totI_set q ws i c u u' hc hu,Int.mul_comm]
 have g2:=g.set hc hu hl hs
 have hul:=Um hu
 have hgl:=g.len
 have hcc:=g.cnt c (List.mem_of_getElem? hc)
 have range:∀q,jy q u'-jy q u≠0->lD q.1/\lD q.2:=fun q hq=>by
  have n1:=iU (q:=q) u
  have n2:=iU (q:=q) u'
  by_cases h1:1<=jy q u
  ·obtain⟨a,b⟩:=zM h1
   have ha:=g.sy u (List.mem_of_getElem? hu) _ a
   have hb:=g.sy u (List.mem_of_getElem? hu) _ b
   exact⟨lD.mk (by omega) (by omega),lD.mk (by omega) (by omega)⟩
  ·obtain⟨a,b⟩:=zM (show 1<=jy q u' by omega)
   have ha:=hs _ a
   have hb:=hs _ b
   exact⟨lD.mk (by omega) (by omega),lD.mk (by omega) (by omega)⟩
 refine⟨⟨hx,fun x hx2=>range x.1 (((hx.is x.1 x.2).1 hx2).1▸((hx.is x.1 x.2).1 hx2).2),fun q=>?_,hcc,fun q=>?_,g.bound,fun q=>?_⟩,funext e⟩
 ·have n1:=iU (q:=q) u
  have n2:=iU (q:=q) u'
  have n3:=De (q:=q) u
  have n4:=De (q:=q) u'
  show-1000000<=jy q u'-jy q u/\jy q u'-jy q u<=1000000
  omega
 ·have h1:=g.bound q
  have h2:=g2.bound q
  have h3:=e q
  show-9223372036854775807<=(jy q u'-jy q u)*c/\(jy q u'-jy q u)*c<=9223372036854775807
  omega
 ·show 0<=bR cs ws q+(jy q u'-jy q u)*c/\bR cs ws q+(jy q u'-jy q u)*c<=9223372036854775807
  rw[e q]
  exact g2.bound q
end
structure Mrg (p:P2) (s:Int) (ws:List (List Int)) (D:List Nat) (BA:List (List Int)) (k:Nat):Prop where
 len:BA.length=ws.length
 at_:∀(j:Nat) (u:List Int),ws[j]?=some u->BA[j]?=some (if j∈D then mI p s u else u)
 sum:fG BA+k=fG ws
theorem Mrg.start (p:P2) (s:Int) (ws:List (List Int)):Mrg p s ws [] ws 0:=⟨rfl,fun j u h=>by simpa using h,rfl⟩
theorem Mrg.step {p:P2} {s:Int} {ws BA:List (List Int)} {D:List Nat} {k i:Nat} {u:List Int} (h:Mrg p s ws D BA k) (hu:ws[i]?=some u) (hi:i∉D):BA[i]?=some u/\Mrg p s ws (D++[i]) (BA.set i (mI p s u)) (k+joins p u):=by
 have h1:=h.at_ i u hu
 rw[if_neg hi] at h1
 refine⟨h1,by rw[List.length_set];exact h.len,fun j v hv=>?_,?_⟩
 ·by_cases e:i=j
  ·subst e
   rw[hu] at hv
   cases hv
   rw[List.getElem?_set_self (List.getElem?_eq_some_iff.1 h1).1,if_pos (by simp)]
  ·rw[List.getElem?_set_ne e,h.at_ j v hv]
   by_cases hj:j∈D
   ·rw[if_pos hj,if_pos (by simp[hj])]
   ·rw[if_neg hj,if_neg (by simp[hj];exact fun e2=>e e2.symm)]
 ·have h2:=Fx (mI p s u) h1
  have h3:=zz (p:=p) (s:=s) u
  have:=h.sum
  omega
theorem Mrg.end {p:P2} {s:Int} {ws BA:List (List Int)} {D:List Nat} {k:Nat} (h:Mrg p s ws D BA k) (hD:∀j u,ws[j]?=some u->1<=jy p u->j∈D):BA=ws.map (mI p s):=by
 apply List.ext_getElem?
 intro j
 rw[List.getElem?_map]
 cases hj:ws[j]? with
 |none=>
  rw[List.getElem?_eq_none_iff] at hj
  rw[List.getElem?_eq_none (by rw[h.len];exact hj)]
  rfl
 |some u=>
  rw[h.at_ j u hj]
  by_cases hd:j∈D
  ·rw[if_pos hd];rfl
  ·rw[if_neg hd]
   have h0:=iU (q:=p) u
   have h1:¬1<=jy p u:=fun h1=>hd (hD j u hj h1)
   rw[Option.map_some,Nn u (by omega)]
def xP (ws:List (List Int)) (rws:P2->List Nat) (X:P2->Prop):Prop:=∀(q:P2) (j:Nat) (u:List Int),ws[j]?=some u->1<=jy q u->X q\/j∈rws q
theorem xP.step {ws:List (List Int)} {rws lS:P2->List Nat} {X:P2->Prop} {i:Nat} {u u':List Int} (h:xP ws rws X) (hu:ws[i]?=some u) (hn:pK i rws lS (fun q=>0<jy q u'-jy q u)):xP (ws.set i u') lS X:=fun q j v hv hp=>by
 rcases Ui hv (List.getElem?_eq_some_iff.1 hu).1 with⟨rfl,rfl⟩|⟨hne,hv⟩
 ·by_cases h1:1<=jy q u
  ·rcases h q j u hu h1 with hx|hx
   ·exact .inl hx
   ·exact .inr ((hn q).1 _ hx)
  ·exact .inr ((hn q).2.2 (by have:=iU (q:=q) u;omega))
 ·rcases h q j v hv hp with hx|hx
  ·exact .inl hx
  ·exact .inr ((hn q).1 _ hx)
structure Was (f f1:P2->Int) (wm:List (P2×Int)):Prop where
 old:∀q,Mp.get wm q=none->f1 q=f q
 val:∀q v,Mp.get wm q=some v->v=f q
theorem Was.put {f f1:P2->Int} {wm:List (P2×Int)} (h:Was f f1 wm) {q:P2} (hq:Mp.get wm q=none):Was f f1 (Mp.put wm q (f1 q)) where
 old r hr:=by
  rw[get_put] at hr
  by_cases e:q=r
  ·rw[if_pos e] at hr;cases hr
  ·rw[if_neg e] at hr;exact h.old r hr
 val r v hr:=by
  rw[get_put] at hr
  by_cases e:q=r
  ·subst e
   rw[if_pos rfl] at hr
   cases hr
   exact h.old q hq
  ·rw[if_neg e] at hr;exact h.val r v hr
theorem Was.turn {f f1 f2:P2->Int} {wm:List (P2×Int)} (h:Was f f1 wm) (hk:∀q,Mp.get wm q=none->f2 q=f1 q):Was f f2 wm where
 old r hr:=(hk r hr).trans (h.old r hr)
 val:=h.val
theorem Was.end {f f1:P2->Int} {wm:List (P2×Int)} (h:Was f f1 wm) (hn:(wm.map Prod.fst).Nodup) {xs:List P2} (hs:xs.Pairwise zO) (hp:xs.Perm ((wm.filter fun x=> !(x.2==f1 x.1)).map Prod.fst)):SD f f1 xs:=by
 refine⟨hs,fun q=>?_⟩
 rw[hp.mem_iff,List.mem_map]
 constructor
 ·rintro⟨⟨x,c⟩,hx,rfl⟩ e
  obtain⟨h1,h2⟩:=List.mem_filter.1 hx
  have h3:=h.val x c (tH hn h1)
  simp only[Bool.not_eq_true',beq_eq_false_iff_ne,ne_eq] at h2
  exact h2 (by rw[h3,e])
 ·intro e
  cases hg:Mp.get wm q with
  |none=>exact(e (h.old q hg).symm).elim
  |some v=>
   refine⟨(q,v),List.mem_filter.2 ⟨get_mem hg,?_⟩,rfl⟩
   simp only[Bool.not_eq_true',beq_eq_false_iff_ne,ne_eq]
   rw[h.val q v hg]
   exact e
end Go.Proofs.YtilpincgjlclpaaGreat.Ob
end
section
namespace Go.Proofs.YtilpincgjlclpaaGreat.Ob
open Go Go.RowKit Go.Shelf Bs Mp jL
theorem eqP:EqlAt Tryz.prog 160 (fun x:P2=> .agg #[.int .i64 x.1,.int .i64 x.2]) (fun x y=>x.1==y.1&&x.2==y.2):=by
 refine⟨fun x y w=>?_,GuardAt.agg _ (by kernel_rfl)⟩
 have u3:=Tryz.underlying3
 have a3:=Tryz.isAgg3
 have z3:=Tryz.sizeOf3
 have hS:Tryz.prog.underlying 160=some (.struct (Tryz.prog.fieldsOf 160)):=by kernel_rfl
 have hp:Tryz.prog.stoodInHeld 160=false:=by kernel_rfl
 rw[run_eql_struct,show(10000:Nat)=9999+1 from rfl,run_equalIn_agg w 9999 160 _ _ hS hp]
 simp only[Program.fieldsOf,Tryz.underlying160]
 go_simp
 by_cases h1:x.fst=y.fst<;>by_cases h2:x.snd=y.snd<;>simp[h1,h2]
theorem uU.on {B b i:Nat} {w:World} {v:Value} {row:List C3} {A C:List NI} {a:Int} (h:uU B w b v row (A++(i,a)::C)):∃g0 cap,v= .slice (some ⟨g0,0,none⟩) row.length cap/\w.cell? ⟨b,0,none⟩=some (.slice (some ⟨g0,0,none⟩) row.length cap)/\w.cell? ⟨g0,i*3+2,none⟩=some (.int .i64 (Hl C (-1)))/\i<row.length/\row.length<=cap:=by
 obtain⟨g0,cap,rfl,hi,hcap,_,_,_,_,_,c2,_⟩:=h.cells (h.Px.at (x:=(i,a)))
 exact⟨g0,cap,rfl,aj h.blk 0,c2,hi,hcap⟩
theorem jD {w:World} {B C n sz:Nat} {e:TypeId} {v:Value} {xs:List Value} (h:w.ownsRow C e sz v n xs) (hB:B<=C):w.ownsRow B e sz v n xs:=by
 obtain⟨h1,h2⟩:=h
 refine⟨h1,?_⟩
 rcases h2 with h2|⟨g,cap,cur,rfl,hb,r⟩
 ·exact .inl h2
 ·exact .inr ⟨g,cap,cur,rfl,by omega,r⟩
structure Mg (p:P2) (s:Int) (W0:List Int) (A R:List NI) (k n:Nat) (d:P2->Int):Prop where
 is:A.map Prod.snd++mI p s (R.map Prod.snd)=mI p s W0
 many:k+joins p (R.map Prod.snd)=joins p W0
 n5:n=5*k
 df:∀q,d q=jy q ((A++R).map Prod.snd)-jy q W0
theorem Mg.join {p:P2} {s:Int} {W0:List Int} {A C:List NI} {i j:Nat} {a t:Int} {k n:Nat} {d:P2->Int} (h:Mg p s W0 A ((i,a)::(j,t)::C) k n d) (hm:a=p.1/\t=p.2):Mg p s W0 (A++[(i,s)]) C (k+1) (n+5) (Tv d A C a t s):=by
 obtain⟨h1,h2,h3,h4⟩:=h
 simp only[List.map_cons] at h1 h2
 rw[nD,if_pos hm] at h1
 rw[xe,if_pos hm] at h2
 refine⟨by simpa using h1,by omega,by omega,fun q=>?_⟩
 rw[Zr d A C i j a t s q,h4 q]
 simp only[List.append_assoc,List.singleton_append]
 omega
theorem Mg.step {p:P2} {s:Int} {W0:List Int} {A C:List NI} {i:Nat} {a:Int} {k n:Nat} {d:P2->Int} (h:Mg p s W0 A ((i,a)::C) k n d) (hm:uC a C≠some p):Mg p s W0 (A++[(i,a)]) C k n d:=by
 obtain⟨h1,h2,h3,h4⟩:=h
 have e:mI p s (a::C.map Prod.snd)=a::mI p s (C.map Prod.snd)/\joins p (a::C.map Prod.snd)=joins p (C.map Prod.snd):=by
  cases C with
  |nil=>exact⟨rfl,rfl⟩
  |cons c C=>
   have hn:¬(a=p.1/\c.2=p.2):=fun g=>hm (by show some (a,c.2)=some p;rw[g.1,g.2])
   simp only[List.map_cons]
   rw[nD,if_neg hn,xe,if_neg hn]
   exact⟨rfl,rfl⟩
 simp only[List.map_cons] at h1 h2
 rw[e.1] at h1
 rw[e.2] at h2
 exact⟨by simpa using h1,h2,h3,fun q=>by rw[h4 q];simp⟩
set_option maxHeartbeats 2000000 in
set_option maxRecDepth 100000 in
theorem Wh {B b:Nat} {w:World} {W:List Int} {S:Nat->Prop} (h:Sq B w b W S) {p:P2} {s:Int} (hs:0<=s/\s<=1000000):
  Calls Tryz.prog 125 #[.pointer (some ⟨b,0,none⟩),pv p,.int .i64 s] w fun e w'=>∃v xs,e= .returned (.tuple #[.int .i64 (joins p W:Int),v])/\Sq B w' b (mI p s W) S/\
   w'.ownsRow w.heap.size TG 3 v xs.length (xs.flatMap mV)/\UQ (fun q=>jy q (mI p s W)-jy q W) xs/\xs.length<=5*joins p W/\Fr S w w':=by
 obtain⟨v0,row,L,h,rfl,rfl⟩:=h
 have hmm:=@run_makeMap Tryz.prog
 obtain⟨p1,p2⟩:=p
 have hlen:=h.len
 have hLl:L.length<=row.length:=Bh h.nod h.Px.lt
 have hbx:=dw (dw h.blk (.cells #[.int .i64 p1,.int .i64 p2] 160)) (.map #[] 0)
 have cf:((w.alloc (.cells #[.int .i64 p1,.int .i64 p2] 160)).alloc (.map #[] 0)).cell? ⟨b,1,none⟩=some (.int .i64 (Hl L (-1))):=aj hbx 1
 have hq0:(w.alloc (.cells #[.int .i64 p1,.int .i64 p2] 160)).heap[w.heap.size]?=_:=bG w _
 have HQ0:=Lib.hid (dw hq0 (.map #[] 0))
 have hL0:xC B ((w.alloc (.cells #[.int .i64 p1,.int .i64 p2] 160)).alloc (.map #[] 0)) (w.heap.size+1) (fun _=>0) 0:=⟨⟨[],by
  have:=oW (T:=kvL) (w.alloc (.cells #[.int .i64 p1,.int .i64 p2] 160))
  rwa[World.size_alloc] at this,by have:=bA h.blk;have:=h.lo;omega,fun q=>by simp[Mp.get],by simp,fun q=>by simp⟩⟩
 have hS0:=h.below (((Below.refl w.heap.size w).alloc (Nat.le_refl _) (.cells #[.int .i64 p1,.int .i64 p2] 160)).alloc (by simp) (.map #[] 0))
 have HL0:=Lib.hid hL0
 have HS0:=Lib.hid hS0
 have HS:=Lib.hid h
 clear hL0 hS0 hbx h hq0
 go_enter Tryz.func125,Tryz.ntmps125
 go_wp2
 have hMg:Mg (p1,p2) s (L.map Prod.snd) [] L 0 0 (fun _=>0):=⟨rfl,by simp,rfl,fun q=>by simp⟩
 have HMg:=Lib.hid hMg
 have HF0:=Lib.hid (((Fr.refl (fun x=>x=b\/v0.ownBlock=some x) w).alloc (.cells #[.int .i64 p1,.int .i64 p2] 160)).alloc (.map #[] 0))
 have hsb:=bA HS.out.blk
 clear hMg cf hmm
 go_loopg [9,10] L.length (fun gk v9 v10 wr=>∃(A R:List NI) (row':List C3) (k n:Nat) (d:P2->Int),v9= .int .i64 (k:Int)/\v10= .int .i64 (Hl R (-1))/\R.length=gk/\Hid (uU B wr b v0 row' (A++R))/\Hid (xC B wr (w.heap.size+1) d n)/\Hid (Mg (p1,p2) s (L.map Prod.snd) A R k n d)/\Hid (Fr (fun x=>x=b\/v0.ownBlock=some x) w wr)/\Hid (wr.heap[w.heap.size]?=some (.cells #[.int .i64 p1,.int .i64 p2] 160 (0,0)))/\Hid (row'.length=row.length))
 case atStart=>exact⟨[],L,row,0,0,fun _=>0,rfl,rfl,rfl,HS0,HL0,HMg,HF0,HQ0,Lib.hid rfl⟩
 case round=>
  obtain⟨A,R,row',k,n,d,rfl,rfl,qy,Du,Dr,uG,HF1,HQ1,HR1⟩:=hrel
  have hk5:k<=1000:=by
   have h1:=uG.out.many
   have h2:=zz (p:=(p1,p2)) (s:=s) (L.map Prod.snd)
   rw[List.length_map] at h2
   omega
  have hn5:n<=5000:=by have:=uG.out.n5;omega
  have hw1:w.heap.size+1<wr.heap.size:=Dr.out.lt.2
  cases R with
  |nil=>
   have hj:((k:Nat):Int)=((joins (p1,p2) (L.map Prod.snd):Nat):Int):=by have:=uG.out.many;simp[joins] at this;omega
   have hll:=Nw Dr.out (by omega)
   go_wp2_with (go_at_call 144;refine hll.mono ?_;rintro e w5 ⟨v5,xs,rfl,hx1,hx2,hx3,hx4⟩;have HX:=Lib.hid (And.intro hx1 (And.intro hx2 (And.intro hx3 hx4)));clear hx1 hx2 hx3 hx4)
   go_ret2
   obtain⟨hx1,hx2,hx3,hx4⟩:=HX.out
   have hi:=uG.out.is
   simp only[List.map_nil,jnI_nil,List.append_nil] at hi
   refine⟨v5,xs,rfl,⟨v0,row',A,?_,hi.symm,rfl⟩,jD hx1 (by omega),?_,?_,HF1.out.below hx4⟩
   ·have:=Du.out.below hx4
    rwa[List.append_nil] at this
   ·have e:d=fun q=>jy q (mI (p1,p2) s (L.map Prod.snd))-jy q (L.map Prod.snd):=by
     funext q
     rw[uG.out.df q,List.append_nil,hi]
    rw[<-e]
    exact hx2
   ·have h1:=uG.out.n5
    omega
  |cons r C=>
   obtain⟨i,a⟩:=r
   obtain⟨gk,rfl⟩:∃g,gk=g+1:=⟨C.length,by simpa using qy.symm⟩
   have hp:=Oc Du.out (At.here A i a C)
   have hi0:decide (0<=(i:Int))=true:=decide_eq_true (by omega)
   have hi1:decide ((i:Int)>=0)=true:=decide_eq_true (by omega)
   by_cases hm:uC a C=some (p1,p2)
   ·cases C with
    |nil=>cases hm
    |cons c C=>
     obtain⟨j,t⟩:=c
     have hm1:a=p1/\t=p2:=by simpa[uC] using hm
     obtain⟨rfl,rfl⟩:=hm1
     have heq:∀w:World,(binOp .eql 160 (.agg #[.int .i64 a,.int .i64 t]) (.agg #[.int .i64 a,.int .i64 t])).run Tryz.prog w= .ok (.bool true) w:=fun w=>by have:=eqP.1 (a,t) (a,t) w;simpa using this
     have hgd:=eqP.2
     simp only[uC,List.head?_cons,Option.map_some,Option.getD_some,Option.isSome_some] at hp
     go_wp2_with (first
      |(go_at_call 155;refine hp.mono ?_;rintro e w1 ⟨rfl,hB1⟩;have hB2:=hB1.alloc (Nat.le_of_lt_succ (Nat.lt_succ_of_le hB1.size)) (.cells #[.int .i64 a,.int .i64 t] 160);have hQ2:=(hB2.block _ (bA HQ1.out)).trans HQ1.out;have q0:=(aj hQ2 0).trans rfl;have q1:=(aj hQ2 1).trans rfl;have HB2:=Lib.hid hB2;have HQ2:=Lib.hid hQ2;clear hB1 hB2 hQ2)
      |(go_at_call 156;refine(aaq (Du.out.below HB2.out) (Dr.out.below HB2.out) (by omega) hs).mono ?_;rintro e w2 ⟨rfl,hS3,hL3,qR⟩;obtain⟨g0,cap,hv0,cb,c2,hi,hcap⟩:=hS3.on;have HV0:=Lib.hid hv0;have HX:=Lib.hid (And.intro hS3 (And.intro hL3 qR));clear hS3 hL3 qR hv0))
     obtain⟨hS3,hL3,qR⟩:=HX.out
     go_roundg C.length
     case measure=>simp at qy;omega
     case rel=>
      refine⟨A++[(i,s)],C,_,k+1,n+5,_,by go_num,rfl,rfl,Lib.hid (by rw[List.append_assoc];exact hS3),Lib.hid hL3,Lib.hid (uG.out.join ⟨rfl,rfl⟩),Lib.hid ?_,Lib.hid ?_,Lib.hid ?_⟩
      ·exact(HF1.out.trans (S2:=fun _=>False) (Fr.dL HB2.out) (fun _ h=>h.elim)).trans qR (fun x hx=>by
        rcases hx with rfl|hx|hx
        ·exact .inr (by omega)
        ·exact .inl (.inl hx)
        ·exact .inl (.inr hx))
      ·refine qR.heap HQ2.out (fun hx=>?_)
       rcases hx with hx|hx|hx
       ·omega
       ·omega
       ·have:=(eG HS.out.own hx).2
        omega
      ·rw[kY];exact HR1.out
   ·have hgo:∀(w1:World),Below wr.heap.size wr w1->Hid (uU B w1 b v0 row' ((A++[(i,a)])++C))/\Hid (xC B w1 (w.heap.size+1) d n)/\Hid (Fr (fun x=>x=b\/v0.ownBlock=some x) w w1)/\Hid (w1.heap[w.heap.size]?=some (.cells #[.int .i64 p1,.int .i64 p2] 160 (0,0))):=fun w1 hB1=>
     ⟨Lib.hid (by rw[List.append_assoc];exact Du.out.below hB1),Lib.hid (Dr.out.below hB1),Lib.hid (HF1.out.below hB1),Lib.hid ((hB1.block _ (bA HQ1.out)).trans HQ1.out)⟩
    have HGO:=Lib.hid hgo
    clear hgo
    cases C with
    |nil=>
     simp only[uC,List.head?_nil,Option.map_none,Option.getD_none,Option.isSome_none] at hp
     go_wp2_with (first
      |(go_at_call 155;refine hp.mono ?_;rintro e w1 ⟨rfl,hB1⟩;have hB2:=hB1.alloc (Nat.le_of_lt_succ (Nat.lt_succ_of_le hB1.size)) (.cells #[.int .i64 0,.int .i64 0] 160);have HB2:=Lib.hid hB2;obtain⟨g0,cap,hv0,cb,c2,hi,hcap⟩:=(Du.out.below hB2).on;have HV0:=Lib.hid hv0;clear hB1 hB2 hv0))
     obtain⟨x1,x2,x3,x4⟩:=HGO.out _ HB2.out
     go_roundg 0
     case measure=>omega
     case rel=>exact⟨A++[(i,a)],[],row',k,n,d,rfl,rfl,rfl,x1,x2,Lib.hid (uG.out.step hm),x3,x4,HR1⟩
    |cons c C=>
     obtain⟨j,t⟩:=c
     have hm1:((a==p1)&&(t==p2))=false:=by
      have:¬(a=p1/\t=p2):=fun g=>hm (by simp[uC,g.1,g.2])
      simpa using this
     have heq:∀w:World,(binOp .eql 160 (.agg #[.int .i64 a,.int .i64 t]) (.agg #[.int .i64 p1,.int .i64 p2])).run Tryz.prog w= .ok (.bool false) w:=fun w=>by have:=eqP.1 (a,t) (p1,p2) w;exact this.trans (congrArg (fun c=>Result.ok (Value.bool c) w) hm1)
     have hgd:=eqP.2
     have WH:=Lib.hid hm
     clear hm1 hm
     simp only[uC,List.head?_cons,Option.map_some,Option.getD_some,Option.isSome_some] at hp
     go_wp2_with (first
      |(go_at_call 155;refine hp.mono ?_;rintro e w1 ⟨rfl,hB1⟩;have hB2:=hB1.alloc (Nat.le_of_lt_succ (Nat.lt_succ_of_le hB1.size)) (.cells #[.int .i64 a,.int .i64 t] 160);have hQ2:=(hB2.block _ (bA HQ1.out)).trans HQ1.out;have q0:=(aj hQ2 0).trans rfl;have q1:=(aj hQ2 1).trans rfl;have HB2:=Lib.hid hB2;obtain⟨g0,cap,hv0,cb,c2,hi,hcap⟩:=(Du.out.below hB2).on;have HV0:=Lib.hid hv0;clear hB1 hB2 hQ2 hv0))
     obtain⟨x1,x2,x3,x4⟩:=HGO.out _ HB2.out
     go_roundg (C.length+1)
     case measure=>simp at qy;omega
     case rel=>exact⟨A++[(i,a)],(j,t)::C,row',k,n,d,rfl,rfl,rfl,x1,x2,Lib.hid (uG.out.step WH.out),x3,x4,HR1⟩
structure Pg (W0:List Int) (A R:List NI) (n:Nat) (d:P2->Int):Prop where
 is:(A++R).map Prod.snd=W0
 n1:n=A.length
 df:∀q,d q+jy q (R.map Prod.snd)=jy q W0
theorem Pg.step {W0:List Int} {A C:List NI} {i:Nat} {a:Int} {n:Nat} {d:P2->Int} (h:Pg W0 A ((i,a)::C) n d):Pg W0 (A++[(i,a)]) C (n+1) (ui d (uC a C) 1):=by
 refine⟨by rw[List.append_assoc];exact h.is,by rw[List.length_append,<-h.n1];rfl,fun q=>?_⟩
 have:=h.df q
 rw[List.map_cons,jE] at this
 dsimp only at this
 rw[wI]
 omega
set_option maxHeartbeats 2000000 in
set_option maxRecDepth 100000 in
theorem Wi {B b:Nat} {w:World} {W:List Int} {S:Nat->Prop} (h:Sq B w b W S):
  Calls Tryz.prog 114 #[.pointer (some ⟨b,0,none⟩)] w fun e w'=>∃v xs,e= .returned v/\
   w'.ownsRow w.heap.size TG 3 v xs.length (xs.flatMap mV)/\UQ (fun q=>jy q W) xs/\xs.length<=W.length/\Below w.heap.size w w':=by
 obtain⟨v0,row,L,h,rfl,rfl⟩:=h
 have hmm:=@run_makeMap Tryz.prog
 have hlen:=h.len
 have hLl:L.length<=row.length:=Bh h.nod h.Px.lt
 have hbx:=dw h.blk (.map #[] 0)
 have cf:(w.alloc (.map #[] 0)).cell? ⟨b,1,none⟩=some (.int .i64 (Hl L (-1))):=aj hbx 1
 have hL0:xC B (w.alloc (.map #[] 0)) w.heap.size (fun _=>0) 0:=⟨⟨[],oW (T:=kvL) w,by have:=bA h.blk;have:=h.lo;omega,fun q=>by simp[Mp.get],by simp,fun q=>by simp⟩⟩
 have hS0:=h.below ((Below.refl w.heap.size w).alloc (Nat.le_refl _) (.map #[] 0))
 have HL0:=Lib.hid hL0
 have HS0:=Lib.hid hS0
 clear hL0 hS0 hbx h
 go_enter Tryz.func114,Tryz.ntmps114
 go_wp2
 have hPg:Pg (L.map Prod.snd) [] L 0 (fun _=>0):=⟨rfl,rfl,fun q=>by simp⟩
 have HPg:=Lib.hid hPg
 have HB0:=Lib.hid ((Below.refl w.heap.size w).alloc (Nat.le_refl _) (.map #[] 0))
 clear hPg cf hmm
 go_loopg [4] L.length (fun gk v4 wr=>∃(A R:List NI) (n:Nat) (d:P2->Int),v4= .int .i64 (Hl R (-1))/\R.length=gk/\Hid (uU B wr b v0 row (A++R))/\Hid (xC B wr w.heap.size d n)/\Hid (Pg (L.map Prod.snd) A R n d)/\Hid (Below w.heap.size w wr))
 case atStart=>exact⟨[],L,0,fun _=>0,rfl,rfl,HS0,HL0,HPg,HB0⟩
 case round=>
  obtain⟨A,R,n,d,rfl,qy,Du,Dr,BF,HB1⟩:=hrel
  have hn5:n<=1000:=by
   have h1:=BF.out.n1
   have h2:=congrArg List.length BF.out.is
   simp only[List.length_map,List.length_append] at h2
   omega
  cases R with
  |nil=>
   have hll:=Nw Dr.out (by omega)
   go_wp2_with (go_at_call 144;refine hll.mono ?_;rintro e w5 ⟨v5,xs,rfl,hx1,hx2,hx3,hx4⟩;have HX:=Lib.hid (And.intro hx1 (And.intro hx2 (And.intro hx3 hx4)));clear hx1 hx2 hx3 hx4)
   go_ret
   obtain⟨hx1,hx2,hx3,hx4⟩:=HX.out
   have hi:=BF.out.is
   rw[List.append_nil] at hi
   refine⟨v5,xs,rfl,jD hx1 HB1.out.size,?_,?_,HB1.out.trans (hx4.mono HB1.out.size)⟩
   ·have e:d=fun q=>jy q (L.map Prod.snd):=by
     funext q
     have:=BF.out.df q
     simpa using this
    rw[<-e]
    exact hx2
   ·have h1:=BF.out.n1
    rw[<-hi,List.length_map]
    omega
  |cons r C=>
   obtain⟨i,a⟩:=r
   obtain⟨gk,rfl⟩:∃g,gk=g+1:=⟨C.length,by simpa using qy.symm⟩
   have hN:=oo Du.out Dr.out (by omega) (At.here A i a C) (.inl rfl:(1:Int)=1\/(1:Int)= -1)
   have hd0:=Du.out.tK Dr.out
   have HD0:=Lib.hid hd0
   clear hd0
   have hi1:decide ((i:Int)>=0)=true:=decide_eq_true (by omega)
   go_wp2_with (first
    |(go_at_call 143;refine hN.mono ?_;rintro e w1 ⟨rfl,hL2,hF2⟩;have hS2:=Du.out.fr hF2 HD0.out;obtain⟨g0,cap,hv0,cb,c2,hi,hcap⟩:=hS2.on;have HV0:=Lib.hid hv0;have HX:=Lib.hid (And.intro hS2 (And.intro hL2 hF2));clear hS2 hL2 hF2 hv0))
   obtain⟨hS2,hL2,hF2⟩:=HX.out
   go_roundg C.length
   case measure=>simp at qy;omega
   case rel=>exact⟨A++[(i,a)],C,n+1,_,rfl,rfl,Lib.hid (by rw[List.append_assoc];exact hS2),Lib.hid hL2,Lib.hid BF.out.step,Lib.hid (HB1.out.trans (hF2.toBelow (fun k hk=>by rw[hk];exact Nat.le_refl _) HB1.out.size))⟩
end Go.Proofs.YtilpincgjlclpaaGreat.Ob
end
