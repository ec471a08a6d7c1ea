import Derived.Test.YtilpincgjlclpaaGreatS10
import Derived.Test.YtilpincgjlclpaaGreatS11
set_option linter.unusedVariables false
set_option linter.unusedSimpArgs false
section
namespace Go.Proofs.YtilpincgjlclpaaGreat.aaK
open Go Go.RowKit
open Go.Proofs.YtilpincgjlclpaaGreat.Pure (jX)
open kJ (gap eD rq)
theorem words_head:∀(l op:List UInt8),op≠[]->∃t∈jX op l,op.length<=t.length
 |[],op,h=>⟨op,by rw[jX,rq,if_neg h];simp,Nat.le_refl _⟩
 |c::l,op,h=>by
  rw[jX]
  by_cases hg:gap c=true
  ·rw[if_pos hg,if_neg h]
   exact⟨op,by simp,Nat.le_refl _⟩
  ·rw[if_neg hg]
   obtain⟨t,h1,h2⟩:=words_head l (op++[c]) (by simp)
   exact⟨t,h1,by simp at h2;omega⟩
theorem feed_iff (lim:Int):∀(xs op:List UInt8) (out:List (List UInt8)),(op.length:Int)<=lim->((eD lim op xs out).2.1=true↔∀t∈jX op xs,(t.length:Int)<=lim)
 |[],op,out,h=>by
  rw[eD,jX,rq]
  refine⟨fun _ t ht=>?_,fun _=>rfl⟩
  split at ht
  ·simp at ht
  ·simp at ht
   subst ht
   exact h
 |c::l,op,out,h=>by
  rw[eD,jX]
  by_cases hg:gap c=true
  ·rw[if_pos hg,if_pos hg]
   by_cases h0:op=[]
   ·rw[if_pos h0,if_pos h0]
    exact feed_iff lim l [] out (by simp;omega)
   ·rw[if_neg h0,if_neg h0,feed_iff lim l [] _ (by simp;omega)]
    exact⟨fun h2 t ht=>(List.mem_cons.1 ht).elim (fun e=>e▸h) (h2 t),fun h2 t ht=>h2 t (List.mem_cons_of_mem _ ht)⟩
  ·rw[if_neg hg,if_neg hg]
   by_cases hl:(op.length+1:Int)<=lim
   ·rw[if_pos hl]
    exact feed_iff lim l (op++[c]) out (by simp;omega)
   ·rw[if_neg hl]
    refine⟨fun h2=>by simp at h2,fun h2=>?_⟩
    obtain⟨t,h3,h4⟩:=words_head l (op++[c]) (by simp)
    have:=h2 t h3
    simp at h4
    omega
theorem RD_perm {S R:List UInt8} (h:(jX [] S).Perm (jX [] R)) (lim:Int):(Aj.RD lim S 0).1=(Aj.RD lim R 0).1/\(Aj.RD lim S 0).2.Perm (Aj.RD lim R 0).2:=by
 unfold Aj.RD
 by_cases hc:lim<1\/65536<lim
 ·rw[if_pos hc,if_pos hc]
  exact⟨rfl,List.Perm.refl _⟩
 ·rw[if_neg hc,if_neg hc]
  have h0:(([]:List UInt8).length:Int)<=lim:=by simp;omega
  have hb:(eD lim [] S []).2.1=true↔(eD lim [] R []).2.1=true:=by
   rw[feed_iff lim S [] [] h0,feed_iff lim R [] [] h0]
   exact⟨fun h2 t ht=>h2 t (h.mem_iff.2 ht),fun h2 t ht=>h2 t (h.mem_iff.1 ht)⟩
  by_cases h1:(eD lim [] S []).2.1=true
  ·rw[if_pos h1,if_pos (hb.1 h1),if_pos rfl,if_pos rfl]
   exact⟨rfl,h.map _⟩
  ·rw[if_neg h1,if_neg (fun h2=>h1 (hb.2 h2))]
   exact⟨rfl,List.Perm.refl _⟩
def Good (w:List UInt8):Prop:=w≠[]/\∀c∈w,gap c=false
theorem words_good:∀(l op:List UInt8),(∀c∈op,gap c=false)->∀w∈jX op l,Good w
 |[],op,h,w,hw=>by
  rw[jX,rq] at hw
  split at hw
  ·simp at hw
  ·simp at hw
   subst hw
   exact⟨by assumption,h⟩
 |c::l,op,h,w,hw=>by
  rw[jX] at hw
  split at hw
  ·split at hw
   ·exact words_good l [] (by simp) w hw
   ·rcases List.mem_cons.1 hw with rfl|hw
    ·exact⟨by assumption,h⟩
    ·exact words_good l [] (by simp) w hw
  ·rename_i hg
   refine words_good l (op++[c]) (fun d hd=>?_) w hw
   rcases List.mem_append.1 hd with hd|hd
   ·exact h d hd
   ·simp at hd
    subst hd
    simpa using hg
def aaM (i:Nat):List UInt8:=if i%3=0 then[32] else if i%3=1 then[10,10] else[9]
def glue (i:Nat):List (List UInt8)->List UInt8
 |[]=>[]
 |w::L=>aaM i++(w++glue (i+1) L)
theorem glue_snoc (w:List UInt8):∀(L:List (List UInt8)) (i:Nat),glue i (L++[w])=glue i L++(aaM (i+L.length)++w)
 |[],i=>by simp[glue]
 |v::L,i=>by
  rw[List.cons_append,glue,glue,glue_snoc w L (i+1),List.length_cons,show i+1+L.length=i+(L.length+1) by omega]
  simp
theorem gp_words (i:Nat) (t:List UInt8):jX [] (aaM i++t)=jX [] t:=by
 unfold aaM
 split
 ·rw[List.cons_append,jX,if_pos (by decide),if_pos rfl];rfl
 ·split
  ·rw[List.cons_append,jX,if_pos (by decide),if_pos rfl,List.cons_append,jX,if_pos (by decide),if_pos rfl];rfl
  ·rw[List.cons_append,jX,if_pos (by decide),if_pos rfl];rfl
theorem gp_ends (i:Nat) (t op:List UInt8) (h:op≠[]):jX op (aaM i++t)=op::jX [] t:=by
 unfold aaM
 split
 ·rw[List.cons_append,jX,if_pos (by decide),if_neg h];rfl
 ·split
  ·rw[List.cons_append,jX,if_pos (by decide),if_neg h,List.cons_append,jX,if_pos (by decide),if_pos rfl];rfl
  ·rw[List.cons_append,jX,if_pos (by decide),if_neg h];rfl
theorem word_in (t:List UInt8):∀(w op:List UInt8),(∀c∈w,gap c=false)->jX op (w++t)=jX (op++w) t
 |[],op,_=>by simp
 |c::w,op,h=>by
  rw[List.cons_append,jX,if_neg (by rw[h c (by simp)];simp),word_in t w (op++[c]) (fun d hd=>h d (List.mem_cons_of_mem _ hd)),List.append_assoc]
  rfl
theorem glue_words:∀(L:List (List UInt8)) (i:Nat),(∀w∈L,Good w)->jX [] (glue i L)=L
 |[],i,_=>by simp[glue,jX,rq]
 |w::L,i,h=>by
  obtain⟨h1,h2⟩:=h w (by simp)
  have ih:=glue_words L (i+1) (fun v hv=>h v (List.mem_cons_of_mem _ hv))
  rw[glue,gp_words,word_in _ w [] h2,List.nil_append]
  cases L with
  |nil=>rw[glue,jX,rq,if_neg h1]
  |cons v L=>
   rw[glue] at ih ⊢
   rw[gp_words] at ih
   rw[gp_ends _ _ _ h1,ih]
theorem gp_len (i:Nat):(aaM i).length<=2:=by
 unfold aaM
 split
 ·simp
 ·split<;>simp
theorem glue_len:∀(L:List (List UInt8)) (i:Nat),(glue i L).length<=(L.map List.length).sum+2*L.length
 |[],i=>by simp[glue]
 |w::L,i=>by
  have h1:=glue_len L (i+1)
  have h2:=gp_len i
  rw[glue]
  simp
  omega
end Go.Proofs.YtilpincgjlclpaaGreat.aaK
end
section
namespace Go.Proofs.YtilpincgjlclpaaGreat.Src
open Go Go.RowKit Bs Go.Proofs.ae.au
theorem run_append_none_any {P:Program} {w:World} (base:Nat) (t ty e:TypeId) (i:TypeInfo) (size:Nat) (ht:P.underlying t=some (.slice e)) (hi:P.info? e=some i)
  (v:Value) (n c:Nat) (xs:List Value) (hown:w.ownsRow base e size v n xs):
  (Builtin.append_ #[t,t] ty #[v,.slice none 0 c]).run P w= .ok v w:=by
 rcases hown.2 with⟨rfl,rfl⟩|⟨g,cap,cur,rfl,_,_,hnc,_⟩
 ·simp[Builtin.append_,run_underlying ht,sizeOf,typeInfo,hi,Builtin.lenOf,Builtin.firstCells]
 ·simp[Builtin.append_,run_underlying ht,sizeOf,typeInfo,hi,Builtin.lenOf,Builtin.firstCells,hnc,storeCells]
theorem append_read {w:World} {ops:Array Oper} {rest:List Oper} {o:Oper} {a:Act} {Q:Exit->Act->World->Prop} (hgd:o.guard=none) (s x:Operand)
  (ho:o.op= .call {callee:= .builtin .append,args:=#[s,x],argTypes:=#[54,54]}) (base:Nat) (v:Value) (l1 l2:List ByteArray) (A:Option Addr) (c:Nat) (hs:a.eval s=v) (hx:a.eval x= .slice A l2.length c)
  (h1:w.ownsRow base TX 1 v l1.length (l1.map Value.string)) (h2:Kd.C Kd.string w A l2.length l2) (hb:base<=w.heap.size) (hn:l1.length+l2.length<=1000000000)
  (h:∀v' w',w'.ownsRow base TX 1 v' (l1++l2).length ((l1++l2).map Value.string)->Fr (fun k=>v.ownBlock=some k) w w'->(v'.ownBlock=v.ownBlock\/v'.ownBlock=some w.heap.size)->wpList Tryz.prog ops Q rest (a.put o.dst v') w'):wpList Tryz.prog ops Q (o::rest) a w:=by
 obtain⟨i1,hx1,hx0,hxs,hxb⟩:=info_parts kJ.infoX
 cases A with
 |none=>
  have:l2=[]:=by
   cases l2 with
   |nil=>rfl
   |cons s r=>
    obtain⟨g,o,he,_⟩:=Bp h2 (by simp)
    cases he
  subst this
  refine wpList_plain hgd fun K hK=>?_
  have hrun:=run_append_none_any (P:=Tryz.prog) (w:=w) base 54 o.type TX i1 1 Tryz.underlying54 hx1 v l1.length c (l1.map Value.string) h1
  unfold Oper.wp
  simp[execOp,ho,resolve,invoke,builtin,hs,hx,hrun,Result.andThen]
  exact hK _ _ (h v w (by simpa using h1) (Fr.refl _ _) (.inl rfl))
 |some ad=>
  have hc:∀j u,(l2.map Value.string)[j]?=some u->w.cell? (ad.add j)=some u:=by
   intro j u hj
   have hlt:j<l2.length:=by
    have:=(List.getElem?_eq_some_iff.1 hj).1
    simpa using this
   obtain⟨ad',he,hcc⟩:=Kd.dx h2 (j:Int) (by omega) (by omega)
   cases he
   rw[Int.toNat_natCast,Pure.rd_get l2 j hlt] at hcc
   rw[hcc]
   simp[hlt] at hj
   rw[hj]
  refine wpList_append_own_at w hgd s x 54 ho base TX i1 (.string ByteArray.empty) 1 16 Tryz.underlying54 hx1 hx0 hxs hxb rfl (by decide) v _ _ hs h1 ad l2.length c (l2.map Value.string) hx (by simp) hc ?_ (by unfold maxLen;omega) (by omega) hb ?_
  ·intro u hu
   obtain⟨q,_,rfl⟩:=List.mem_map.1 hu
   rfl
  ·intro v' w' ho' hg' _ hat
   refine h v' w' (by rw[List.length_append,List.map_append];exact ho') ?_ hat
   exact⟨hg'.os,hg'.tape,hg'.output,hg'.size,fun k hk hn=>hg'.block k hk (fun e=>hn e.symm)⟩
end Go.Proofs.YtilpincgjlclpaaGreat.Src
namespace Go.Proofs.YtilpincgjlclpaaGreat.aaK
open Go Go.RowKit Bs Ob Pr
def swp (M:List ByteArray) (a b:Nat):List ByteArray:=(M.set a (M.getD b ByteArray.empty)).set b (M.getD a ByteArray.empty)
theorem swp_perm {M:List ByteArray} {a b:Nat} (ha:a<M.length) (hb:b<M.length):(swp M a b).Perm M:=by
 unfold swp
 rw[List.getD_eq_getElem?_getD,List.getD_eq_getElem?_getD,List.getElem?_eq_getElem ha,List.getElem?_eq_getElem hb]
 exact List.set_set_perm ha hb
def bl (x:ByteArray):List UInt8:=x.data.toList
def oth (D:List ByteArray):ByteArray:=ym (glue 0 (D.map bl))
def gpB (i:Nat):ByteArray:=if i%3=0 then⟨#[32]⟩ else if i%3=1 then⟨#[10,10]⟩ else⟨#[9]⟩
theorem gpB_is (i:Nat):gpB i=ym (aaM i):=by
 unfold gpB aaM ym
 split
 ·rfl
 ·split<;>rfl
theorem mkB_app (a b:List UInt8):ym (a++b)=ym a++ym b:=by
 apply ByteArray.ext
 simp[ym]
theorem mkB_bl (x:ByteArray):ym (bl x)=x:=Pure.mk_self x
theorem oth_snoc (D:List ByteArray) (x:ByteArray):oth (D++[x])=oth D++gpB D.length++x:=by
 unfold oth
 rw[List.map_append,List.map_cons,List.map_nil,glue_snoc,List.length_map,Nat.zero_add,mkB_app,mkB_app,mkB_bl,<-gpB_is]
 apply ByteArray.ext
 simp[Array.append_assoc]
theorem oth_size (D:List ByteArray):(oth D).size<=(D.map ByteArray.size).sum+2*D.length:=by
 have h1:=glue_len (D.map bl) 0
 have h2:(oth D).size=(glue 0 (D.map bl)).length:=Pure.mkB_size' _
 have h3:((D.map bl).map List.length)=D.map ByteArray.size:=by
  rw[List.map_map]
  exact List.map_congr_left fun x _=>by simp[bl]
 rw[h3,List.length_map] at h1
 omega
end Go.Proofs.YtilpincgjlclpaaGreat.aaK
namespace Go.Proofs.YtilpincgjlclpaaGreat.Ob
open Go Go.RowKit Go.Proofs.ae.au Pr
open Go.Proofs.YtilpincgjlclpaaGreat.Pure (fZ II sF)
theorem cutb_to_f (n pos:Nat) (x:Int) (hn:n<=1000) (hp:pos<n) (hx:0<=x) (hx1:x<65536):∃z:Nat,wrap64 (wrap64 ((pos:Int)+1)+Int.tmod (wrap64 x) (wrap64 ((n:Int)-(pos:Int))))=(z:Int)/\pos<z/\z<=n:=by
 rw[IL ((pos:Int)+1) (by omega) (by omega),IL x hx (by omega),IL ((n:Int)-(pos:Int)) (by omega) (by omega),Int.tmod_eq_emod_of_nonneg hx]
 have h1:=Int.emod_nonneg x (show((n:Int)-pos)≠0 by omega)
 have h2:=Int.emod_lt_of_pos x (show 0<((n:Int)-pos) by omega)
 generalize x%((n:Int)-(pos:Int))=y at *
 refine⟨pos+1+y.toNat,?_,by omega,by omega⟩
 rw[IL _ (by omega) (by omega)]
 omega
theorem cut_big (a:ByteArray) (l:List Int) (ha:a.size<=1000) (hx:∀x∈l,0<=x/\x<65536) (hl:l.length<=1000000):∃K P,eF.f K a l=some P/\fZ P=a.data.toList/\P.length<=a.size:=by
 have hlen:a.data.toList.length=a.size:=by simp
 have loop:∀N m pos (i:Nat) (out:List ByteArray) k,m<=N->pos+m=a.size->m+1<=k->i<=pos->fZ out=a.data.toList.take pos->out.length<=pos->∃P,eF.l0 k a l out (pos:Int) (i:Int)=some P/\fZ P=a.data.toList/\P.length<=a.size:=by
  intro N
  induction N with
  |zero=>
   intro m pos i out k hN hm hk hi ho hol
   obtain⟨k,rfl⟩:∃k',k=k'+1:=⟨k-1,by omega⟩
   rw[eF.l0,if_neg (by omega)]
   exact⟨out,rfl,by rw[ho,List.take_of_length_le (by omega)],by omega⟩
  |succ N ih=>
   intro m pos i out k hN hm hk hi ho hol
   obtain⟨k,rfl⟩:∃k',k=k'+1:=⟨k-1,by omega⟩
   by_cases hp:pos<a.size
   ·have hw1:wrap64 ((i:Int)+1)=((i+1:Nat):Int):=IL _ (by omega) (by omega)
    rw[eF.l0,if_pos (by omega)]
    by_cases hil:i<l.length
    ·have hr:=hx _ (List.getElem_mem hil)
     have e:rd l (i:Int)=l[i]:=by unfold rd;rw[Int.toNat_natCast,List.getD_eq_getElem?_getD,List.getElem?_eq_getElem hil];rfl
     obtain⟨z,hz,hz1,hz2⟩:=cutb_to_f a.size pos l[i] ha hp hr.1 hr.2
     have hne:¬wrap64 ((a.size:Int)-(pos:Int))=0:=by rw[IL _ (by omega) (by omega)];omega
     rw[if_pos (by omega),if_pos (by omega),if_neg hne,if_pos (by omega),e,hz,if_pos (by omega),if_pos (by omega),if_pos (by omega),hw1,Int.toNat_natCast,Int.toNat_natCast]
     exact ih (a.size-z) z (i+1) _ k (by omega) (by omega) (by omega) (by omega) (FQ a out pos z (by omega) ho) (by simp;omega)
    ·rw[if_neg (by omega),if_pos (by omega),if_pos (by omega),if_pos (by omega),if_pos (by omega),hw1,Int.toNat_natCast,Int.toNat_natCast]
     exact ih 0 a.size (i+1) _ k (by omega) (by omega) (by omega) (by omega) (FQ a out pos a.size (by omega) ho) (by simp;omega)
   ·rw[eF.l0,if_neg (by omega)]
    exact⟨out,rfl,by rw[ho,List.take_of_length_le (by omega)],by omega⟩
 obtain⟨P,h1,h2,h3⟩:=loop a.size a.size 0 0 [] (a.size+1) (Nat.le_refl _) (by omega) (by omega) (Nat.le_refl _) rfl (Nat.le_refl _)
 exact⟨_,P,h1,h2,h3⟩
end Go.Proofs.YtilpincgjlclpaaGreat.Ob
end
