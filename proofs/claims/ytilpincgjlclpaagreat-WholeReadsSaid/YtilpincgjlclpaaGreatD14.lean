import Derived.Test.YtilpincgjlclpaaGreatB36
import Derived.Test.YtilpincgjlclpaaGreatD10
import Derived.Test.YtilpincgjlclpaaGreatD13
import Derived.Test.YtilpincgjlclpaaGreatD8
set_option linter.unusedVariables false
set_option linter.unusedSimpArgs false
section
namespace Go.Proofs.YtilpincgjlclpaaGreat.Pr
open Go.RowKit Go.Proofs.ae.au Go.Proofs.ae.aZ Go.Proofs.ae.bE
attribute [local go_sem] bQ min2_int cB min_two max_three min_three max_four min_four
def eO.l0:Nat->List ByteArray->List (dN)->Int->Option ((List (dN)))
 |0,_,_,_=>none
 |k+1,x0,x3,x4=>if x4<(x0.length:Int) then(if 0<=x4 then((aY.f k x3 (dH ByteArray.empty x0 x4) 1).bind fun bt592=>(eO.l0 k x0 bt592.1 (wrap64 (x4+1)))) else(none)) else(some x3)
def eO.f (k:Nat) (l0:List ByteArray):Option ((List (dN))):=eO.l0 k l0 ([]:List (dN)) 0
set_option maxHeartbeats 8000000 in
set_option maxRecDepth 100000 in
theorem eO.calls (k:Nat) (A0:Option Addr) (c0:Nat) (l0:List ByteArray) (r:List (dN)) (w:World) (hr0:Kd.C Kd.string w A0 l0.length l0) (hc0:l0.length<=c0) (h:eO.f k l0=some r):
  Calls Tryz.prog 26 #[.slice A0 l0.length c0] w fun e w'=>∃rU:Value,e= .returned (rU)/\Kd.R lQ 45 w' w.heap.size (fun _=>True) rU r/\Below w.heap.size w w':=by
 have gq:=ai.mk hr0
 have lC:=ai.mk hc0
 clear hr0 hc0
 have HB:=ai.mk (Below.refl w.heap.size w)
 have H:(eO.l0 k l0 ([]:List (dN)) 0)=some r:=h
 clear h
 have H':=ai.mk H
 clear H
 go_enter Tryz.func26,Tryz.ntmps26
 go_wp2
 go_loopg [3,4] k (fun kq v3 v4 w'=>∃(fB:List (dN)) (bq:Int),v4= .int .i64 bq/\ai (eO.l0 kq l0 fB bq=some r)/\ai (kq<=k)/\ai (Kd.R lQ 45 w' w.heap.size (fun _=>True) v3 fB)/\ai (Below w.heap.size w w'))
 case atStart=>exact⟨(([]:List (dN))),(0),(by first|rfl|(simp;done)|(simp[*];done)),H',⟨Nat.le_refl _⟩,⟨by first|exact Kd.jM _ _ _ _ _|exact Kd.kQ _ _ _ _ _|exact Kd.kS _ _ _ _ _|exact Kd.kR _ _ _ _ _|exact Kd.kg _ _ _ _ _⟩,⟨by repeat(first|(with_reducible first|exact HB.out|apply ag|apply af|apply ah)|exact HB.out)⟩⟩
 case round=>
  clear H'
  obtain⟨fB,bq,rfl,HA,gH,jg,HB⟩:=hrel
  cases gk with
  |zero=>exact absurd HA.out (by simp[eO.l0])
  |succ k1=>
   have H:=HA.out
   clear HA
   simp only[eO.l0] at H
   by_cases c2:bq<(l0.length:Int)
   ·rw[if_pos c2] at H
    have jV:decide (bq<(l0.length:Int))=true:=decide_eq_true c2
    clear c2
    by_cases c3:0<=bq
    ·rw[if_pos c3] at H
     have iY:decide (0<=bq)=true:=decide_eq_true c3
     clear c3
     replace H:=Option.bind_eq_some_iff.mp H
     obtain⟨⟨t592,t595⟩,GA,H⟩:=H
     replace H:(eO.l0 k1 l0 t592 (wrap64 (bq+1)))=some r:=H
     have A4:=ai.mk GA
     clear GA
     have H':=ai.mk H
     clear H
     have p591:0<=(bq:Int):=of_decide_eq_true (by first|(with_reducible assumption)|assumption)
     have q591:bq<(l0.length:Int):=of_decide_eq_true (by first|(with_reducible assumption)|assumption)
     obtain⟨ad591,e591,Ke⟩:=Kd.dx gq.out bq p591 q591
     cases e591
     replace Ke:=(HB.out.cell (World.block_lt_of_cell? w _ Ke)).trans Ke
     replace p591:=eq_true p591
     replace q591:=eq_true q591
     obtain⟨Ao5,co5,eo5⟩:=Kd.gL jg.out
     subst eo5
     go_wp2_with (first|((with_reducible refine bL (f:=59) rfl ?_);refine eQ (some 17) rfl rfl Tryz.func59 (by kernel_rfl) rfl #[.slice Ao5 fB.length co5,.string (dH ByteArray.empty l0 bq),.int .i64 1] rfl (by(try simp only[List.map_toArray,List.map_cons,List.map_nil]);first|done|rfl|(simp only[List.length_drop,List.length_take];rfl)) ?_;(with_reducible refine(aY.calls k1 (fun k_=>some k_=(.slice Ao5 fB.length co5:Value).ownBlock) (.slice Ao5 fB.length co5) fB (dH ByteArray.empty l0 bq) 1 t592 t595 w _ ?gM ?gW A4.out).mono ?_);(case gM=>repeat(first|(with_reducible first|exact HB.out|apply ag|apply af|apply ah)|exact HB.out));(case gW=>exact Kd.yL rfl jg.out);rintro e w6 ⟨v593,rfl,ho0,hb,hkp⟩;refine⟨_,rfl,?_⟩;have bN:=ai.mk (Kd.dU (ok':=fun k_=>True) ho0 (fun k_ hk_=>trivial));have bP:=ai.mk (hb);clear HB;clear jg;have HO594:=bN;have HB:=bP;clear bN bP;(try clear hb);(try clear hkp);(try clear ho0)))
     go_roundg k1
     case measure=>have:=gH.out;omega
     case rel=>exact⟨(t592),(wrap64 (bq+1)),(by first|rfl|(simp;done)|(simp[*];done)),H',⟨by have:=gH.out;omega⟩,⟨by(with_reducible repeat(first|apply Kd.aM|apply Kd.aK|apply Kd.aV));exact HO594.out⟩,⟨by repeat(first|(with_reducible first|exact HB.out|apply ag|apply af|apply ah)|exact HB.out)⟩⟩
    ·rw[if_neg c3] at H
     exact absurd H (by simp)
   ·rw[if_neg c2] at H
    have jV:decide (bq<(l0.length:Int))=false:=decide_eq_false c2
    clear c2
    obtain rfl:=Option.some.inj H
    go_wp2
    go_ret
    exact⟨_,by first|rfl|(simp[aC,aD]<;>rfl)|(simp[*,aC,aD]<;>rfl),by(with_reducible repeat(first|apply Kd.aM|apply Kd.aK|apply Kd.aV));exact jg.out,by repeat(first|(with_reducible first|exact HB.out|apply ag|apply af|apply ah)|exact HB.out)⟩
end Go.Proofs.YtilpincgjlclpaaGreat.Pr
end
section
namespace Go.Proofs.YtilpincgjlclpaaGreat.Ob
open Go Go.RowKit Go.Proofs.ae.au Pr Mp
open uA (iJ oz wi jB good jN jW iR ql qa zC kT kK)
abbrev SW:=dN
abbrev dl (s:ByteArray):List UInt8:=s.data.toList
theorem vO:∀a b:List UInt8,dS a b=true↔a<b
 |[],[]=>by simp[dS]
 |[],_::_=>by simp[dS]
 |_::_,[]=>by simp[dS]
 |a::l,b::m=>by
  rw[dS,List.cons_lt_cons_iff]
  by_cases h:a=b
  ·subst h
   rw[if_pos rfl,vO l m]
   constructor
   ·intro h;exact .inr ⟨rfl,h⟩
   ·rintro(h|⟨_,h⟩)
    ·exact(UInt8.lt_irrefl _ h).elim
    ·exact h
  ·rw[if_neg h,decide_eq_true_eq]
   constructor
   ·intro h;exact .inl h
   ·rintro(h2|⟨h2,_⟩)
    ·exact h2
    ·exact(h h2).elim
theorem Aa (a b:ByteArray):(a.toList=b.toList)↔a=b:=gJ.iG
def zy (y:ByteArray) (s:Int):List SW->List SW
 |[]=>[⟨y,s⟩]
 |x::r=>if dS (dl x.f0) (dl y)=true then x::zy y s r else⟨y,s⟩::(x::r).filter fun z=>decide (z.f0≠y)
def rE (y:ByteArray):List SW->Int
 |[]=>0
 |x::r=>if x.f0=y then x.f1 else rE y r
theorem count_f {L:List SW} (hl:L.length<=1000) (y:ByteArray) (k:Nat) (hk:L.length+1<=k):dE.f k L y=some (rE y L):=by
 have loop:∀m i k,i+m=L.length->m+1<=k->dE.l0 k L y (i:Int)=some (rE y (L.drop i)):=by
  intro m
  induction m with
  |zero=>
   intro i k hi hk
   obtain⟨k,rfl⟩:∃k',k=k'+1:=⟨k-1,by omega⟩
   rw[dE.l0,if_neg (by omega),List.drop_of_length_le (by omega)]
   rfl
  |succ m ih=>
   intro i k hi hk
   obtain⟨k,rfl⟩:∃k',k=k'+1:=⟨k-1,by omega⟩
   have hlt:i<L.length:=by omega
   rw[dE.l0,if_pos (by omega),if_pos (by omega),jB L i hlt,wi i (by omega),List.drop_eq_getElem_cons hlt,rE,ih (i+1) k (by omega) (by omega)]
   by_cases h:L[i].f0=y
   ·rw[if_pos ((Aa _ _).2 h),if_pos h]
   ·rw[if_neg (fun h9=>h ((Aa _ _).1 h9)),if_neg h]
 have:=loop L.length 0 k (by omega) hk
 exact this
theorem lt_ne {x y:ByteArray} (h:dS (dl x) (dl y)=true):x≠y:=by
 intro e
 subst e
 exact List.lt_irrefl _ ((vO _ _).1 h)
theorem Ma {L:List SW} (hl:L.length<=1000) (y:ByteArray) (s:Int):∀m i (out:List SW) k,i+m=L.length->2*m+1<=k->out.length<=1000+i->aY.l0 k L y s out true (i:Int)=some (out++(L.drop i).filter (fun z=>decide (z.f0≠y)),0):=by
 intro m
 induction m with
 |zero=>
  intro i out k hi hk ho
  obtain⟨k,rfl⟩:∃k',k=k'+1:=⟨k-1,by omega⟩
  rw[aY.l0,if_neg (by omega),if_pos rfl,List.drop_of_length_le (by omega)]
  simp
 |succ m ih=>
  intro i out k hi hk ho
  obtain⟨k,rfl⟩:∃k',k=k'+1+1:=⟨k-2,by omega⟩
  have hlt:i<L.length:=by omega
  rw[aY.l0,if_pos (by omega),if_pos rfl,aY.j2,if_neg (by decide),if_pos (by omega),if_pos (by omega),jB L i hlt,wi i (by omega),List.drop_eq_getElem_cons hlt,List.filter_cons]
  by_cases h:L[i].f0=y
  ·rw[if_pos ((Aa _ _).2 h),ih (i+1) out k (by omega) (by omega) (by omega),if_neg (by simpa using h)]
  ·rw[if_neg (fun h9=>h ((Aa _ _).1 h9)),if_pos (by omega),ih (i+1) _ k (by omega) (by omega) (by simp;omega),if_pos (by simpa using h),List.append_assoc]
   rfl
theorem add_go {L:List SW} (hl:L.length<=1000) (hz:∀x∈L,x.f0.size<=1000) (y:ByteArray) (hy:y.size<=1000) (s:Int):∀m i (out:List SW) k,i+m=L.length->2*m+1<=k->out.length<=i->aY.l0 k L y s out false (i:Int)=some (out++zy y s (L.drop i),0):=by
 intro m
 induction m with
 |zero=>
  intro i out k hi hk ho
  obtain⟨k,rfl⟩:∃k',k=k'+1:=⟨k-1,by omega⟩
  rw[aY.l0,if_neg (by omega),if_neg (by decide),if_pos (by omega),List.drop_of_length_le (by omega)]
  rfl
 |succ m ih=>
  intro i out k hi hk ho
  obtain⟨k,rfl⟩:∃k',k=k'+1+1:=⟨k-2,by omega⟩
  have hlt:i<L.length:=by omega
  have hzi:=hz _ (List.getElem_mem hlt)
  have hless:bI.f L[i].f0 y=some (dS (dl L[i].f0) (dl y)):=by
   unfold bI.f
   rw[if_pos (by omega)]
  rw[aY.l0,if_pos (by omega),if_neg (by decide),if_pos (by omega),jB L i hlt,hless,Option.bind_some,aY.j2,List.drop_eq_getElem_cons hlt,zy]
  by_cases hb:dS (dl L[i].f0) (dl y)=true
  ·have hne:=lt_ne hb
   rw[if_pos hb,hb,if_neg (by decide),if_pos (by omega),if_pos (by omega),jB L i hlt,wi i (by omega),if_neg (fun h9=>hne ((Aa _ _).1 h9)),if_pos (by omega),ih (i+1) _ k (by omega) (by omega) (by simp;omega),List.append_assoc]
   rfl
  ·have hbf:dS (dl L[i].f0) (dl y)=false:=by simpa using hb
   rw[if_neg hb,hbf,if_pos (by decide),if_pos (by omega),Option.bind_some,if_pos (by omega),if_pos (by omega),jB L i hlt,wi i (by omega),List.filter_cons]
   by_cases h:L[i].f0=y
   ·rw[if_pos ((Aa _ _).2 h),Ma hl y s m (i+1) _ k (by omega) (by omega) (by simp;omega),if_neg (by simpa using h),List.append_assoc]
    rfl
   ·rw[if_neg (fun h9=>h ((Aa _ _).1 h9)),if_pos (by simp;omega),Ma hl y s m (i+1) _ k (by omega) (by omega) (by simp;omega),if_pos (by simpa using h),List.append_assoc,List.append_assoc]
    rfl
theorem add_f {L:List SW} (hl:L.length<=1000) (hz:∀x∈L,x.f0.size<=1000) {y:ByteArray} (hy:y.size<=1000) (hne:y≠ByteArray.empty) (h0:0<=rE y L) (h1:rE y L<=1000) (k:Nat) (hk:3000<=k):aY.f k L y 1=some (zy y (rE y L+1) L,0):=by
 obtain⟨k,rfl⟩:∃k',k=k'+1:=⟨k-1,by omega⟩
 have hne2:¬y.toList=[]:=by
  have:(ByteArray.empty).toList=[]:=by decide+kernel
  rw[<-this]
  exact fun h=>hne ((Aa _ _).1 h)
 have hadd:cK.f (rE y L) 1=some (rE y L+1,true):=by
  have hw:wrap64 (rE y L+1)=rE y L+1:=by generalize rE y L=g at *;unfold wrap64;omega
  unfold cK.f
  rw[if_neg (by omega),if_neg (by omega),hw,if_neg (by omega)]
 unfold aY.f
 rw[if_neg hne2,aY.j0,if_neg (by decide),count_f hl y k (by omega),Option.bind_some,hadd,Option.bind_some,if_pos rfl]
 have:=add_go hl hz y hy (rE y L+1) L.length 0 [] k (by omega) (by omega) (Nat.le_refl _)
 simpa using this
end Go.Proofs.YtilpincgjlclpaaGreat.Ob
end
