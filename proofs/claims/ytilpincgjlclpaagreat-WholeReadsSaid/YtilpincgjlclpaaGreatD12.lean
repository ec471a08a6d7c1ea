import Derived.Test.YtilpincgjlclpaaGreatD11
import Derived.Test.YtilpincgjlclpaaGreatD6
set_option linter.unusedVariables false
set_option linter.unusedSimpArgs false
namespace Go.Proofs.YtilpincgjlclpaaGreat.Ob
open Go Go.RowKit Go.Proofs.ae.au Pr
open Go.Proofs.YtilpincgjlclpaaGreat.Pure (fZ II sF)
theorem FQ (a:ByteArray) (P:List ByteArray) (pos z:Nat) (hz:pos<=z) (h:fZ P=a.data.toList.take pos):fZ (P++[a.extract pos z])=a.data.toList.take z:=by
 rw[II,h,show fZ [a.extract pos z]=(a.extract pos z).data.toList by simp[fZ],sF]
 rw[show a.data.toList.take z=a.data.toList.take (pos+(z-pos)) by rw[show pos+(z-pos)=z by omega],List.take_add]
theorem IL (y:Int) (h0:0<=y) (h1:y<=1000000):wrap64 y=y:=by unfold wrap64;omega
theorem Yg (n pos:Nat) (x:Int) (hn:n<=300) (hp:pos<n) (hx:0<=x) (hx1:x<65536):∃z:Nat,wrap64 (wrap64 ((pos:Int)+1)+Int.tmod (wrap64 x) (wrap64 ((n:Int)-(pos:Int))))=(z:Int)/\pos<z/\z<=n:=by
 rw[IL ((pos:Int)+1) (by omega) (by omega),IL x hx (by omega),IL ((n:Int)-(pos:Int)) (by omega) (by omega),Int.tmod_eq_emod_of_nonneg hx]
 have h1:=Int.emod_nonneg x (show((n:Int)-pos)≠0 by omega)
 have h2:=Int.emod_lt_of_pos x (show 0<((n:Int)-pos) by omega)
 generalize x%((n:Int)-(pos:Int))=y at *
 refine⟨pos+1+y.toNat,?_,by omega,by omega⟩
 rw[IL _ (by omega) (by omega)]
 omega
theorem cut_f (a:ByteArray) (l:List Int) (ha:a.size<=300) (hx:∀x∈l,0<=x/\x<65536) (hl:l.length<=1000000):∃K P,eF.f K a l=some P/\fZ P=a.data.toList/\P.length<=a.size:=by
 have hlen:a.data.toList.length=a.size:=by simp
 have loop:∀N m pos (i:Nat) (out:List ByteArray) k,m<=N->pos+m=a.size->m+1<=k->i<=pos->fZ out=a.data.toList.take pos->out.length<=pos->∃P,eF.l0 k a l out (pos:Int) (i:Int)=some P/\fZ P=a.data.toList/\P.length<=a.size:=by
  intro N
  induction N with
  |zero=>
   intro m pos i out k hN hm hk hi ho hol
   obtain⟨k,rfl⟩:∃k',k=k'+1:=⟨k-1,by omega⟩
   rw[eF.l0,if_neg (by omega)]
   exact⟨out,rfl,by rw[ho,List.take_of_length_le (by omega)],by omega⟩
  |succ N ih=>
   intro m pos i out k hN hm hk hi ho hol
   obtain⟨k,rfl⟩:∃k',k=k'+1:=⟨k-1,by omega⟩
   by_cases hp:pos<a.size
   ·have hw1:wrap64 ((i:Int)+1)=((i+1:Nat):Int):=IL _ (by omega) (by omega)
    rw[eF.l0,if_pos (by omega)]
    by_cases hil:i<l.length
    ·have hr:=hx _ (List.getElem_mem hil)
     have e:rd l (i:Int)=l[i]:=by unfold rd;rw[Int.toNat_natCast,List.getD_eq_getElem?_getD,List.getElem?_eq_getElem hil];rfl
     obtain⟨z,hz,hz1,hz2⟩:=Yg a.size pos l[i] ha hp hr.1 hr.2
     have hne:¬wrap64 ((a.size:Int)-(pos:Int))=0:=by rw[IL _ (by omega) (by omega)];omega
     rw[if_pos (by omega),if_pos (by omega),if_neg hne,if_pos (by omega),e,hz,if_pos (by omega),if_pos (by omega),if_pos (by omega),hw1,Int.toNat_natCast,Int.toNat_natCast]
     exact ih (a.size-z) z (i+1) _ k (by omega) (by omega) (by omega) (by omega) (FQ a out pos z (by omega) ho) (by simp;omega)
    ·rw[if_neg (by omega),if_pos (by omega),if_pos (by omega),if_pos (by omega),if_pos (by omega),hw1,Int.toNat_natCast,Int.toNat_natCast]
     exact ih 0 a.size (i+1) _ k (by omega) (by omega) (by omega) (by omega) (FQ a out pos a.size (by omega) ho) (by simp;omega)
   ·rw[eF.l0,if_neg (by omega)]
    exact⟨out,rfl,by rw[ho,List.take_of_length_le (by omega)],by omega⟩
 obtain⟨P,h1,h2,h3⟩:=loop a.size a.size 0 0 [] (a.size+1) (Nat.le_refl _) (by omega) (by omega) (Nat.le_refl _) rfl (Nat.le_refl _)
 exact⟨_,P,h1,h2,h3⟩
end Go.Proofs.YtilpincgjlclpaaGreat.Ob
