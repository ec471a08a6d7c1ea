import Derived.Test.YtilpincgjlclpaaGreatS3
import Derived.Test.YtilpincgjlclpaaGreatS8
set_option linter.unusedVariables false
set_option linter.unusedSimpArgs false
section
namespace Go.Proofs.YtilpincgjlclpaaGreat.Ob
open Go Go.RowKit Bs Mp jL Pr
open Tm (mg)
open uA (iJ oz)
theorem Ag:∀(S op:List UInt8),∀t∈Pure.jX op S,t≠[]
 |[],op,t,h=>by
  rw[Pure.jX] at h
  unfold kJ.rq at h
  split at h
  ·simp at h
  ·rename_i h0;simp at h;subst h;exact h0
 |c::S,op,t,h=>by
  rw[Pure.jX] at h
  split at h
  ·split at h
   ·exact Ag S [] t h
   ·rename_i h0
    rcases List.mem_cons.1 h with rfl|h
    ·exact h0
    ·exact Ag S [] t h
  ·exact Ag S _ t h
theorem Bz:∀(S op:List UInt8),((Pure.jX op S).map List.length).sum<=op.length+S.length
 |[],op=>by
  rw[Pure.jX]
  unfold kJ.rq
  split<;>simp
 |c::S,op=>by
  have h1:=Bz S []
  have h2:=Bz S (op++[c])
  rw[Pure.jX]
  split
  ·split
   ·simp at h1 ⊢;omega
   ·simp at h1 ⊢;omega
  ·simp at h2 ⊢;omega
theorem ZF (t:List UInt8):(ym t).size=t.length:=by unfold ym;exact List.size_toArray
theorem mkB_ne {L:List (List UInt8)} (h:∀t∈L,t≠[]):NE (L.map ym):=by
 intro y hy e
 obtain⟨t,ht,rfl⟩:=List.mem_map.1 hy
 have h2:=ZF t
 rw[e] at h2
 exact h t ht (List.eq_nil_of_length_eq_zero h2.symm)
theorem mkB_sum (L:List (List UInt8)):((L.map ym).map ByteArray.size).sum=(L.map List.length).sum:=by
 rw[List.map_map]
 congr 1
theorem RD_ne {lim:Int} {S:List UInt8} {err E:Int} {Y:List ByteArray} (h:Aj.RD lim S err=(E,Y)):NE Y/\(Y.map ByteArray.size).sum<=S.length:=by
 have h0:NE ([]:List ByteArray)/\(([]:List ByteArray).map ByteArray.size).sum<=S.length:=⟨fun y hy=>by simp at hy,by simp⟩
 unfold Aj.RD at h
 split at h
 ·cases h;exact h0
 ·split at h
  ·split at h
   ·cases h
    refine⟨mkB_ne (Ag S []),?_⟩
    rw[mkB_sum]
    have:=Bz S []
    simpa using this
   ·cases h;exact h0
  ·cases h;exact h0
end Go.Proofs.YtilpincgjlclpaaGreat.Ob
end
section
namespace Go.Proofs.YtilpincgjlclpaaGreat.Pure
open Go.RowKit Pr Go.Proofs.ae.au Go.Proofs.ae.aZ
open kJ (gap eD rq)
theorem gapB (c:UInt8):jJ.f (c.toNat:Int)=some (gap c):=by
 have h:∀n:Fin 256,jJ.f ((n.val:Nat):Int)=some (gap (UInt8.ofNat n.val)):=by decide+kernel
 have:=h ⟨c.toNat,c.toNat_lt⟩
 simpa using this
theorem PM (l:List UInt8) (k:Nat) (h:k<l.length):l.drop k=l.getD k 0::l.drop (k+1):=by
 rw[List.drop_eq_getElem_cons h]
 congr 1
 rw[List.getD_eq_getElem?_getD,List.getElem?_eq_getElem h]
 rfl
theorem OG {n:Nat} (h:n<9000000000000000000):wrap64 (n:Int)=(n:Int):=by unfold wrap64;omega
def cut (s:List UInt8) (a b:Nat):List UInt8:=(s.drop a).take (b-a)
theorem cut_len {s:List UInt8} {a b:Nat} (h:a<=b) (hb:b<=s.length):(cut s a b).length=b-a:=by simp[cut];omega
theorem Mx (s:List UInt8) (a:Nat):cut s a a=[]:=by simp[cut]
theorem Yf (s:List UInt8) (a b:Nat) (h:a<=b) (hb:b<s.length):cut s a (b+1)=cut s a b++[s.getD b 0]:=by
 unfold cut
 rw[show b+1-a=(b-a)+1 by omega,List.take_add_one,List.getElem?_drop,show a+(b-a)=b by omega,List.getElem?_eq_getElem hb,List.getD_eq_getElem?_getD,List.getElem?_eq_getElem hb]
 rfl
theorem cut_mk (s:ByteArray) (a b:Nat):s.extract a b=ym (cut s.data.toList a b):=by
 apply Vb
 rw[sF]
 simp[ym,cut]
theorem nU (s:ByteArray) (hs:s.size<=1000000):∀m i a (x:List ByteArray) k,i+m=s.size+1->a<=i->10+2*m<=k->x.length<=i->a<=s.size+1->
  bK.l0 k s x (a:Int) (i:Int)=some (x++(if i<=s.size then jX (cut s.data.toList a i) (s.data.toList.drop i) else[]).map ym)
 |0,i,a,x,k+1,h,ha,hk,hx,ha2=>by
  rw[bK.l0,if_neg (by omega),if_neg (by omega)]
  simp
 |m+1,i,a,x,k+1,h,ha,hk,hx,ha2=>by
  have hl:s.data.toList.length=s.size:=pF s
  obtain⟨k,rfl⟩:∃k',k=k'+1:=⟨k-1,by omega⟩
  have e1:wrap64 ((i:Int)+1)=((i+1:Nat):Int):=OG (n:=i+1) (by omega)
  have hcl:=cut_len (s:=s.data.toList) (b:=i) ha (by omega)
  have hend:∀(c:Bool),c=true->bK.j1 (k+1) s x (a:Int) (i:Int) c=some (x++((if cut s.data.toList a i=[] then[] else[cut s.data.toList a i])++(if i+1<=s.size then jX [] (s.data.toList.drop (i+1)) else[])).map ym):=by
   rintro c rfl
   have hc2:=Mx s.data.toList (i+1)
   rw[bK.j1,if_pos rfl]
   by_cases h1:i>a
   ·rw[if_pos (by omega),if_pos (by omega),if_pos (by omega),if_pos (by omega),if_pos (by omega),e1,nU s hs m (i+1) (i+1) _ k (by omega) (by omega) (by omega) (by simp;omega) (by omega),hc2,
     Int.toNat_natCast,Int.toNat_natCast,cut_mk]
    have hne:¬cut s.data.toList a i=[]:=by intro e;rw[e] at hcl;simp at hcl;omega
    rw[if_neg hne]
    simp
   ·rw[if_neg (by omega),e1,nU s hs m (i+1) (i+1) _ k (by omega) (by omega) (by omega) (by omega) (by omega),hc2]
    have hnil:cut s.data.toList a i=[]:=List.eq_nil_of_length_eq_zero (by omega)
    rw[if_pos hnil]
    simp
  rw[bK.l0,if_pos (by omega)]
  by_cases hi:i=s.size
  ·subst hi
   rw[if_pos rfl,hend true rfl,if_neg (show¬s.size+1<=s.size by omega),if_pos (Nat.le_refl s.size),List.drop_of_length_le (Nat.le_of_eq hl),jX,rq]
   simp
  ·rw[if_neg (by omega),if_pos (by omega),if_pos (by omega),bt_list s i (by omega),gapB,Option.bind_some,if_pos (show i<=s.size by omega),PM _ i (by omega),jX]
   by_cases hg:gap (s.data.toList.getD i 0)=true
   ·rw[hend _ hg,if_pos hg,if_pos (show i+1<=s.size by omega)]
    by_cases hnil:cut s.data.toList a i=[]
    ·rw[if_pos hnil,if_pos hnil]
     simp
    ·rw[if_neg hnil,if_neg hnil]
     simp
   ·rw[bK.j1,if_neg hg,e1,nU s hs m (i+1) a _ k (by omega) (by omega) (by omega) (by omega) (by omega),if_pos (show i+1<=s.size by omega),if_neg hg,Yf _ _ _ ha (by omega)]
theorem Rz {k:Nat} (s:ByteArray) (hs:s.size<=1000000) (hk:2*s.size+20<=k):bK.f k s=some ((jX [] s.data.toList).map ym):=by
 have:=nU s hs (s.size+1) 0 0 [] k (by omega) (by omega) (by omega) (by simp) (by omega)
 unfold bK.f
 rw[Mx,if_pos (Nat.zero_le _)] at this
 simpa using this
end Go.Proofs.YtilpincgjlclpaaGreat.Pure
end
