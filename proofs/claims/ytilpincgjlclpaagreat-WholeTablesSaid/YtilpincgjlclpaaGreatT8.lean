import Derived.Lib.SlBytesRow
import Derived.Test.YtilpincgjlclpaaGreatB24
import Derived.Test.YtilpincgjlclpaaGreatT2
set_option linter.unusedVariables false
set_option linter.unusedSimpArgs false
section
namespace Go.Proofs.YtilpincgjlclpaaGreat.Pr
open Go.RowKit Bs Go.Proofs.ae.au Go.Proofs.ae.aZ Go.Proofs.ae.bE
set_option maxHeartbeats 2000000 in
set_option maxRecDepth 100000 in
theorem bI.calls (a0 a1:ByteArray) (r:Bool) (w:World) (h:bI.f a0 a1=some r):
  Calls Tryz.prog 50 #[.string a0,.string a1] w fun e w'=>e= .returned (.bool r)/\∃q,w'=w.drewN q:=by
 unfold bI.f at h
 split at h
 ·rename_i hsz
  cases h
  obtain⟨hs0,hs1⟩:=hsz
  have hl0:a0.data.toList.length=a0.size:=by simp
  have hl1:a1.data.toList.length=a1.size:=by simp
  go_enter Tryz.func50,Tryz.ntmps50
  go_wp2_with fail
  go_loopw [5] (fun v5 wr=>∃i:Nat,v5= .int .i64 i/\i<=a0.size/\i<=a1.size/\dS (a0.data.toList.drop i) (a1.data.toList.drop i)=dS a0.data.toList a1.data.toList/\∃q,wr=w.drewN q) (fun v5 _=>a0.size-(intOf v5).toNat)
  case atStart=>exact⟨0,rfl,Nat.zero_le _,Nat.zero_le _,rfl,0,rfl⟩
  case round=>
   obtain⟨i,rfl,hi0,hi1,hls,q,rfl⟩:=hrel
   have Xj:=Lib.hid hls
   clear hls
   by_cases hlt:i<a0.size/\i<a1.size
   ·obtain⟨h0,h1⟩:=hlt
    have hd0:a0.data.toList.drop i=a0[i]::a0.data.toList.drop (i+1):=List.drop_eq_getElem_cons (by omega)
    have hd1:a1.data.toList.drop i=a1[i]::a1.data.toList.drop (i+1):=List.drop_eq_getElem_cons (by omega)
    have HD0:=Lib.hid hd0
    have HD1:=Lib.hid hd1
    clear hd0 hd1
    by_cases hne:a0[i]=a1[i]
    ·have hb:((a0[i].toNat:Int) != (a1[i].toNat:Int))=false:=by rw[hne];simp
     have UU:=Lib.hid hne
     clear hne
     go_wp2_with fail
     go_region
     go_wp2_with fail
     exact⟨⟨i+1,by go_num,by omega,by omega,by rw[<-Xj.out,HD0.out,HD1.out,dS,if_pos UU.out],_,rfl⟩,by simp[intOf];omega⟩
    ·have hb:((a0[i].toNat:Int) != (a1[i].toNat:Int))=true:=by
      have:a0[i].toNat≠a1[i].toNat:=fun e=>hne (UInt8.toNat_inj.1 e)
      simp
      omega
     have UU:=Lib.hid hne
     clear hne
     go_wp2_with fail
     go_region
     go_wp2_with fail
     go_region
     go_wp2_with fail
     go_ret
     refine⟨?_,_,rfl⟩
     rw[<-Xj.out,HD0.out,HD1.out,dS,if_neg UU.out]
     simp[UInt8.lt_iff_toNat_lt]
   ·have hx:dS (a0.data.toList.drop i) (a1.data.toList.drop i)=decide (a0.size<a1.size):=by
     rcases Nat.lt_or_ge i a0.size with h|h
     ·have hi1':i=a1.size:=by omega
      rw[show a1.data.toList.drop i=[] from List.drop_of_length_le (by omega),show a0.data.toList.drop i=a0.data.toList[i]'(by omega)::a0.data.toList.drop (i+1) from List.drop_eq_getElem_cons (by omega),dS]
      symm
      exact decide_eq_false (by omega)
     ·have hi0':i=a0.size:=by omega
      rw[show a0.data.toList.drop i=[] from List.drop_of_length_le (by omega)]
      rcases Nat.lt_or_ge i a1.size with h2|h2
      ·rw[show a1.data.toList.drop i=a1.data.toList[i]'(by omega)::a1.data.toList.drop (i+1) from List.drop_eq_getElem_cons (by omega),dS]
       symm
       exact decide_eq_true (by omega)
      ·rw[show a1.data.toList.drop i=[] from List.drop_of_length_le (by omega),dS]
       symm
       exact decide_eq_false (by omega)
    have HX:=Lib.hid hx
    clear hx
    go_wp2_with fail
    all_goals go_ret
    all_goals refine⟨?_,_,rfl⟩
    all_goals rw[<-Xj.out,HX.out]
    all_goals rfl
 ·cases h
end Go.Proofs.YtilpincgjlclpaaGreat.Pr
end
section
namespace Go.Proofs.YtilpincgjlclpaaGreat.gJ
open Go.RowKit Go.Proofs.ae.au Pr Mp
theorem rdI (l:List Int) (i:Nat) (h:i<l.length):rd l (i:Int)=l[i]:=by
 unfold rd
 rw[Int.toNat_natCast]
 simp[h]
theorem Fp (ws:List (List ByteArray)) (i:Nat) (h:i<ws.length):rem (ws.drop i)=ws[i].length+3+rem (ws.drop (i+1)):=by
 rw[List.drop_eq_getElem_cons h,rem]
theorem Cg.mono {ws cs seen i j} {x:eu} (h:Cg ws cs seen i j):Cg ws cs (seen++[x]) i j:=fun i' w c j' p q h1 h2 h3 h4 h5 h6=>List.mem_append_left _ (h i' w c j' p q h1 h2 h3 h4 h5 h6)
theorem Cg.step {ws cs seen i j} (h:Cg ws cs seen i j) (hi:i<ws.length) (hj:j+1<ws[i].length) (hm:(⟨ws[i][j],ws[i][j+1]⟩:eu)∈seen):Cg ws cs seen i (j+1):=by
 intro i' w c j' p q h1 h2 h3 h4 h5 h6
 by_cases e:i'=i/\j'=j
 ·obtain⟨rfl,rfl⟩:=e
  rw[List.getElem?_eq_getElem hi] at h1
  injection h1 with h1
  subst h1
  rw[List.getElem?_eq_getElem (by omega)] at h4
  rw[List.getElem?_eq_getElem hj] at h5
  injection h4 with h4
  injection h5 with h5
  rw[<-h4,<-h5]
  exact hm
 ·exact h i' w c j' p q h1 h2 h3 h4 h5 (by omega)
theorem Cg.next {ws cs seen i j} (h:Cg ws cs seen i j) (he:∀w c,ws[i]?=some w->cs[i]?=some c->1<=c->w.length<=j+1):Cg ws cs seen (i+1) 0:=by
 intro i' w c j' p q h1 h2 h3 h4 h5 h6
 by_cases e:i'=i
 ·subst e
  have:=he w c h1 h2 h3
  have l:=(List.getElem?_eq_some_iff.1 h5).1
  exact h i' w c j' p q h1 h2 h3 h4 h5 (.inr ⟨rfl,by omega⟩)
 ·exact h i' w c j' p q h1 h2 h3 h4 h5 (.inl (by omega))
theorem lq (a b:ByteArray):∀(i:Nat) (ws:List (List ByteArray)) (cs:List Int),wc a b ws cs=wc a b (ws.take i) (cs.take i)+wc a b (ws.drop i) (cs.drop i)
 |0,ws,cs=>by simp[wc]
 |i+1,[],cs=>by simp[wc]
 |i+1,w::ws,[]=>by simp[wc]
 |i+1,w::ws,c::cs=>by
  rw[List.take_succ_cons,List.take_succ_cons,List.drop_succ_cons,List.drop_succ_cons,wc,wc,lq a b i ws cs,Int.add_assoc]
def tY (ws:List (List ByteArray)) (cs:List Int) (i j:Nat) (a b:ByteArray):Int:=wc a b (ws.take i) (cs.take i)+cs.getD i 0*(pc a b ((ws.getD i []).take (j+1)):Int)
theorem oh (a b:ByteArray) (w:List ByteArray):pc a b (w.take 1)=0:=by
 cases w<;>simp
theorem kr (ws cs) (i:Nat) (a b:ByteArray):tY ws cs i 0 a b=wc a b (ws.take i) (cs.take i):=by
 unfold tY
 rw[show(0+1)=1 from rfl,oh]
 simp
theorem FN (ws cs) (a b:ByteArray):tY ws cs 0 0 a b=0:=by rw[kr];simp[wc]
theorem nI (a b:ByteArray):∀(w:List ByteArray) (j:Nat) (h:j+1<w.length),pc a b (w.take (j+2))=pc a b (w.take (j+1))+if w[j]=a/\w[j+1]=b then 1 else 0
 |p::q::r,0,_=>by
  rw[List.take_succ_cons,List.take_succ_cons,List.take_zero,kM,ZV]
  have:=oh a b (p::q::r)
  simp only[List.getElem_cons_zero,List.getElem_cons_succ,Nat.zero_add,this]
  omega
 |p::q::r,j+1,h=>by
  have:=nI a b (q::r) j (by simpa using h)
  rw[List.take_succ_cons,List.take_succ_cons,kM,List.take_succ_cons,List.take_succ_cons,kM]
  rw[List.take_succ_cons,List.take_succ_cons] at this
  rw[this]
  simp only[List.getElem_cons_succ]
  omega
theorem FM {ws:List (List ByteArray)} {cs:List Int} {i j:Nat} (hi:i<ws.length) (hi':i<cs.length) (hj:j+1<ws[i].length) (a b:ByteArray):
  tY ws cs i (j+1) a b=tY ws cs i j a b+if ws[i][j]=a/\ws[i][j+1]=b then cs[i] else 0:=by
 unfold tY
 have e1:ws.getD i []=ws[i]:=by simp[List.getD,hi]
 have e2:cs.getD i 0=cs[i]:=by simp[List.getD,hi']
 rw[e1,e2,nI a b ws[i] j hj]
 split
 ·rw[Int.natCast_add,Int.mul_add];simp;omega
 ·simp
theorem FK {ws:List (List ByteArray)} {cs:List Int} {i j:Nat} (hi:i<ws.length) (hi':i<cs.length) (h1:1<=cs[i]) (hj:ws[i].length<=j+1) (a b:ByteArray):
  tY ws cs (i+1) 0 a b=tY ws cs i j a b:=by
 rw[kr,lq a b i (ws.take (i+1)) (cs.take (i+1)),List.take_take,List.take_take]
 unfold tY
 have e1:ws.getD i []=ws[i]:=by simp[List.getD,hi]
 have e2:cs.getD i 0=cs[i]:=by simp[List.getD,hi']
 rw[e1,e2,List.take_of_length_le hj,show min i (i+1)=i by omega]
 congr 1
 rw[List.drop_take,List.drop_take,show i+1-i=1 by omega,List.drop_eq_getElem_cons hi,List.drop_eq_getElem_cons hi',List.take_succ_cons,List.take_succ_cons,List.take_zero,List.take_zero,wc,wc,if_neg (by omega)]
 ·simp
 ·simp
theorem FL {ws:List (List ByteArray)} {cs:List Int} {i:Nat} (hi:i<ws.length) (h:∀c,cs[i]?=some c->c<1) (a b:ByteArray):
  tY ws cs (i+1) 0 a b=tY ws cs i 0 a b:=by
 rw[kr,kr,lq a b i (ws.take (i+1)) (cs.take (i+1)),List.take_take,List.take_take,show min i (i+1)=i by omega]
 have:wc a b (List.drop i (ws.take (i+1))) (List.drop i (cs.take (i+1)))=0:=by
  rw[List.drop_take,List.drop_take,show i+1-i=1 by omega,List.drop_eq_getElem_cons hi,List.take_succ_cons,List.take_zero]
  by_cases hc:i<cs.length
  ·have:=h cs[i] (List.getElem?_eq_getElem hc)
   rw[List.drop_eq_getElem_cons hc,List.take_succ_cons,List.take_zero,wc,if_pos this,wc]
   ·rfl
   ·simp
  ·rw[List.drop_of_length_le (by omega)]
   simp[wc]
 rw[this]
 omega
theorem rV {ws:List (List ByteArray)} {cs:List Int} {i j:Nat} (hi:i<ws.length) (hi':i<cs.length) (h1:1<=cs[i]) (a b:ByteArray):0<=tY ws cs i j a b/\tY ws cs i j a b<=wc a b ws cs:=by
 unfold tY
 have e1:ws.getD i []=ws[i]:=by simp[List.getD,hi]
 have e2:cs.getD i 0=cs[i]:=by simp[List.getD,hi']
 rw[e1,e2,lq a b i ws cs,List.drop_eq_getElem_cons hi,List.drop_eq_getElem_cons hi',wc,if_neg (by omega)]
 have g1:=nR a b (ws.take i) (cs.take i)
 have g2:=nR a b (ws.drop (i+1)) (cs.drop (i+1))
 have g3:pc a b (ws[i].take (j+1))<=pc a b ws[i]:=by
  have key:∀(w:List ByteArray) (n:Nat),pc a b (w.take n)<=pc a b w:=by
   intro w
   induction w with
   |nil=>intro n;simp
   |cons p r ih=>
    intro n
    cases n with
    |zero=>simp
    |succ n=>
     cases r with
     |nil=>simp
     |cons q r=>
      cases n with
      |zero=>simp
      |succ n=>
       have:=ih (n+1)
       rw[List.take_succ_cons] at this
       rw[List.take_succ_cons,List.take_succ_cons,kM,kM]
       omega
  exact key _ _
 have g4:0<=cs[i]*(pc a b (ws[i].take (j+1)):Int):=Int.mul_nonneg (by omega) (by omega)
 have g5:cs[i]*(pc a b (ws[i].take (j+1)):Int)<=cs[i]*(pc a b ws[i]:Int):=Int.mul_le_mul_of_nonneg_left (by omega) (by omega)
 exact⟨by omega,by omega⟩
theorem Fq:∀(l:List (List ByteArray)),∀w∈l,w.length<=rem l:=by
 intro l
 induction l with
 |nil=>simp
 |cons x l ih=>
  intro w hm
  rw[rem]
  rcases List.mem_cons.1 hm with rfl|hm
  ·omega
  ·have:=ih w hm;omega
end Go.Proofs.YtilpincgjlclpaaGreat.gJ
end
section
namespace Go.Proofs.YtilpincgjlclpaaGreat.Ob
open Go Go.RowKit Go.Shelf Bs Mp jL Hp
open Tm (It St lI jd bt qM top Ak)
section
variable {B b tb hb kb ix jA hpe n:Nat} {v0:Value} {w0 W W':World} {s:St} {kn H R:List It} {po:Nat} {x:It} {c:Bool} {T:Nat->Prop}
theorem oL.trans {D:Nat} {W1 W2 W3:World} (h:oL D W1 W2) (h':oL D W2 W3):oL D W1 W3:=⟨Nat.le_trans h.1 h'.1,h'.2.1.trans h.2.1,h'.2.2.trans h.2.2⟩
end
end Go.Proofs.YtilpincgjlclpaaGreat.Ob
end
