import Derived.Test.YtilpincgjlclpaaGreatS4
import Derived.Test.YtilpincgjlclpaaGreatS9
set_option linter.unusedVariables false
set_option linter.unusedSimpArgs false
section
namespace Go.Proofs.YtilpincgjlclpaaGreat.Ob
open Go Go.RowKit Go.Proofs.ae.au Pr
open Go.Proofs.YtilpincgjlclpaaGreat.Pure (fZ II sF)
theorem FQ (a:ByteArray) (P:List ByteArray) (pos z:Nat) (hz:pos<=z) (h:fZ P=a.data.toList.take pos):fZ (P++[a.extract pos z])=a.data.toList.take z:=by
 rw[II,h,show fZ [a.extract pos z]=(a.extract pos z).data.toList by simp[fZ],sF]
 rw[show a.data.toList.take z=a.data.toList.take (pos+(z-pos)) by rw[show pos+(z-pos)=z by omega],List.take_add]
theorem IL (y:Int) (h0:0<=y) (h1:y<=1000000):wrap64 y=y:=by unfold wrap64;omega
end Go.Proofs.YtilpincgjlclpaaGreat.Ob
end
section
namespace Go.Proofs.YtilpincgjlclpaaGreat.Ob
open Go Go.RowKit Go.Proofs.ae.au Bs Mp jL Pr
open Tm (mg)
open uA (iJ oz wi jB jN iR ql)
def ko (l:List dN):Nat:=((gB l).map List.length).sum
def mS (x:ByteArray×ByteArray):eu:=⟨x.1,x.2⟩
theorem vR {w:World} {B:Nat} {A:Option Addr} {n c:Nat} {T:List (ByteArray×ByteArray)} (h:w.ownsRow B Cz 2 (.slice A n c) T.length (T.flatMap mW)) (hl:T.length<=1000000):n=T.length/\T.length<=c/\Kd.C qj w A (T.map mS).length (T.map mS):=by
 rcases h.2 with⟨e,h0⟩|⟨g,cap,cur,e,hg,hb,hc,hm,hs,ht⟩
 ·cases e
  have:T=[]:=List.eq_nil_of_length_eq_zero h0
  subst this
  exact⟨rfl,Nat.le_refl _,⟨rfl,by simp,fun h=>by simp at h⟩⟩
 ·cases e
  refine⟨rfl,hc,⟨rfl,by rw[List.length_map];omega,fun hp=>⟨_,rfl,fun j p hj=>?_⟩⟩⟩
  rw[List.getElem?_map] at hj
  obtain⟨x,hx,rfl⟩:=Option.map_eq_some_iff.1 hj
  obtain⟨g',e',_,_,_,hcell,_⟩:=gz h (by rw[List.length_map] at hp;exact hp)
  cases e'
  obtain⟨h1,h2⟩:=yY hx
  have a0:=hcell _ _ h1
  have a1:=hcell _ _ h2
  refine⟨_,rfl,Ep w (mS x),fun i u hi=>?_⟩
  have hadd:∀k:Nat,(⟨g,0,none⟩:Addr).add k=⟨g,k,none⟩:=fun k=>by unfold Addr.add;split<;>simp_all
  match i,hi with
  |0,hi=>
   simp at hi
   subst hi
   rw[hadd]
   exact a0
  |1,hi=>
   simp at hi
   subst hi
   rw[hadd]
   exact a1
open Classical in
noncomputable def aay (l:List dN) (bu mn li:Int):ByteArray:=if ic l bu mn li=0 then zJ l bu mn else⟨#[]⟩
open Classical in
noncomputable def jk (l:List dN) (bu mn li:Int):List eu:=if ic l bu mn li=0 then mg (kU l bu mn) else[]
theorem lX {l:List dN} {bu mn li:Int} (hf:iJ l) (hs:ko l<=6000):(jk l bu mn li).length<=100000:=by
 unfold jk
 split
 ·rename_i h
  rw[vS]
  exact(lnt hf hs h).len
 ·simp
theorem qH (l:List dN) (bu mn:Int):(rM l bu mn).map mS=mg (kU l bu mn):=by
 unfold rM
 rw[tJ,List.map_map]
 conv=>rhs;rw[<-List.map_id (mg (kU l bu mn))]
 rfl
theorem NB {w:World}:Kd.C qj w none 0 []:=⟨rfl,by simp,fun h=>by simp at h⟩
theorem tab_m {w:World} {A:Option Addr} {c0:Nat} {l:List dN} (hC:Kd.C lQ w A l.length l) (hc0:l.length<=c0) (hf:iJ l) (hs:ko l<=6000) (bu mn li:Int):
  Calls Tryz.prog 10 #[.slice A l.length c0,Gs bu mn li] w fun e w'=>Below w.heap.size w w'/\∃Am cm s6 n,e= .returned (uz (aay l bu mn li) (.slice Am (jk l bu mn li).length cm) s6 n (ic l bu mn li))/\(jk l bu mn li).length<=cm/\Kd.C qj w' Am (jk l bu mn li).length (jk l bu mn li):=by
 refine(tab_c hC hc0 hf hs bu mn li).mono ?_
 rintro e w' ⟨hB,Av,lv,cv,rfl,ho⟩
 refine⟨hB,?_⟩
 have yE:=lX (bu:=bu) (mn:=mn) (li:=li) hf hs
 unfold FD
 unfold aay jk at *
 by_cases h:ic l bu mn li=0
 ·rw[if_pos h] at yE
  rw[if_pos h,if_pos h,if_pos h]
  have ho2:=ho h
  have hol:(rM l bu mn).length=(mg (kU l bu mn)).length:=by rw[<-qH,List.length_map]
  obtain⟨h1,h2,h3⟩:=vR ho2 (by omega)
  rw[qH] at h3
  rw[h1,hol] at *
  refine⟨Av,cv,_,_,by rw[h],h2,h3⟩
 ·rw[if_neg h,if_neg h,if_neg h]
  exact⟨none,0,_,_,rfl,Nat.le_refl _,NB⟩
end Go.Proofs.YtilpincgjlclpaaGreat.Ob
end
