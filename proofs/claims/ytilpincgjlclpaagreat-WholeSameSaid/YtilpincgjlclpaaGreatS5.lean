import Derived.ChangeArms
import Derived.ChangeShapes
import Derived.Deep.Slices
import Derived.KernelRfl
import Derived.Lib.SmallJoins
import Derived.Test.YtilpincgjlclpaaGreatProg
import Derived.WideShapes
import Derived.Test.YtilpincgjlclpaaGreatB10
import Derived.Test.YtilpincgjlclpaaGreatS1
set_option linter.unusedVariables false
set_option linter.unusedSimpArgs false
section
namespace Go.Proofs.YtilpincgjlclpaaGreat.Open
open Go.RowKit Go.Proofs.ae.au
open Go.ChangeShapes Go.WideShapes Go.Deep
section
variable {H:Type} {enc:TypeId×Value->H} {P:Program} {w:World} {t e:TypeId}
theorem VO {k:IntKind} (ht:P.underlying t=some (.int k)):BG enc P w t (Kd.int k) (fun n=>(Lit.int k n).wf=true):=
 ⟨fun _ _ _ h=>by
  obtain⟨n,rfl,_,hw⟩:=DataW.trod_int ht h
  exact⟨n,rfl,hw⟩⟩
end
end Go.Proofs.YtilpincgjlclpaaGreat.Open
end
section
namespace Go.Proofs.YtilpincgjlclpaaGreat.Pr
open Go.Joins Go.ChangeShapes Go.WideShapes
theorem array3 {α:Type} {cs:Array α} (h:cs.size=3):∃c0 c1 c2,cs=#[c0,c1,c2]:=by
 obtain⟨l⟩:=cs
 match l,h with
 |[c0,c1,c2],_=>exact⟨c0,c1,c2,rfl⟩
section
variable {H:Type} {enc:TypeId×Value->H} {P:Program} {w:World} {base:Nat} {spare:Nat->Bool} {held:Bool}
theorem trod_struct3' {t:TypeId} {f0 f1 f2:Field} {fuel:Nat} {cs:List Value} {x:DataW H×List MemPlace} (ht:P.underlying t=some (.struct #[f0,f1,f2])) (h:DataW.trod enc P w base spare held fuel t cs=some x):
  ∃y0 y1 y2 n,DataW.trod enc P w base spare held n f0.type ((cs.drop f0.offset).take (P.cellsOf f0.type))=some y0/\
   DataW.trod enc P w base spare held n f1.type ((cs.drop f1.offset).take (P.cellsOf f1.type))=some y1/\DataW.trod enc P w base spare held n f2.type ((cs.drop f2.offset).take (P.cellsOf f2.type))=some y2:=by
 obtain⟨xs,n,_,rfl,hl,hlen,hf⟩:=DataW.trod_struct ht h
 match xs,hlen with
 |[y0,y1,y2],_=>exact⟨y0,y1,y2,n,by simpa using hf 0 f0 rfl,by simpa using hf 1 f1 rfl,by simpa using hf 2 f2 rfl⟩
set_option maxRecDepth 100000 in
theorem tL {r:Reach} {b0:Nat} {v:Value} {d:DataW H} {p:List MemPlace} (hval:Value.okWide Tryz.prog w r b0 24 v) (h:DataW.Trod enc Tryz.prog w base spare held 24 v d p):
  ∃a0 a1 a2:Int,v= .agg #[.int .i64 a0,.int .i64 a1,.int .i64 a2]/\(Lit.int .i64 a0).wf=true/\(Lit.int .i64 a1).wf=true/\(Lit.int .i64 a2).wf=true:=by
 have c1:Tryz.prog.cellsOf 3=1:=by kernel_rfl
 obtain⟨cs,rfl,hsz⟩:=okWide_struct Tryz.underlying24 hval
 obtain⟨c0,c1',c2,rfl⟩:=array3 (hsz.trans (by kernel_rfl))
 obtain⟨fuel,hf⟩:=h
 obtain⟨y0,y1,y2,n,h0,h1,h2⟩:=trod_struct3' Tryz.underlying24 hf
 rw[c1] at h0
 obtain⟨a0,e0,_,w0⟩:=DataW.trod_int Tryz.underlying3 h0
 simp[Value.cells] at e0
 subst e0
 rw[c1] at h1
 obtain⟨a1,e1,_,w1⟩:=DataW.trod_int Tryz.underlying3 h1
 simp[Value.cells] at e1
 subst e1
 rw[c1] at h2
 obtain⟨a2,e2,_,w2⟩:=DataW.trod_int Tryz.underlying3 h2
 simp[Value.cells] at e2
 subst e2
 exact⟨a0,a1,a2,rfl,w0,w1,w2⟩
end
end Go.Proofs.YtilpincgjlclpaaGreat.Pr
end
