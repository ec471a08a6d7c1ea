import Derived.BigQuiet
import Derived.IntWalk
import Derived.Test.YtilpincgjlclpaaGreatB37
import Derived.Test.YtilpincgjlclpaaGreatS7
set_option linter.unusedVariables false
set_option linter.unusedSimpArgs false
section
namespace Go.Proofs.YtilpincgjlclpaaGreat.Ob
open Go Go.RowKit Bs Mp jL
open Pr (dN)
open uA (iJ oz)
theorem cntY_perm {X Y:List ByteArray} (h:X.Perm Y) (s:ByteArray):lN X s=lN Y s:=by
 induction h with
 |nil=>rfl
 |cons x _ ih=>rw[lN,lN,ih]
 |swap x y l=>rw[lN,lN,lN,lN];omega
 |trans _ _ h1 h2=>rw[h1,h2]
theorem Tb.fz_eq {Y Z:List ByteArray} {m n:List SM} (h:Tb Y m) (h2:Tb Z n) (hp:∀s,lN Y s=lN Z s):fz m=fz n:=by
 unfold fz
 have hk:(m.map Cs).Perm (n.map Cs):=by
  rw[List.perm_ext_iff_of_nodup h.kl.1 h2.kl.1]
  intro t
  rw[h.kl.2,h2.kl.2,<-vg,<-vg,hp]
 rw[mergeSort_of_perm hk]
 refine List.map_congr_left fun t ht=>?_
 rw[h.gt,h2.gt,hp]
theorem tabO_perm {Y Z:List ByteArray} (hp:Y.Perm Z) (hl:Y.length<=1000000) (hy:NE Y):Bq Y=Bq Z:=
 (Ur hl hy).2.fz_eq (Ur (by rw[<-hp.length_eq];exact hl) (fun z hz=>hy z (hp.mem_iff.2 hz))).2 (cntY_perm hp)
end Go.Proofs.YtilpincgjlclpaaGreat.Ob
end
section
namespace Go.Proofs.YtilpincgjlclpaaGreat.Ob
open Go Go.RowKit Go.Proofs.ae.au Pr Mp jL Hp
open gJ (iW nK jR madeOf vN rR iG)
open Tm (mg)
open uA (iJ jN jW rQ wi jB)
theorem vS (o:List J):(mg o).length=o.length:=by unfold mg;rw[List.length_map]
end Go.Proofs.YtilpincgjlclpaaGreat.Ob
end
