import Derived.ArgAppend
import Derived.Below
import Derived.BigQuiet
import Derived.Deep.AppendLies
import Derived.Deep.CutBlock
import Derived.Deep.DeepCutAuto
import Derived.Deep.Draws
import Derived.Deep.LoopGhost
import Derived.Deep.OwnRows
import Derived.Deep.QuietTactic
import Derived.Deep.RegionHeld3
import Derived.KernelRfl
import Derived.Laws.BitsLemmas
import Derived.Laws.BytesArg
import Derived.Laws.IdiomCopy
import Derived.Laws.MakeOwn
import Derived.Laws.OwnMore
import Derived.Laws.Rows
import Derived.Laws.Slices
import Derived.Laws.StructEq
import Derived.Lib.AppendStr
import Derived.Lib.ConvBytes
import Derived.Maps.AppendAt
import Derived.OrdersHeld
import Derived.OwnWalk
import Derived.RowKit
import Derived.RowKit3
import Derived.Tactics
import Derived.Test.YtilpincgjlclpaaGreatProg
import Derived.WalkKit
import Derived.WideLaws
import Derived.Test.YtilpincgjlclpaaGreatB2
import Derived.Test.YtilpincgjlclpaaGreatD1
set_option linter.unusedVariables false
set_option linter.unusedSimpArgs false
section
namespace Go.Proofs.ae.au
open Go.RowKit
section
variable {P:Program} {d:Nat} {xs ys:Array Value} {f:Field} {fs:List Field} {a b:Value} {r s:Bool} {w:World}
theorem ry (hn:(f.name== "_")=false) (ha:(part f.type xs f.offset).run P w= .ok a w) (hb:(part f.type ys f.offset).run P w= .ok b w) (he:(Op.equalIn d f.type a b).run P w= .ok r w):(Op.eqFields d xs ys [f]).run P w= .ok r w:=by
 have hn':f.name≠ "_" :=by simpa using hn
 simp only[Op.eqFields,if_pos hn',Sem.run_bind,ha,hb,he,Result.andThen_ok]
 cases r<;>simp
theorem ru (hn:(f.name== "_")=false) (ha:(part f.type xs f.offset).run P w= .ok a w) (hb:(part f.type ys f.offset).run P w= .ok b w) (he:(Op.equalIn d f.type a b).run P w= .ok r w) (hr:(Op.eqFields d xs ys fs).run P w= .ok s w):(Op.eqFields d xs ys (f::fs)).run P w= .ok (r&&s) w:=by
 have hn':f.name≠ "_" :=by simpa using hn
 rw[Op.eqFields]
 simp only[if_pos hn',Sem.run_bind,ha,hb,he,Result.andThen_ok]
 cases r
 ·simp
 ·simpa using hr
theorem AQ {t:TypeId} {fs:Array Field} (hu:P.underlying t=some (.struct fs)) (hp:P.stoodInHeld t=false) (h:(Op.eqFields d xs ys fs.toList).run P w= .ok r w):(Op.equalIn (d+1) t (.agg xs) (.agg ys)).run P w= .ok r w:=by
 have hf:P.fieldsOf t=fs:=by simp[Program.fieldsOf,hu]
 rw[run_equalIn_struct (P:=P) w d t xs ys (by rw[hf];exact hu) hp,hf]
 exact h
end
end Go.Proofs.ae.au
end
section
namespace Go.Proofs.YtilpincgjlclpaaGreat.Pr
open Go.RowKit Go.Proofs.ae.au Go.Proofs.ae.aZ Go.Proofs.ae.bE
attribute [local go_sem] bQ min2_int cB min_two max_three min_three max_four min_four
theorem Ei:(Tryz.prog.info? 45).map (fun i=>(i.zero,i.size,i.bytes))=some (some (.agg #[(.string ⟨#[]⟩),(.int .i64 0)]),2,24):=by kernel_rfl
theorem zA (w:World) (base:Nat) (ok:Nat->Prop) (x:dN):lQ.M w base ok x [.string x.f0,.int .i64 x.f1]:=⟨[.string x.f0],[.int .i64 x.f1],rfl,rfl,rfl⟩
end Go.Proofs.YtilpincgjlclpaaGreat.Pr
end
