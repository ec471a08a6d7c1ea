import Derived.Test.YtilpincgjlclpaaGreatB2
import Derived.Test.YtilpincgjlclpaaGreatU0
set_option linter.unusedVariables false
set_option linter.unusedSimpArgs false
section
namespace Go.Proofs.ae.au
theorem oP.one {α:Type} {R:α->List Value->Prop} {ps:List α} {cs:List Value} {p:α} {v:Value} (hp:R p [v]) (h:oP R 1 ps cs):oP R 1 (p::ps) (v::cs):=by
 refine⟨by simp[h.1],fun j q hq=>?_⟩
 cases j with
 |zero=>
  simp only[List.getElem?_cons_zero,Option.some.injEq] at hq
  subst hq
  simpa using hp
 |succ j=>
  simp only[List.getElem?_cons_succ] at hq
  have h1:=h.2 j q hq
  simpa[Nat.mul_one] using h1
end Go.Proofs.ae.au
end
section
namespace Go.Proofs.ae.au
open Go.RowKit
namespace Kd
def V {α:Type} (d:Kd α) (_e:Nat) (W:World) (_base:Nat) (ok:Nat->Prop) (v:Value) (xs:List α):Prop:=∃A c,v= .slice A xs.length c/\xs.length<=c/\F d W ok A xs.length xs
end Kd
end Go.Proofs.ae.au
end
