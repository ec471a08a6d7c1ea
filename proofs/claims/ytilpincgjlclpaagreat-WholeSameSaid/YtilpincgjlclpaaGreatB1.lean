import Derived.Test.YtilpincgjlclpaaGreatB0
set_option linter.unusedVariables false
set_option linter.unusedSimpArgs false
section
namespace Go.Proofs.ae.au
open Go.RowKit
namespace Kd
structure Heap {α:Type} (d:Kd α):Prop where
 K:∀{w w1:World} {x:α} {cs:List Value},(∀k,k<w.heap.size->w1.heap[k]?=w.heap[k]?)->d.K w x cs->d.K w1 x cs
theorem aj {w w1:World} (hb:∀k,k<w.heap.size->w1.heap[k]?=w.heap[k]?) {a:Addr} {v:Value} (h:w.cell? a=some v):w1.cell? a=some v:=by
 have:=hb a.block (World.block_lt_of_cell? w a h)
 simpa[World.cell?,this] using h
theorem Heap.C {α:Type} {d:Kd α} (hd:Heap d) {w w1:World} {A:Option Addr} {n:Nat} {xs:List α} (hb:∀k,k<w.heap.size->w1.heap[k]?=w.heap[k]?) (h:d.C w A n xs):d.C w1 A n xs:=
 ⟨h.1,h.2.1,fun hn=>by
  obtain⟨ad,e,hc⟩:=h.2.2 hn
  refine⟨ad,e,fun j p hj=>?_⟩
  obtain⟨c,hs,hr,hcell⟩:=hc j p hj
  exact⟨c,hs,hd.K hb hr,fun i u hu=>aj hb (hcell i u hu)⟩⟩
end Kd
end Go.Proofs.ae.au
end
section
namespace Go.Proofs.ae.au
open Go.RowKit
def xQ (P:World->Prop) (W:World) (ok:Nat->Prop):Prop:=∀W':World,(∀k,ok k->k<W.heap.size->W'.heap[k]?=W.heap[k]?)->P W'
theorem heap_lt {W W1:World} {k:Nat} (h:W1.heap[k]?=W.heap[k]?) (hlt:k<W.heap.size):k<W1.heap.size:=by
 rw[Array.getElem?_eq_getElem hlt] at h
 exact(Array.getElem?_eq_some_iff.1 h).1
namespace xQ
variable {P Q:World->Prop} {W W1:World} {ok ok':Nat->Prop}
theorem step (h:xQ P W ok) (hm:∀k,ok k->k<W.heap.size->W1.heap[k]?=W.heap[k]?):xQ P W1 ok:=fun W' hW=>h W' (fun k hk hlt=>(hW k hk (heap_lt (hm k hk hlt) hlt)).trans (hm k hk hlt))
end xQ
namespace Kd
def F {α:Type} (d:Kd α) (W:World) (ok:Nat->Prop) (A:Option Addr) (n:Nat) (xs:List α):Prop:=xQ (fun W=>d.C W A n xs) W ok
end Kd
end Go.Proofs.ae.au
end
section
namespace Go.Proofs.ae.au
theorem oP.front {α:Type} {R:α->List Value->Prop} {size:Nat} {ps:List α} {cs c all:List Value} {p:α} (hp:R p c) (hc:c.length=size) (h:oP R size ps cs) (ha:c++cs=all):oP R size (p::ps) all:=by
 subst ha
 refine⟨by rw[List.length_append,hc,h.1,List.length_cons,Nat.succ_mul,Nat.add_comm],fun j q hq=>?_⟩
 cases j with
 |zero=>
  simp only[List.getElem?_cons_zero,Option.some.injEq] at hq
  subst hq
  rw[Nat.zero_mul,List.drop_zero,List.take_append_of_le_length (by omega),List.take_of_length_le (by omega)]
  exact hp
 |succ j=>
  simp only[List.getElem?_cons_succ] at hq
  have h1:=h.2 j q hq
  rw[Nat.succ_mul,List.drop_append,List.drop_of_length_le (by rw[hc];exact Nat.le_add_left _ _),List.nil_append,hc,Nat.add_sub_cancel]
  exact h1
theorem oP.c2 {α:Type} {R:α->List Value->Prop} {ps:List α} {cs:List Value} {p:α} {va vb:Value} (hp:R p [va,vb]) (h:oP R 2 ps cs):oP R 2 (p::ps) (va::vb::cs):=oP.front hp rfl h rfl
theorem oP.c3 {α:Type} {R:α->List Value->Prop} {ps:List α} {cs:List Value} {p:α} {va vb vc:Value} (hp:R p [va,vb,vc]) (h:oP R 3 ps cs):oP R 3 (p::ps) (va::vb::vc::cs):=oP.front hp rfl h rfl
theorem oP.c4 {α:Type} {R:α->List Value->Prop} {ps:List α} {cs:List Value} {p:α} {va vb vc vd:Value} (hp:R p [va,vb,vc,vd]) (h:oP R 4 ps cs):oP R 4 (p::ps) (va::vb::vc::vd::cs):=oP.front hp rfl h rfl
theorem oP.c5 {α:Type} {R:α->List Value->Prop} {ps:List α} {cs:List Value} {p:α} {va vb vc vd ve:Value} (hp:R p [va,vb,vc,vd,ve]) (h:oP R 5 ps cs):oP R 5 (p::ps) (va::vb::vc::vd::ve::cs):=oP.front hp rfl h rfl
theorem oP.c6 {α:Type} {R:α->List Value->Prop} {ps:List α} {cs:List Value} {p:α} {va vb vc vd ve vf:Value} (hp:R p [va,vb,vc,vd,ve,vf]) (h:oP R 6 ps cs):oP R 6 (p::ps) (va::vb::vc::vd::ve::vf::cs):=oP.front hp rfl h rfl
theorem oP.c7 {α:Type} {R:α->List Value->Prop} {ps:List α} {cs:List Value} {p:α} {va vb vc vd ve vf vg:Value} (hp:R p [va,vb,vc,vd,ve,vf,vg]) (h:oP R 7 ps cs):oP R 7 (p::ps) (va::vb::vc::vd::ve::vf::vg::cs):=oP.front hp rfl h rfl
theorem oP.c8 {α:Type} {R:α->List Value->Prop} {ps:List α} {cs:List Value} {p:α} {va vb vc vd ve vf vg vh:Value} (hp:R p [va,vb,vc,vd,ve,vf,vg,vh]) (h:oP R 8 ps cs):oP R 8 (p::ps) (va::vb::vc::vd::ve::vf::vg::vh::cs):=oP.front hp rfl h rfl
theorem oP.c9 {α:Type} {R:α->List Value->Prop} {ps:List α} {cs:List Value} {p:α} {va vb vc vd ve vf vg vh vi:Value} (hp:R p [va,vb,vc,vd,ve,vf,vg,vh,vi]) (h:oP R 9 ps cs):oP R 9 (p::ps) (va::vb::vc::vd::ve::vf::vg::vh::vi::cs):=oP.front hp rfl h rfl
theorem oP.c10 {α:Type} {R:α->List Value->Prop} {ps:List α} {cs:List Value} {p:α} {va vb vc vd ve vf vg vh vi vj:Value} (hp:R p [va,vb,vc,vd,ve,vf,vg,vh,vi,vj]) (h:oP R 10 ps cs):oP R 10 (p::ps) (va::vb::vc::vd::ve::vf::vg::vh::vi::vj::cs):=oP.front hp rfl h rfl
end Go.Proofs.ae.au
end
