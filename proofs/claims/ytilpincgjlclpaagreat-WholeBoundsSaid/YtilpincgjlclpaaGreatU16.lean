/- gluepottop.WholeBounds returns true for every input: the statement WholeBoundsSaid is proved (wholeBounds_holds); no condition. The texts beside it hold what it rests on (put together by wip/packall.py). -/
import Derived.Below
import Derived.ChangeOld
import Derived.OpenShut
import Derived.ProofKit
import Derived.ShutString
import Derived.SizedLaws
import Derived.Test.YtilpincgjlclpaaGreatRows
import Derived.WalkKit
import Derived.Test.YtilpincgjlclpaaGreatU15
import Derived.Test.YtilpincgjlclpaaGreatU9
set_option linter.unusedVariables false
set_option linter.unusedSimpArgs false
section
namespace Go.Proofs.YtilpincgjlclpaaGreat.Pure
open Go Go.RowKit Pr
theorem WholeBounds (l0:List dN) (bz bD dA:Int) (x0:l0.length<=maxLen) (y0:∀x∈l0,x.f0.size<=maxLen/\(Lit.int .i64 x.f1).wf=true) (KW:(Lit.int .i64 bz).wf=true) (KX:(Lit.int .i64 bD).wf=true) (KY:(Lit.int .i64 dA).wf=true):Pr.gX.f l0 bz bD dA=some true:=by
 have h:∀x∈l0,-9223372036854775808<=x.f1/\x.f1<=9223372036854775807:=by
  intro x hx
  have:=(y0 x hx).2
  simp[Lit.wf,IntKind.min,IntKind.max,IntKind.signed,IntKind.bits] at this
  omega
 unfold gX.f
 rw[if_pos ⟨x0,h⟩]
end Go.Proofs.YtilpincgjlclpaaGreat.Pure
end
section
namespace Go.Proofs.YtilpincgjlclpaaGreat.wholeBounds
open Go.ChangeShapes Go.WideShapes Go.ChangeAt Go.RowKit Go.Proofs.YtilpincgjlclpaaGreat.Open
open Go.ChangeMaps (open_string shut_string)
theorem own:ownKnob Tryz.prog.godebug=none:=by kernel_rfl
theorem laidOut:laidOutB Tryz.prog=true:=by kernel_rfl
theorem walk (A0:Option Addr) (c0:Nat) (l0:List (Pr.dN)) (bz:Int) (bD:Int) (dA:Int) (w:World) (hr0:Go.Proofs.ae.au.Kd.C Pr.lQ w A0 l0.length l0) (hc0:l0.length<=c0) (x0:l0.length<=maxLen) (y0:∀x∈l0,x.f0.size<=maxLen/\(Lit.int .i64 x.f1).wf=true) (KW:(Lit.int .i64 bz).wf=true) (KX:(Lit.int .i64 bD).wf=true) (KY:(Lit.int .i64 dA).wf=true):
  Calls Tryz.prog 6 #[.slice A0 l0.length c0,.agg #[.int .i64 bz,.int .i64 bD,.int .i64 dA]] w fun e w'=>e= .returned (.bool true)/\Below w.heap.size w w':=by
 have h:=Pure.WholeBounds l0 bz bD dA x0 y0 KW KX KY
 refine(Pr.gX.calls A0 c0 l0 bz bD dA true w hr0 hc0 h).mono ?_
 rintro e w' ⟨rfl,hd⟩
 exact⟨rfl,hd⟩
set_option maxRecDepth 100000 in
theorem lifted (os:Os) (started:os.Started) (H:Type) (enc:TypeId×Value->H):
  ReturnsInHanded {} Tryz.checked os 6 .any (Rows.wholeBoundsSpec.pre6 enc Tryz.prog Tryz.f6 Rows.wholeBoundsRow.domain false) (Rows.wholeBoundsSpec.post enc Tryz.prog Tryz.f6 false true false false):=by
 refine returnsInHanded_of_change_sized (C:=Tryz.checked) own started (by kernel_rfl) Tryz.func6
  (ChangeSpec.witness6 (enc:=enc) (C:=Tryz.checked) false ⟨#[],#[.slice none 0 0,.agg #[.int .i64 0,.int .i64 0,.int .i64 0]],[]⟩ 8 (by kernel_rfl) (by kernel_rfl) (by kernel_rfl) (by kernel_rfl)) ?_
 intro W base args ds gs before hval0 hW hcnd hsz0 _
 have hval:∀(j:Nat) t v,Tryz.f6.params[j]?=some t->args[j]?=some v->Value.okWide Tryz.prog W .any base t v:=hval0
 have hW':=hW
 obtain⟨p,q,Vv,hV,rfl,hfz,hnd⟩:=hW
 have hA:DataW.TrodAll enc Tryz.prog W 0 (fun _=>true) true Tryz.f6.params.toList args.toList ds p:=Vv
 rw[Tryz.params6] at hA hval
 obtain⟨v0,vs0,d0,ds0,p0,q0,hargs,rfl,rfl,h0,r0⟩:=trodAll_cons hA
 obtain⟨v1,vs1,d1,ds1,p1,q1,rfl,rfl,rfl,h1,r1⟩:=trodAll_cons r0
 obtain⟨rfl,rfl,rfl⟩:=trodAll_nil r1
 obtain rfl:args=#[v0,v1]:=by cases args;simp_all
 obtain⟨rfl,rfl⟩:=trodVars_none hV
 have k0:=h0
 have lt0:∀x∈p0,x.block<W.heap.size:=by obtain⟨m,hm⟩:=k0;exact DataW.trod_lt m _ _ _ hm
 obtain⟨A0,c0,l0,rfl,hc0,hr0,x0,y0⟩:=nH Tryz.underlying22 (by kernel_rfl) (Pr.rJ) (hval 0 22 v0 rfl rfl) h0
 have k1:=h1
 have lt1:∀x∈p1,x.block<W.heap.size:=by obtain⟨m,hm⟩:=k1;exact DataW.trod_lt m _ _ _ hm
 obtain⟨bz,bD,dA,rfl,KW,KX,KY⟩:=Pr.tL (hval 1 24 v1 rfl rfl) h1
 clear Vv hval0 hsz0
 refine(walk A0 c0 l0 bz bD dA W hr0 hc0 x0 y0 KW KX KY).mono fun e W' ⟨he,oJ⟩=>?_
 subst he
 exact⟨_,rfl,_,_,_,[],_,[],hW',trodAll_mk1 (shut_bool Tryz.underlying4 _),(trodAll_cons_mk (Below.trod laidOut (by kernel_rfl) (of_decide_eq_true (by kernel_rfl)) k0 oJ lt0) (trodAll_cons_mk (Below.trod laidOut (by kernel_rfl) (of_decide_eq_true (by kernel_rfl)) k1 oJ lt1) trodAll_mk0)),rfl,oJ.frame _,fun h=>by cases h⟩
theorem over:Rows.wholeBoundsRow.holds Tryz.pinned (OpenSpec.ofChange Rows.wholeBoundsSpec):=
 OpenClaim.holds_of_wide 6 Tryz.f6 rfl rfl rfl rfl rfl rfl rfl ⟨rfl,rfl,rfl,rfl,rfl⟩ rfl rfl rfl rfl rfl (by kernel_rfl) Tryz.func6 (by kernel_rfl)
  (of_decide_eq_true (by kernel_rfl)) (by unfold Func.isWrapper;first|(rw[if_pos (by decide+kernel)];kernel_rfl)|(rw[if_neg (by decide+kernel)];exact⟨rfl,rfl⟩))
  (fun os started H enc _=>lifted os started H enc)
theorem proved:Rows.WholeBoundsSaid:=over
end Go.Proofs.YtilpincgjlclpaaGreat.wholeBounds
namespace Go.Proofs.YtilpincgjlclpaaGreat
theorem wholeBounds_holds:Rows.WholeBoundsSaid:=wholeBounds.proved
#print axioms wholeBounds_holds
end Go.Proofs.YtilpincgjlclpaaGreat
end
