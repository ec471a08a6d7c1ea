/- gluepottop.WholeRight returns true for every input: the statement WholeRightSaid is proved (wholeRight_holds); no condition. The texts beside it hold what it rests on (put together by wip/packall.py). -/
import Derived.Below
import Derived.ChangeOld
import Derived.OpenShut
import Derived.ProofKit
import Derived.ShutString
import Derived.SizedLaws
import Derived.Test.YtilpincgjlclpaaGreatRows
import Derived.WalkKit
import Derived.Test.YtilpincgjlclpaaGreatR15
set_option linter.unusedVariables false
set_option linter.unusedSimpArgs false
section
namespace Go.Proofs.YtilpincgjlclpaaGreat.Pure
open Go Go.RowKit Pr
theorem WholeRight (l0:List dN) (a1 a2:Int) (x0:l0.length<=maxLen) (y0:∀x∈l0,x.f0.size<=maxLen/\(Lit.int .i64 x.f1).wf=true) (w1:(Lit.int .u8 a1).wf=true) (w2:(Lit.int .u8 a2).wf=true):Pr.iA.f l0 a1 a2=some true:=by
 have h:∀x∈l0,-9223372036854775808<=x.f1/\x.f1<=9223372036854775807:=by
  intro x hx
  have:=(y0 x hx).2
  simp[Lit.wf,IntKind.min,IntKind.max,IntKind.signed,IntKind.bits] at this
  omega
 have h1:0<=a1/\a1<256:=by
  simp[Lit.wf,IntKind.min,IntKind.max,IntKind.signed,IntKind.bits] at w1
  omega
 have h2:0<=a2/\a2<256:=by
  simp[Lit.wf,IntKind.min,IntKind.max,IntKind.signed,IntKind.bits] at w2
  omega
 unfold iA.f
 rw[if_pos ⟨x0,h,h1,h2⟩]
end Go.Proofs.YtilpincgjlclpaaGreat.Pure
end
section
namespace Go.Proofs.YtilpincgjlclpaaGreat.wholeRight
open Go.ChangeShapes Go.WideShapes Go.ChangeAt Go.RowKit Go.Proofs.YtilpincgjlclpaaGreat.Open
open Go.ChangeMaps (open_string shut_string)
theorem own:ownKnob Tryz.prog.godebug=none:=by kernel_rfl
theorem laidOut:laidOutB Tryz.prog=true:=by kernel_rfl
theorem walk (A0:Option Addr) (c0:Nat) (l0:List (Pr.dN)) (a1:Int) (a2:Int) (w:World) (hr0:Go.Proofs.ae.au.Kd.C Pr.lQ w A0 l0.length l0) (hc0:l0.length<=c0) (x0:l0.length<=maxLen) (y0:∀x∈l0,x.f0.size<=maxLen/\(Lit.int .i64 x.f1).wf=true) (w1:(Lit.int .u8 a1).wf=true) (w2:(Lit.int .u8 a2).wf=true):
  Calls Tryz.prog 4 #[.slice A0 l0.length c0,.int .u8 a1,.int .u8 a2] w fun e w'=>e= .returned (.bool true)/\Below w.heap.size w w':=by
 have h:=Pure.WholeRight l0 a1 a2 x0 y0 w1 w2
 refine(Pr.iA.calls A0 c0 l0 a1 a2 true w hr0 hc0 h).mono ?_
 rintro e w' ⟨rfl,hd⟩
 exact⟨rfl,hd⟩
set_option maxRecDepth 100000 in
theorem lifted (os:Os) (started:os.Started) (H:Type) (enc:TypeId×Value->H):
  ReturnsInHanded {} Tryz.checked os 4 .any (Rows.wholeRightSpec.pre6 enc Tryz.prog Tryz.f4 Rows.wholeRightRow.domain false) (Rows.wholeRightSpec.post enc Tryz.prog Tryz.f4 false true false false):=by
 refine returnsInHanded_of_change_sized (C:=Tryz.checked) own started (by kernel_rfl) Tryz.func4
  (ChangeSpec.witness6 (enc:=enc) (C:=Tryz.checked) false ⟨#[],#[.slice none 0 0,.int .u8 0,.int .u8 0],[]⟩ 8 (by kernel_rfl) (by kernel_rfl) (by kernel_rfl) (by kernel_rfl)) ?_
 intro W base args ds gs before hval0 hW hcnd hsz0 _
 have hval:∀(j:Nat) t v,Tryz.f4.params[j]?=some t->args[j]?=some v->Value.okWide Tryz.prog W .any base t v:=hval0
 have hW':=hW
 obtain⟨p,q,Vv,hV,rfl,hfz,hnd⟩:=hW
 have hA:DataW.TrodAll enc Tryz.prog W 0 (fun _=>true) true Tryz.f4.params.toList args.toList ds p:=Vv
 rw[Tryz.params4] at hA hval
 obtain⟨v0,vs0,d0,ds0,p0,q0,hargs,rfl,rfl,h0,r0⟩:=trodAll_cons hA
 obtain⟨v1,vs1,d1,ds1,p1,q1,rfl,rfl,rfl,h1,r1⟩:=trodAll_cons r0
 obtain⟨v2,vs2,d2,ds2,p2,q2,rfl,rfl,rfl,h2,r2⟩:=trodAll_cons r1
 obtain⟨rfl,rfl,rfl⟩:=trodAll_nil r2
 obtain rfl:args=#[v0,v1,v2]:=by cases args;simp_all
 obtain⟨rfl,rfl⟩:=trodVars_none hV
 have k0:=h0
 have lt0:∀x∈p0,x.block<W.heap.size:=by obtain⟨m,hm⟩:=k0;exact DataW.trod_lt m _ _ _ hm
 obtain⟨A0,c0,l0,rfl,hc0,hr0,x0,y0⟩:=nH Tryz.underlying22 (by kernel_rfl) (Pr.rJ) (hval 0 22 v0 rfl rfl) h0
 have k1:=h1
 have lt1:∀x∈p1,x.block<W.heap.size:=by obtain⟨m,hm⟩:=k1;exact DataW.trod_lt m _ _ _ hm
 obtain⟨a1,rfl,_,_,w1⟩:=open_int Tryz.underlying5 (hval 1 5 v1 rfl rfl) h1
 have k2:=h2
 have lt2:∀x∈p2,x.block<W.heap.size:=by obtain⟨m,hm⟩:=k2;exact DataW.trod_lt m _ _ _ hm
 obtain⟨a2,rfl,_,_,w2⟩:=open_int Tryz.underlying5 (hval 2 5 v2 rfl rfl) h2
 clear Vv hval0 hsz0
 refine(walk A0 c0 l0 a1 a2 W hr0 hc0 x0 y0 w1 w2).mono fun e W' ⟨he,oJ⟩=>?_
 subst he
 exact⟨_,rfl,_,_,_,[],_,[],hW',trodAll_mk1 (shut_bool Tryz.underlying4 _),(trodAll_cons_mk (Below.trod laidOut (by kernel_rfl) (of_decide_eq_true (by kernel_rfl)) k0 oJ lt0) (trodAll_cons_mk (Below.trod laidOut (by kernel_rfl) (of_decide_eq_true (by kernel_rfl)) k1 oJ lt1) (trodAll_cons_mk (Below.trod laidOut (by kernel_rfl) (of_decide_eq_true (by kernel_rfl)) k2 oJ lt2) trodAll_mk0))),rfl,oJ.frame _,fun h=>by cases h⟩
theorem over:Rows.wholeRightRow.holds Tryz.pinned (OpenSpec.ofChange Rows.wholeRightSpec):=
 OpenClaim.holds_of_wide 4 Tryz.f4 rfl rfl rfl rfl rfl rfl rfl ⟨rfl,rfl,rfl,rfl,rfl⟩ rfl rfl rfl rfl rfl (by kernel_rfl) Tryz.func4 (by kernel_rfl)
  (of_decide_eq_true (by kernel_rfl)) (by unfold Func.isWrapper;first|(rw[if_pos (by decide+kernel)];kernel_rfl)|(rw[if_neg (by decide+kernel)];exact⟨rfl,rfl⟩))
  (fun os started H enc _=>lifted os started H enc)
theorem proved:Rows.WholeRightSaid:=over
end Go.Proofs.YtilpincgjlclpaaGreat.wholeRight
namespace Go.Proofs.YtilpincgjlclpaaGreat
theorem wholeRight_holds:Rows.WholeRightSaid:=wholeRight.proved
#print axioms wholeRight_holds
end Go.Proofs.YtilpincgjlclpaaGreat
end
