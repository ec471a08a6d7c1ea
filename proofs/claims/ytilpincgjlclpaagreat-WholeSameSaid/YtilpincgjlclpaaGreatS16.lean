/- gluepottop.WholeSame returns true for every input: the statement WholeSameSaid is proved (wholeSame_holds); no condition. The texts beside it hold what it rests on (put together by wip/packall.py). -/
import Derived.Below
import Derived.ChangeOld
import Derived.ChangeShapes
import Derived.KernelRfl
import Derived.Lib.SmallJoins
import Derived.OpenShut
import Derived.ProofKit
import Derived.ShutString
import Derived.SizedLaws
import Derived.Test.YtilpincgjlclpaaGreatProg
import Derived.Test.YtilpincgjlclpaaGreatRows
import Derived.WalkKit
import Derived.WideShapes
import Derived.Test.YtilpincgjlclpaaGreatS15
import Derived.Test.YtilpincgjlclpaaGreatS5
set_option linter.unusedVariables false
set_option linter.unusedSimpArgs false
section
namespace Go.Proofs.YtilpincgjlclpaaGreat.Pure
open Go Go.RowKit Pr
theorem u16_in {l:List Int} (y:∀x∈l,(Lit.int .u16 x).wf=true):∀x∈l,0<=x/\x<65536:=by
 intro x hx
 have:=y x hx
 simp[Lit.wf,IntKind.min,IntKind.max,IntKind.signed,IntKind.bits] at this
 omega
theorem WholeSame (a0:ByteArray) (l1 l2:List Int) (a3_0 a3_1 a3_2:Int) (w0:a0.size<=maxLen) (x1:l1.length<=maxLen) (y1:∀x∈l1,(Lit.int .u16 x).wf=true) (x2:l2.length<=maxLen) (y2:∀x∈l2,(Lit.int .u16 x).wf=true) (w3_0:(Lit.int .i64 a3_0).wf=true) (w3_1:(Lit.int .i64 a3_1).wf=true) (w3_2:(Lit.int .i64 a3_2).wf=true):Pr.gluepottop_WholeSame.f a0 l1 l2 a3_0 a3_1 a3_2=some true:=by
 unfold gluepottop_WholeSame.f
 rw[if_pos ⟨w0,u16_in y1,u16_in y2⟩]
end Go.Proofs.YtilpincgjlclpaaGreat.Pure
end
section
namespace Go.Proofs.YtilpincgjlclpaaGreat.wholeSame
open Go.ChangeShapes Go.WideShapes Go.ChangeAt Go.RowKit Go.Proofs.YtilpincgjlclpaaGreat.Open
open Go.ChangeMaps (open_string shut_string)
theorem own:ownKnob Tryz.prog.godebug=none:=by kernel_rfl
theorem laidOut:laidOutB Tryz.prog=true:=by kernel_rfl
theorem walk (a0:ByteArray) (A1:Option Addr) (c1:Nat) (l1:List (Int)) (A2:Option Addr) (c2:Nat) (l2:List (Int)) (a3_0:Int) (a3_1:Int) (a3_2:Int) (w:World) (w0:a0.size<=maxLen) (hr1:Go.Proofs.ae.au.Kd.C (Go.Proofs.ae.au.Kd.int .u16) w A1 l1.length l1) (hc1:l1.length<=c1) (x1:l1.length<=maxLen) (y1:∀x∈l1,(Lit.int .u16 x).wf=true) (hr2:Go.Proofs.ae.au.Kd.C (Go.Proofs.ae.au.Kd.int .u16) w A2 l2.length l2) (hc2:l2.length<=c2) (x2:l2.length<=maxLen) (y2:∀x∈l2,(Lit.int .u16 x).wf=true) (w3_0:(Lit.int .i64 a3_0).wf=true) (w3_1:(Lit.int .i64 a3_1).wf=true) (w3_2:(Lit.int .i64 a3_2).wf=true):
  Calls Tryz.prog 7 #[.string a0,.slice A1 l1.length c1,.slice A2 l2.length c2,.agg #[.int .i64 a3_0,.int .i64 a3_1,.int .i64 a3_2]] w fun e w'=>e= .returned (.bool true)/\Below w.heap.size w w':=by
 have h:=Pure.WholeSame a0 l1 l2 a3_0 a3_1 a3_2 w0 x1 y1 x2 y2 w3_0 w3_1 w3_2
 refine(Pr.gluepottop_WholeSame.calls a0 A1 c1 l1 A2 c2 l2 a3_0 a3_1 a3_2 true w hr1 hc1 hr2 hc2 h).mono ?_
 rintro e w' ⟨rfl,hd⟩
 exact⟨rfl,hd⟩
set_option maxRecDepth 100000 in
theorem lifted (os:Os) (started:os.Started) (H:Type) (enc:TypeId×Value->H):
  ReturnsInHanded {} Tryz.checked os 7 .any (Rows.wholeSameSpec.pre6 enc Tryz.prog Tryz.f7 Rows.wholeSameRow.domain false) (Rows.wholeSameSpec.post enc Tryz.prog Tryz.f7 false true false false):=by
 refine returnsInHanded_of_change_sized (C:=Tryz.checked) own started (by kernel_rfl) Tryz.func7
  (ChangeSpec.witness6 (enc:=enc) (C:=Tryz.checked) false ⟨#[],#[.string ByteArray.empty,.slice none 0 0,.slice none 0 0,.agg #[.int .i64 0,.int .i64 0,.int .i64 0]],[]⟩ 8 (by kernel_rfl) (by kernel_rfl) (by kernel_rfl) (by kernel_rfl)) ?_
 intro W base args ds gs before hval0 hW hcnd hsz0 _
 have hval:∀(j:Nat) t v,Tryz.f7.params[j]?=some t->args[j]?=some v->Value.okWide Tryz.prog W .any base t v:=hval0
 have hW':=hW
 obtain⟨p,q,Vv,hV,rfl,hfz,hnd⟩:=hW
 have hA:DataW.TrodAll enc Tryz.prog W 0 (fun _=>true) true Tryz.f7.params.toList args.toList ds p:=Vv
 rw[Tryz.params7] at hA hval
 obtain⟨v0,vs0,d0,ds0,p0,q0,hargs,rfl,rfl,h0,r0⟩:=trodAll_cons hA
 obtain⟨v1,vs1,d1,ds1,p1,q1,rfl,rfl,rfl,h1,r1⟩:=trodAll_cons r0
 obtain⟨v2,vs2,d2,ds2,p2,q2,rfl,rfl,rfl,h2,r2⟩:=trodAll_cons r1
 obtain⟨v3,vs3,d3,ds3,p3,q3,rfl,rfl,rfl,h3,r3⟩:=trodAll_cons r2
 obtain⟨rfl,rfl,rfl⟩:=trodAll_nil r3
 obtain rfl:args=#[v0,v1,v2,v3]:=by cases args;simp_all
 obtain⟨rfl,rfl⟩:=trodVars_none hV
 have k0:=h0
 have lt0:∀x∈p0,x.block<W.heap.size:=by obtain⟨m,hm⟩:=k0;exact DataW.trod_lt m _ _ _ hm
 obtain⟨a0,rfl,_,_,w0⟩:=open_string Tryz.underlying9 (hval 0 9 v0 rfl rfl) h0
 have k1:=h1
 have lt1:∀x∈p1,x.block<W.heap.size:=by obtain⟨m,hm⟩:=k1;exact DataW.trod_lt m _ _ _ hm
 obtain⟨A1,c1,l1,rfl,hc1,hr1,x1,y1⟩:=nH Tryz.underlying53 (by kernel_rfl) (VO Tryz.underlying72) (hval 1 53 v1 rfl rfl) h1
 have k2:=h2
 have lt2:∀x∈p2,x.block<W.heap.size:=by obtain⟨m,hm⟩:=k2;exact DataW.trod_lt m _ _ _ hm
 obtain⟨A2,c2,l2,rfl,hc2,hr2,x2,y2⟩:=nH Tryz.underlying53 (by kernel_rfl) (VO Tryz.underlying72) (hval 2 53 v2 rfl rfl) h2
 have k3:=h3
 have lt3:∀x∈p3,x.block<W.heap.size:=by obtain⟨m,hm⟩:=k3;exact DataW.trod_lt m _ _ _ hm
 obtain⟨a3_0,a3_1,a3_2,rfl,w3_0,w3_1,w3_2⟩:=Pr.tL (hval 3 24 v3 rfl rfl) h3
 clear Vv hval0 hsz0
 refine(walk a0 A1 c1 l1 A2 c2 l2 a3_0 a3_1 a3_2 W w0 hr1 hc1 x1 y1 hr2 hc2 x2 y2 w3_0 w3_1 w3_2).mono fun e W' ⟨he,oJ⟩=>?_
 subst he
 exact⟨_,rfl,_,_,_,[],_,[],hW',trodAll_mk1 (shut_bool Tryz.underlying4 _),(trodAll_cons_mk (Below.trod laidOut (by kernel_rfl) (of_decide_eq_true (by kernel_rfl)) k0 oJ lt0) (trodAll_cons_mk (Below.trod laidOut (by kernel_rfl) (of_decide_eq_true (by kernel_rfl)) k1 oJ lt1) (trodAll_cons_mk (Below.trod laidOut (by kernel_rfl) (of_decide_eq_true (by kernel_rfl)) k2 oJ lt2) (trodAll_cons_mk (Below.trod laidOut (by kernel_rfl) (of_decide_eq_true (by kernel_rfl)) k3 oJ lt3) trodAll_mk0)))),rfl,oJ.frame _,fun h=>by cases h⟩
theorem over:Rows.wholeSameRow.holds Tryz.pinned (OpenSpec.ofChange Rows.wholeSameSpec):=
 OpenClaim.holds_of_wide 7 Tryz.f7 rfl rfl rfl rfl rfl rfl rfl ⟨rfl,rfl,rfl,rfl,rfl⟩ rfl rfl rfl rfl rfl (by kernel_rfl) Tryz.func7 (by kernel_rfl)
  (of_decide_eq_true (by kernel_rfl)) (by unfold Func.isWrapper;first|(rw[if_pos (by decide+kernel)];kernel_rfl)|(rw[if_neg (by decide+kernel)];exact⟨rfl,rfl⟩))
  (fun os started H enc _=>lifted os started H enc)
theorem proved:Rows.WholeSameSaid:=over
end Go.Proofs.YtilpincgjlclpaaGreat.wholeSame
namespace Go.Proofs.YtilpincgjlclpaaGreat
theorem wholeSame_holds:Rows.WholeSameSaid:=wholeSame.proved
#print axioms wholeSame_holds
end Go.Proofs.YtilpincgjlclpaaGreat
end
