/- gluepottop.WholeReads returns true for every input: the statement WholeReadsSaid is proved (wholeReads_holds); no condition. The texts beside it hold what it rests on (put together by wip/packall.py). -/
import Derived.Below
import Derived.ChangeOld
import Derived.OpenShut
import Derived.ProofKit
import Derived.ShutString
import Derived.SizedLaws
import Derived.Test.YtilpincgjlclpaaGreatRows
import Derived.WalkKit
import Derived.Test.YtilpincgjlclpaaGreatD15
set_option linter.unusedVariables false
set_option linter.unusedSimpArgs false
section
namespace Go.Proofs.YtilpincgjlclpaaGreat.Pure
open Go Go.RowKit Pr
theorem WholeReads (a0:ByteArray) (l1:List Int) (w0:a0.size<=maxLen) (x1:l1.length<=maxLen) (y1:∀x∈l1,(Lit.int .u16 x).wf=true):Pr.iy.f a0 l1=some true:=by
 have h:∀x∈l1,0<=x/\x<65536:=by
  intro x hx
  have:=y1 x hx
  simp[Lit.wf,IntKind.min,IntKind.max,IntKind.signed,IntKind.bits] at this
  omega
 unfold iy.f
 rw[if_pos ⟨w0,h⟩]
end Go.Proofs.YtilpincgjlclpaaGreat.Pure
end
section
namespace Go.Proofs.YtilpincgjlclpaaGreat.wholeReads
open Go.ChangeShapes Go.WideShapes Go.ChangeAt Go.RowKit Go.Proofs.YtilpincgjlclpaaGreat.Open
open Go.ChangeMaps (open_string shut_string)
theorem own:ownKnob Tryz.prog.godebug=none:=by kernel_rfl
theorem laidOut:laidOutB Tryz.prog=true:=by kernel_rfl
theorem walk (a0:ByteArray) (A1:Option Addr) (c1:Nat) (l1:List (Int)) (w:World) (w0:a0.size<=maxLen) (hr1:Go.Proofs.ae.au.Kd.C (Go.Proofs.ae.au.Kd.int .u16) w A1 l1.length l1) (hc1:l1.length<=c1) (x1:l1.length<=maxLen) (y1:∀x∈l1,(Lit.int .u16 x).wf=true):
  Calls Tryz.prog 5 #[.string a0,.slice A1 l1.length c1] w fun e w'=>e= .returned (.bool true)/\Below w.heap.size w w':=by
 have h:=Pure.WholeReads a0 l1 w0 x1 y1
 refine(Pr.iy.calls a0 A1 c1 l1 true w hr1 hc1 h).mono ?_
 rintro e w' ⟨rfl,hd⟩
 exact⟨rfl,hd⟩
set_option maxRecDepth 100000 in
theorem lifted (os:Os) (started:os.Started) (H:Type) (enc:TypeId×Value->H):
  ReturnsInHanded {} Tryz.checked os 5 .any (Rows.wholeReadsSpec.pre6 enc Tryz.prog Tryz.f5 Rows.wholeReadsRow.domain false) (Rows.wholeReadsSpec.post enc Tryz.prog Tryz.f5 false true false false):=by
 refine returnsInHanded_of_change_sized (C:=Tryz.checked) own started (by kernel_rfl) Tryz.func5
  (ChangeSpec.witness6 (enc:=enc) (C:=Tryz.checked) false ⟨#[],#[.string ByteArray.empty,.slice none 0 0],[]⟩ 8 (by kernel_rfl) (by kernel_rfl) (by kernel_rfl) (by kernel_rfl)) ?_
 intro W base args ds gs before hval0 hW hcnd hsz0 _
 have hval:∀(j:Nat) t v,Tryz.f5.params[j]?=some t->args[j]?=some v->Value.okWide Tryz.prog W .any base t v:=hval0
 have hW':=hW
 obtain⟨p,q,Vv,hV,rfl,hfz,hnd⟩:=hW
 have hA:DataW.TrodAll enc Tryz.prog W 0 (fun _=>true) true Tryz.f5.params.toList args.toList ds p:=Vv
 rw[Tryz.params5] at hA hval
 obtain⟨v0,vs0,d0,ds0,p0,q0,hargs,rfl,rfl,h0,r0⟩:=trodAll_cons hA
 obtain⟨v1,vs1,d1,ds1,p1,q1,rfl,rfl,rfl,h1,r1⟩:=trodAll_cons r0
 obtain⟨rfl,rfl,rfl⟩:=trodAll_nil r1
 obtain rfl:args=#[v0,v1]:=by cases args;simp_all
 obtain⟨rfl,rfl⟩:=trodVars_none hV
 have k0:=h0
 have lt0:∀x∈p0,x.block<W.heap.size:=by obtain⟨m,hm⟩:=k0;exact DataW.trod_lt m _ _ _ hm
 obtain⟨a0,rfl,_,_,w0⟩:=open_string Tryz.underlying9 (hval 0 9 v0 rfl rfl) h0
 have k1:=h1
 have lt1:∀x∈p1,x.block<W.heap.size:=by obtain⟨m,hm⟩:=k1;exact DataW.trod_lt m _ _ _ hm
 obtain⟨A1,c1,l1,rfl,hc1,hr1,x1,y1⟩:=nH Tryz.underlying53 (by kernel_rfl) (VO Tryz.underlying72) (hval 1 53 v1 rfl rfl) h1
 clear Vv hval0 hsz0
 refine(walk a0 A1 c1 l1 W w0 hr1 hc1 x1 y1).mono fun e W' ⟨he,oJ⟩=>?_
 subst he
 exact⟨_,rfl,_,_,_,[],_,[],hW',trodAll_mk1 (shut_bool Tryz.underlying4 _),(trodAll_cons_mk (Below.trod laidOut (by kernel_rfl) (of_decide_eq_true (by kernel_rfl)) k0 oJ lt0) (trodAll_cons_mk (Below.trod laidOut (by kernel_rfl) (of_decide_eq_true (by kernel_rfl)) k1 oJ lt1) trodAll_mk0)),rfl,oJ.frame _,fun h=>by cases h⟩
theorem over:Rows.wholeReadsRow.holds Tryz.pinned (OpenSpec.ofChange Rows.wholeReadsSpec):=
 OpenClaim.holds_of_wide 5 Tryz.f5 rfl rfl rfl rfl rfl rfl rfl ⟨rfl,rfl,rfl,rfl,rfl⟩ rfl rfl rfl rfl rfl (by kernel_rfl) Tryz.func5 (by kernel_rfl)
  (of_decide_eq_true (by kernel_rfl)) (by unfold Func.isWrapper;first|(rw[if_pos (by decide+kernel)];kernel_rfl)|(rw[if_neg (by decide+kernel)];exact⟨rfl,rfl⟩))
  (fun os started H enc _=>lifted os started H enc)
theorem proved:Rows.WholeReadsSaid:=over
end Go.Proofs.YtilpincgjlclpaaGreat.wholeReads
namespace Go.Proofs.YtilpincgjlclpaaGreat
theorem wholeReads_holds:Rows.WholeReadsSaid:=wholeReads.proved
#print axioms wholeReads_holds
end Go.Proofs.YtilpincgjlclpaaGreat
end
