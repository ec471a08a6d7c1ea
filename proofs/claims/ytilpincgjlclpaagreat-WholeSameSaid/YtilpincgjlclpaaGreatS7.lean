import Derived.Laws.AppendOwnNone
import Derived.Lib.BufferRead
import Derived.Lib.ConvBytes
import Derived.Lib.SlBytesRow
import Derived.StillTailTactics
import Derived.Stop.Asserts
import Derived.Test.YtilpincgjlclpaaGreatB35
import Derived.Test.YtilpincgjlclpaaGreatS6
set_option linter.unusedVariables false
set_option linter.unusedSimpArgs false
section
namespace Go.Proofs.YtilpincgjlclpaaGreat.Src
open Go.RowKit Bs Go.Proofs.ae.au Go.Proofs.ae.aZ Go.Proofs.ae.bE
abbrev PlainAt (b:Nat) (s:ByteArray) (w:World):Prop:=w.heap[b]?=some (.cells #[.string s] 118 (0,0))
def plain (s:ByteArray):Option ByteArray:=if s=ByteArray.empty then none else some s
set_option maxHeartbeats 1000000 in
set_option maxRecDepth 100000 in
theorem plain_c (b:Nat) (s:ByteArray) (w:World) (h:PlainAt b s w):
  Calls Tryz.prog 258 #[.pointer (some ⟨b,0,none⟩)] w fun e w'=>Hands w e w' (plain s) 0/\PlainAt b ByteArray.empty w'/\Fr (fun k=>k=b) w w':=by
 have c0:w.cell? ⟨b,0,none⟩=some (.string s):=by rw[aj h];rfl
 have HH:=Lib.hid h
 have hcv:=fun W s=>Lib.run_convert_string_bytes (P:=Tryz.prog) W 9 129 5 s Tryz.underlying9 Tryz.underlying129 Tryz.underlying5
 have hfb:=yQ w 5 s
 have hnew:=Lib.bytesWorld_at_new w 5 s
 have hb1:=hfb.heap h (fun h=>h)
 have c1:(Lib.bytesWorld w 5 s).frozen? ⟨b,0,none⟩=false:=aX hb1 0
 have c2:(Lib.bytesWorld w 5 s).cell? ⟨b,0,none⟩=some (.string s):=by rw[aj hb1];rfl
 have HFB:=Lib.hid hfb
 have HN:=Lib.hid hnew
 have HB1:=Lib.hid hb1
 clear h hfb hnew hb1
 go_enter Tryz.func258,Tryz.ntmps258
 go_wp2_with fail
 ·rename_i he
  have:=Yp he
  subst this
  go_ret3
  exact⟨rfl,HH.out,Fr.refl _ _⟩
 ·rename_i he
  go_ret3
  have hne:s≠ByteArray.empty:=fun e=>by rw[e,ByteArray.toList_eq] at he;cases he
  refine⟨?_,?_,?_⟩
  ·rw[plain,if_neg hne]
   refine⟨_,rfl,?_⟩
   exact dI HN.out (p:=⟨b,0,none⟩) (by have:=Bs.bA HH.out;show w.heap.size≠b;omega) _
  ·have:=heap_set HB1.out 0 (.string ByteArray.empty)
   rw[show(#[Value.string s]).setIfInBounds 0 (.string ByteArray.empty)=#[.string ByteArray.empty] from rfl] at this
   exact this
  ·exact Fr.set (S:=fun k=>k=b) (HFB.out.mono (fun _ h=>h.elim)) (p:=⟨b,0,none⟩) (.inl rfl) _
end Go.Proofs.YtilpincgjlclpaaGreat.Src
namespace Go.Proofs.YtilpincgjlclpaaGreat.Src
open Go.RowKit Bs Go.Proofs.ae.au Go.Proofs.ae.aZ Go.Proofs.ae.bE
abbrev PP:Nat:=116
theorem mNextP (a:Addr) (w:World) (n:Nat) (hn:n=438):(method n PP (.pointer (some a)) "Next").run Tryz.prog w= .ok (258,.pointer (some a)) w:=by subst hn;kernel_rfl
theorem isPlain (v:Value) (xT:TypeId) (w:World):(Instr.typeAssert (.iface PP v) xT 170 true).run Tryz.prog w= .ok (.tuple #[.iface PP v,.bool true]) w:=run_typeAssert_hasB Tryz.underlying170 (by kernel_rfl) v xT w
end Go.Proofs.YtilpincgjlclpaaGreat.Src
end
section
namespace Go.Proofs.YtilpincgjlclpaaGreat.Aj
open Go.RowKit Bs Go.Proofs.ae.au
def plainS (b:Nat):SRC Src.PP (.pointer (some ⟨b,0,none⟩)) where
 fn:=258
 is:=fun xT w=>Src.isPlain _ xT w
 meth:=fun w=>Src.mNextP _ w _ rfl
 enter:=fun args W=>ME Tryz.func258 (by rfl) (by rfl) args W
 St:=fun r e M W=>e=0/\(∃s,Src.PlainAt b s W/\r=(Src.plain s).toList)/\∀k,M k↔k=b
 keep:=by
  rintro r e M W W' S ⟨he,⟨s,hs,hr⟩,hM⟩ hf hS
  exact⟨he,⟨s,hf.heap hs (hS _ ((hM _).2 rfl)),hr⟩,hM⟩
 lt:=by
  rintro r e M W ⟨he,⟨s,hs,hr⟩,hM⟩ k hk
  rw[(hM k).1 hk]
  exact Bs.bA hs
 more:=by
  rintro s r e M W ⟨he,⟨t,hs,hr⟩,hM⟩
  refine(Src.plain_c b t W hs).mono ?_
  rintro x W' ⟨hh,hp,hf⟩
  by_cases h0:t=ByteArray.empty
  ·rw[Src.plain,if_pos h0] at hr
   cases hr
  ·rw[Src.plain,if_neg h0] at hr hh
   injection hr with h1 h2
   subst h1 h2
   obtain⟨cp,rfl,hby,cs,hcs,_⟩:=hh.some
   exact⟨W.heap.size,cp,rfl,hby,Nat.le_refl _,Bs.bA hcs,⟨he,⟨_,hp,by rw[Src.plain,if_pos rfl];rfl⟩,hM⟩,hf.mono (fun k hk=>(hM k).2 hk)⟩
 last:=by
  rintro e M W ⟨he,⟨t,hs,hr⟩,hM⟩
  refine(Src.plain_c b t W hs).mono ?_
  rintro x W' ⟨hh,hp,hf⟩
  by_cases h0:t=ByteArray.empty
  ·rw[Src.plain,if_pos h0] at hh
   exact⟨by rw[he];exact hh,⟨he,⟨_,hp,by rw[Src.plain,if_pos rfl];rfl⟩,hM⟩,hf.mono (fun k hk=>(hM k).2 hk)⟩
  ·rw[Src.plain,if_neg h0] at hr
   cases hr
end Go.Proofs.YtilpincgjlclpaaGreat.Aj
namespace Go.Proofs.YtilpincgjlclpaaGreat.Aj
open Go.RowKit Bs Go.Proofs.ae.au
theorem plain_whole (s:ByteArray):Pure.fZ (Src.plain s).toList=s.data.toList:=by
 unfold Src.plain
 by_cases h:s=ByteArray.empty
 ·rw[if_pos h,h];rfl
 ·rw[if_neg h];simp[Pure.fZ]
end Go.Proofs.YtilpincgjlclpaaGreat.Aj
namespace Go.Proofs.YtilpincgjlclpaaGreat.Aj
open Go.RowKit Bs Go.Proofs.ae.au
theorem RD_words {lim:Int} {S:List UInt8} {err:Int} (h:(RD lim S err).1=0) (he:err=0):(RD lim S err).2=(Pure.jX [] S).map Pr.ym:=by
 unfold RD at h ⊢
 split
 ·rename_i h1;rw[if_pos h1] at h;cases h
 ·rename_i h1
  rw[if_neg h1] at h
  split
  ·first|rfl|rw[if_pos he]
  ·rename_i h2;rw[if_neg h2] at h;cases h
theorem Ou:∀(l:List ByteArray) (i:Nat),(Src.told (-1) i l).2=0/\Pure.fZ (Src.told (-1) i l).1=Pure.fZ l
 |[],i=>by rw[Src.told,if_neg (by omega)];exact⟨rfl,rfl⟩
 |s::r,i=>by
  obtain⟨h1,h2⟩:=Ou r (i+1)
  rw[Src.told,if_neg (by omega)]
  split
  ·rename_i h
   subst h
   exact⟨h1,by rw[h2];simp[Pure.fZ]⟩
  ·refine⟨h1,?_⟩
   simp only[Pure.fZ,List.flatMap_cons] at h2 ⊢
   rw[h2]
end Go.Proofs.YtilpincgjlclpaaGreat.Aj
end
