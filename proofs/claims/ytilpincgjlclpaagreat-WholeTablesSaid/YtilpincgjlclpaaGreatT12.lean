import Derived.BigQuiet
import Derived.IntWalk
import Derived.Test.YtilpincgjlclpaaGreatB31
import Derived.Test.YtilpincgjlclpaaGreatT11
import Derived.Test.YtilpincgjlclpaaGreatT6
set_option linter.unusedVariables false
set_option linter.unusedSimpArgs false
section
namespace Go.Proofs.YtilpincgjlclpaaGreat.gJ
open Go.RowKit Go.Proofs.ae.au Pr
open uA (oz iJ good ql iR kT kK jB)
section
variable {ts:List (List UInt8)} {cs:List Int} {o:List eu}
theorem gU.there {L R:ByteArray} {n:Int} (hb:gU (Ws ts o) cs L R n) (h1:1<=n):∃t∈ts,1<=pc L R (nJ o (base t)):=by
 have:=hb.wc h1
 obtain⟨i,w,c,h3,_,_,h4⟩:=tX (a:=L) (b:=R) (ws:=Ws ts o) (cs:=cs) (by omega)
 obtain⟨t,ht,rfl⟩:=List.mem_map.1 (List.mem_of_getElem? h3)
 exact⟨t,ht,h4⟩
theorem nK.chain {budget least:Int} {r:List eu} (hl:1<=least) (h:nK ts cs budget least o r) (hc:jR ts o):jR ts r:=by
 induction h with
 |full _=>exact hc
 |stop _ _ _=>exact hc
 |step _ h2 h3 _ ih=>exact ih (hc.snoc (h2.there (by omega)))
end
end Go.Proofs.YtilpincgjlclpaaGreat.gJ
end
section
namespace Go.Proofs.YtilpincgjlclpaaGreat.gJ
open Go.RowKit Go.Proofs.ae.au Pr
open uA (oz iJ jB)
theorem vD (l:List dN) (B:Int) (hl:l.length<=9223372036854775807):∃b,(∀k,l.length+1<=k->aQ.f k l B=some b)/\(b=false->(l.length:Int)<=B/\∀x∈l,x.f0.size<=100):=by
 have loop:∀m i,i+m=l.length->∃b,(∀k,m+1<=k->aQ.l0 k l B (i:Int)=some b)/\(b=false->(l.length:Int)<=B/\∀x∈l.drop i,x.f0.size<=100):=by
  intro m
  induction m with
  |zero=>
   intro i hi
   refine⟨decide ((l.length:Int)>B),fun k hk=>?_,fun h=>⟨by have:=of_decide_eq_false h;omega,fun x hx=>?_⟩⟩
   ·obtain⟨k,rfl⟩:∃k',k=k'+1:=⟨k-1,by omega⟩
    rw[aQ.l0,if_neg (by omega)]
   ·rw[List.drop_of_length_le (by omega)] at hx;cases hx
  |succ m ih=>
   intro i hi
   have hlt:i<l.length:=by omega
   have hd:l.drop i=l[i]::l.drop (i+1):=List.drop_eq_getElem_cons hlt
   by_cases h:((l[i].f0.size:Nat):Int)>100
   ·refine⟨true,fun k hk=>?_,fun h=>by cases h⟩
    obtain⟨k,rfl⟩:∃k',k=k'+1:=⟨k-1,by omega⟩
    rw[aQ.l0,if_pos (by omega),if_pos (by omega),jB l i hlt,if_pos h]
   ·obtain⟨b,hb,hf⟩:=ih (i+1) (by omega)
    refine⟨b,fun k hk=>?_,fun hb=>⟨(hf hb).1,fun x hx=>?_⟩⟩
    ·obtain⟨k,rfl⟩:∃k',k=k'+1:=⟨k-1,by omega⟩
     rw[aQ.l0,if_pos (by omega),if_pos (by omega),jB l i hlt,if_neg h,wi i (by omega)]
     exact hb k (by omega)
    ·rw[hd] at hx
     rcases List.mem_cons.1 hx with rfl|hx
     ·omega
     ·exact(hf hb).2 x hx
 obtain⟨b,h1,h2⟩:=loop l.length 0 (by omega)
 exact⟨b,h1,fun h=>by simpa using h2 h⟩
theorem Wd (a:List eu) (ha:a.length<=1000000) (k:Nat) (hk:a.length+1<=k):dX.f k a a=some true:=by
 have loop:∀m i k,i+m=a.length->m+1<=k->dX.l0 k a a (i:Int)=some true:=by
  intro m
  induction m with
  |zero=>
   intro i k hi hk
   obtain⟨k,rfl⟩:∃k',k=k'+1:=⟨k-1,by omega⟩
   rw[dX.l0,if_neg (by omega)]
  |succ m ih=>
   intro i k hi hk
   obtain⟨k,rfl⟩:∃k',k=k'+1:=⟨k-1,by omega⟩
   rw[dX.l0,if_pos (by omega),if_pos (by omega),if_pos (by omega),if_neg (by simp),wi i (by omega)]
   exact ih (i+1) k (by omega) (by omega)
 rw[dX.f,if_pos rfl]
 exact loop a.length 0 k (by omega) hk
end Go.Proofs.YtilpincgjlclpaaGreat.gJ
end
section
namespace Go.Proofs.YtilpincgjlclpaaGreat.Pr
open Go.RowKit Bs Go.Proofs.ae.au Go.Proofs.ae.aZ Go.Proofs.ae.bE
def fu.f (a0:ByteArray):Option ByteArray:=if a0.size*2<=140737488355328 then some ⟨(iK a0.data.toList).toArray⟩ else none
abbrev digs:ByteArray:=⟨#[48,49,50,51,52,53,54,55,56,57,97,98,99,100,101,102]⟩
theorem BN (q:Nat) (hq:q<16):digs.extract q (q+1)=⟨[pO q].toArray⟩:=by
 have key:∀q:Fin 16,digs.extract q.val (q.val+1)=⟨[pO q.val].toArray⟩:=by decide+kernel
 exact key ⟨q,hq⟩
set_option maxHeartbeats 2000000 in
set_option maxRecDepth 100000 in
theorem fu.calls (a0:ByteArray) (r:ByteArray) (w:World) (h:fu.f a0=some r):
  Calls Tryz.prog 76 #[.string a0] w fun e w'=>e= .returned (.string r)/\aJ w w':=by
 unfold fu.f at h
 split at h
 ·rename_i hsz
  cases h
  go_enter Tryz.func76,Tryz.ntmps76
  go_wp2
  go_loopw [4,5] (fun v4 v5 wr=>∃k:Nat,k<=a0.size/\v5= .int .i64 k/\v4= .string ⟨(iK (a0.data.toList.take k)).toArray⟩/\aJ w wr) (fun _ v5 _=>a0.size-(intOf v5).toNat)
  case atStart=>exact⟨0,Nat.zero_le _,rfl,rfl,aJ.refl _⟩
  case round=>
   obtain⟨k,hk,rfl,rfl,hd⟩:=hrel
   have HD:=Lib.hid hd
   clear hd
   by_cases hlt:k<a0.size
   ·have hstep:iK (a0.data.toList.take (k+1))=iK (a0.data.toList.take k)++[pO ((a0.data.toList.getD k 0).toNat/16)]++[pO ((a0.data.toList.getD k 0).toNat%16)]:=by
     rw[wy _ _ (by rw[Pure.pF];omega),BQ]
    have hlen:(iK (a0.data.toList.take k)).length=2*k:=by rw[jG,List.length_take,Nat.min_eq_left (by rw[Pure.pF];omega)]
    obtain⟨c,hc⟩:∃c:Nat,(a0.data[k]'hlt).toNat=c:=⟨_,rfl⟩
    have hgc:(a0.data.toList.getD k 0).toNat=c:=by
     rw[<-hc,List.getD_eq_getElem?_getD,List.getElem?_eq_getElem (by rw[Pure.pF];omega)]
     rfl
    have hc':(a0[k]'hlt).toNat=c:=hc
    have hc0:c<256:=by rw[<-hc];exact(a0.data[k]'hlt).toNat_lt
    rw[hgc] at hstep
    generalize hL:iK (a0.data.toList.take k)=L at *
    have hLs:(⟨L.toArray⟩:ByteArray).size=2*k:=by rw[Pure.mk_size,hlen]
    have HL:=Lib.hid hL
    have HS:=Lib.hid hstep
    obtain⟨q,hq⟩:∃q:Nat,c/16=q:=⟨_,rfl⟩
    obtain⟨m,hm⟩:∃m:Nat,c%16=m:=⟨_,rfl⟩
    have hq0:q<16:=by omega
    have hm0:m<16:=by omega
    have r1:IntKind.i64.wrap (c:Int)=c:=IntWalk.i64_in _ (by omega)
    have r2:Int.tdiv (c:Int) 16=q:=by rw[Int.tdiv_eq_ediv_of_nonneg (by omega)];omega
    have r3:Int.tmod (c:Int) 16=m:=by rw[Int.tmod_eq_emod_of_nonneg (by omega)];omega
    have r4:IntKind.i64.wrap (q:Int)=q:=IntWalk.i64_in _ (by omega)
    have r5:IntKind.i64.wrap ((q:Int)+1)=(q:Int)+1:=IntWalk.i64_in _ (by omega)
    have r6:IntKind.i64.wrap ((m:Int)+1)=(m:Int)+1:=IntWalk.i64_in _ (by omega)
    have h0:(0:Int)<=(k:Int):=by omega
    have h1:(k:Int)<(a0.size:Int):=by omega
    have h2:(0:Int)<=(q:Int):=by omega
    have h3:(q:Int)<=(q:Int)+1:=by omega
    have h4:(q:Int)+1<=16:=by omega
    have h5:(0:Int)<=(m:Int):=by omega
    have h6:(m:Int)<=(m:Int)+1:=by omega
    have h7:(m:Int)+1<=16:=by omega
    have HQ:=Lib.hid hq
    have HM:=Lib.hid hm
    clear hL hstep hgc hq hm hlen
    go_wp2_with fail
    go_quiet (fail)
    go_wp2
    go_roundw
    case rel=>
     refine⟨k+1,by omega,by go_num,?_,HD.out.step _⟩
     rw[HS.out,HQ.out,HM.out,<-Pure.Ic,<-Pure.Ic,<-BN q hq0,<-BN m hm0]
    case measure=>simp[intOf];omega
   ·go_wp2
    go_ret
    have hk':k=a0.size:=by omega
    subst hk'
    refine⟨?_,HD.out⟩
    rw[List.take_of_length_le (by rw[Pure.pF];omega)]
    rfl
 ·cases h
end Go.Proofs.YtilpincgjlclpaaGreat.Pr
end
