import Derived.Laws.AppendOwnNone
import Derived.Lib.AppendZeros
import Derived.Maps.AppendAt
import Derived.Test.YtilpincgjlclpaaGreatB33
import Derived.Test.YtilpincgjlclpaaGreatS6
set_option linter.unusedVariables false
set_option linter.unusedSimpArgs false
section
namespace Go.Proofs.YtilpincgjlclpaaGreat.Ob
open Go Go.RowKit Bs Mp jL
set_option maxRecDepth 100000 in
theorem grow_c (n:Nat) (hn:n<=1000000) (w:World):Calls Tryz.prog 100 #[.slice none 0 0,.int .i64 n] w fun e w'=>∃A c,e= .returned (.slice A 0 c)/\w'.ownsRow w.heap.size TWd 2 (.slice A 0 c) 0 []/\Below w.heap.size w w':=by
 by_cases h0:n=0
 ·subst h0
  go_enter Tryz.func100,Tryz.ntmps100
  go_wp2
  go_ret
  exact⟨none,0,rfl,World.ownsRow_nil _ _ _ _,Below.refl _ _⟩
 ·obtain⟨i0,hi0,hz0,hz1,hz2⟩:=info_parts infoW
  have happ:=Lib.run_append_nil_zeros (P:=Tryz.prog) w 22 3 22 TWd i0 (.agg #[.string ByteArray.empty,.int .i64 0]) .i64 .i64 Tryz.underlying22 Tryz.underlying3 hi0 hz0 n (by omega) (by rw[hz1];omega) (by omega) (by rw[hz2];omega)
  generalize hcap:grownCap w n 0 TWd=cap at happ
  have hcapge:n<=cap:=by rw[<-hcap];exact grownCap_ge w _ 0 TWd
  have hcaple:cap<=maxLen:=by rw[<-hcap];exact grownCap_le_maxLen w _ 0 TWd (by unfold maxLen;omega)
  generalize hZ:(Builtin.zeroCells (Value.agg #[.string ByteArray.empty,.int .i64 0]).cells n++Builtin.zeroCells (Value.agg #[.string ByteArray.empty,.int .i64 0]).cells (cap-n))=Z at happ
  have hZs:Z.size=cap*2:=by rw[<-hZ];simp[size_zeroCells,Value.cells];omega
  have HZ:=Lib.hid hZs
  have hn0:(0:Int)<n:=by omega
  clear hcap hZ hZs
  go_enter Tryz.func100,Tryz.ntmps100
  go_wp2_with (at_builtin;refine Lib.wpList_append_run _ rfl _ _ _ _ rfl _ _ rfl rfl _ _ happ ?_)
  go_ret
  have hg:(w.drew.alloc (.cells Z TWd)).heap[w.heap.size]?=some (.cells Z TWd (0,0)):=bG w.drew _
  refine⟨_,cap,rfl,⟨rfl,.inr ⟨w.heap.size,cap,Z,rfl,Nat.le_refl _,hg,Nat.zero_le _,hcaple,HZ.out,by simp⟩⟩,?_⟩
  exact(Below.refl _ w).drew.alloc (Nat.le_refl _) _
set_option maxHeartbeats 2000000 in
set_option maxRecDepth 100000 in
theorem concat_c {w:World} {B b c:Nat} {A:Option Addr} {m:List SM} (hO:w.ownsRow B TWd 2 (.slice A m.length c) m.length (m.flatMap AP)) (hb:w.cell? ⟨b,0,none⟩=some (.slice A m.length c)) (hnil:m=[]->A=none/\c=0) (hm:m.length<=100000):
  Calls Tryz.prog 65 #[.slice (some ⟨b,0,none⟩) 1 1] w fun e w'=>∃v,e= .returned v/\w'.ownsRow w.heap.size TWd 2 v m.length (m.flatMap AP)/\Below w.heap.size w w':=by
 obtain⟨i0,hi0,hz0,hz1,hz2⟩:=info_parts infoW
 have HO:=Lib.hid hO
 have HN:=Lib.hid hnil
 clear hO hnil
 go_enter Tryz.func65,Tryz.ntmps65
 go_wp2_with fail
 go_loopg [3,11] 1 (fun gk v3 v11 wr=>wr=w/\(v11= .int .i64 0/\v3= .int .i64 0/\gk=1\/v11= .int .i64 1/\v3= .int .i64 m.length/\gk=0))
 case atStart=>exact⟨rfl,.inl ⟨rfl,rfl,rfl⟩⟩
 case round=>
  obtain⟨rfl,⟨rfl,rfl,rfl⟩|⟨rfl,rfl,rfl⟩⟩:=hrel
  ·go_wp2_with fail
   go_roundg 0
   case measure=>omega
   case rel=>exact⟨rfl,.inr ⟨rfl,by simp,rfl⟩⟩
  ·go_wp2_with (go_at_call 100;refine(grow_c m.length (by omega) _).mono ?_;rintro e w1 ⟨A1,c1,rfl,ho1,hB1⟩;have HO1:=Lib.hid ho1;have HB1:=Lib.hid hB1;clear ho1 hB1)
   have hb1:w1.cell? ⟨b,0,none⟩=some (.slice A m.length c):=(HB1.out.cell (p:=⟨b,0,none⟩) (World.block_lt_of_cell? _ _ hb)).trans hb
   go_loopg [6,27] 1 (fun gk v6 v27 wx=>v27= .int .i64 0/\v6= .slice A1 0 c1/\gk=1/\wx=w1\/v27= .int .i64 1/\gk=0/\Hid (wx.ownsRow wr.heap.size TWd 2 v6 m.length (m.flatMap AP))/\Hid (Below wr.heap.size wr wx))
   case atStart=>exact .inl ⟨rfl,rfl,rfl,rfl⟩
   case round=>
    rcases hrel with⟨rfl,rfl,rfl,rfl⟩|⟨rfl,rfl,HO2,HB2⟩
    ·cases hmm:m with
     |nil=>
      subst hmm
      obtain⟨rfl,rfl⟩:=HN.out rfl
      go_wp2_with (at_builtin;refine wpList_append_own_none rfl _ _ 22 rfl _ TWd i0 2 Tryz.underlying22 hi0 _ 0 [] rfl HO1.out rfl ?_)
      go_roundg 0
      case measure=>omega
      case rel=>exact .inr ⟨rfl,rfl,HO1,HB1⟩
     |cons x m0=>
      have hpos:0<m.length:=by rw[hmm];simp
      have HO1b:=Lib.hid ((Fr.dL (S:=fun _=>False) HB1.out).own HO.out (fun _ _ h=>h))
      rw[<-hmm]
      clear hmm
      obtain⟨g,rfl,hg1,hg2,hgc,hcl,_⟩:=gz HO1b.out hpos
      have Sa:=Lib.hid hcl
      clear hcl
      go_wp2_with (at_builtin;refine wpList_append_own_at _ rfl _ _ 22 rfl _ TWd i0 (.agg #[.string ByteArray.empty,.int .i64 0]) 2 24 Tryz.underlying22 hi0 hz0 hz1 hz2 rfl (by decide) _ 0 [] rfl HO1.out ⟨g,0,none⟩ m.length c (m.flatMap AP) rfl ?c1 ?c2 ?c3 ?c4 ?c5 ?c6 ?_)
      case c1=>exact HO.out.1
      case c2=>
       intro j u hj
       have h9:=Sa.out j u hj
       by_cases h0:j=0
       ·subst h0;exact h9
       ·simpa[Addr.add,h0] using h9
      case c3=>intro u hu;obtain⟨q,_,hq⟩:=List.mem_flatMap.1 hu;simp[AP] at hq;rcases hq with rfl|rfl<;>rfl
      case c4=>unfold maxLen;omega
      case c5=>omega
      case c6=>exact HB1.out.size
      intro v' w6 hown6 iZ _ AV
      have HO6:=Lib.hid hown6
      have yJ:=Lib.hid (HB1.out.grown iZ HB1.out.size (fun k e=>(eG HO1.out e).1))
      clear iZ hown6 AV
      go_wp2
      go_roundg 0
      case measure=>omega
      case rel=>exact .inr ⟨rfl,rfl,Lib.hid (by simpa using HO6.out),yJ⟩
    ·go_wp2
     go_ret
     exact⟨_,rfl,HO2.out,HB2.out⟩
end Go.Proofs.YtilpincgjlclpaaGreat.Ob
end
section
namespace Go.Proofs.YtilpincgjlclpaaGreat.Ob
open Go Go.RowKit Bs Mp jL
theorem encW1_at:∀{m:List SM} {i:Nat} {x:SM},m[i]?=some x->(m.flatMap AP)[i*2]?=some (.string x.1)/\(m.flatMap AP)[i*2+1]?=some (.int .i64 x.2)
 |y::m,0,x,h=>by simp at h;subst h;simp[AP]
 |y::m,i+1,x,h=>by
  have ih:=encW1_at (m:=m) (i:=i) (x:=x) (by simpa using h)
  have e1:(i+1)*2=(i*2)+2:=by omega
  rw[e1]
  simpa[AP] using ih
 |[],i,x,h=>by simp at h
def one (y:ByteArray):SM:=(y,1)
set_option maxHeartbeats 2000000 in
set_option maxRecDepth 100000 in
theorem merge_c {w:World} {B b c:Nat} {A:Option Addr} {Y:List ByteArray} (hO:w.ownsRow B TWd 2 (.slice A (Y.map one).length c) (Y.map one).length ((Y.map one).flatMap AP)) (hb:w.cell? ⟨b,0,none⟩=some (.slice A (Y.map one).length c)) (hnil:Y=[]->A=none/\c=0) (hl:Y.length<=100000) (hs:∀y∈Y,y.size<=maxLen) (h0:(fH [] Y).2=0):
  Calls Tryz.prog 34 #[.slice (some ⟨b,0,none⟩) 1 1] w fun e w'=>∃v,e= .returned (.tuple #[v,.int .i64 0])/\w'.ownsRow w.heap.size TWd 2 v (fz (fH [] Y).1).length ((fz (fH [] Y).1).flatMap AP)/\Below w.heap.size w w':=by
 have hB0:Below w.heap.size w (w.alloc (.cells #[.map none] TF)):=(Below.refl _ w).alloc (Nat.le_refl _) _
 have yE:(Y.map one).length=Y.length:=List.length_map _
 have hcc:=concat_c ((Fr.dL (S:=fun _=>False) hB0).own hO (fun _ _ h=>h)) (b:=b) ((hB0.cell (p:=⟨b,0,none⟩) (World.block_lt_of_cell? _ _ hb)).trans hb) (fun h=>hnil (by simpa using h)) (by rw[yE];omega)
 rw[yE] at hcc
 have Ld:=Lib.hid hcc
 have HB0:=Lib.hid hB0
 have HS:=Lib.hid hs
 have H0:=Lib.hid h0
 clear hcc hB0 hO hb hnil hs h0
 go_enter Tryz.func34,Tryz.ntmps34
 go_wp2_with (first
  |(go_at_call 30;refine(Mw w).mono ?_;rintro e w1 ⟨rfl,rfl⟩)
  |(go_at_call 65;refine Ld.out.mono ?_;clear Ld;rintro e w2 ⟨v2,rfl,ho2,hB2⟩;obtain⟨A2,c2,rfl⟩:=Bs.bU ho2;have H2:=Lib.hid (And.intro ho2 hB2);clear ho2 hB2)
  |fail)
 have hC0:=(Lj.new (B:=w.heap.size) w (Nat.le_refl _)).below H2.out.2
 have lC:=Lib.hid hC0
 clear hC0
 go_loopg [12] Y.length (fun gk v12 wr=>∃(D R:List ByteArray) (m':List SM) (S':Nat->Prop),v12= .int .i64 (D.length:Int)/\R.length=gk/\Hid (Y=D++R)/\Hid (fH m' R=fH [] Y)/\Hid (Lj w.heap.size wr w.heap.size m' S')/\Hid (Fr (fun k=>k=w.heap.size) w2 wr)/\Hid (Into w2 (fun k=>k=w.heap.size) S')/\Hid (m'.length<=D.length))
 case atStart=>exact⟨[],Y,[],_,rfl,rfl,Lib.hid rfl,Lib.hid rfl,lC,Lib.hid (Fr.refl _ _),Lib.hid (Into.refl _ _),Lib.hid (Nat.le_refl _)⟩
 case round=>
  obtain⟨D,R,m',S',rfl,qy,HX,HM,HC,HF,HI,HN⟩:=hrel
  cases R with
  |nil=>
   have hxe:Y=D:=by rw[HX.out];simp
   have hge:¬D.length<Y.length:=by rw[hxe];omega
   have hfr:=PK HC.out (by have:=HN.out;rw[<-hxe] at this;omega)
   have hme:m'=(fH [] Y).1:=by rw[<-HM.out];rfl
   have HME:=Lib.hid hme
   clear hxe hme
   go_wp2_with (go_at_call 35;refine hfr.mono ?_;clear hfr;rintro e w3 ⟨v3,rfl,ho3,hB3⟩;have H3:=Lib.hid (And.intro ho3 hB3);clear ho3 hB3)
   go_ret2
   rw[<-HME.out]
   have h1:Below w.heap.size w w2:=HB0.out.trans (H2.out.2.mono HB0.out.size)
   have h2:Below w.heap.size w wr:=h1.trans (HF.out.toBelow (fun i hi=>by rw[show i=w.heap.size from hi];exact Nat.le_refl _) h1.size)
   exact⟨v3,rfl,Bi H3.out.1 h2.size,h2.trans (H3.out.2.mono h2.size)⟩
  |cons x R=>
   obtain⟨gk,rfl⟩:∃g,gk=g+1:=⟨R.length,by simpa using qy.symm⟩
   have hxi:Y[D.length]?=some x:=by rw[HX.out];simp
   have hlt:D.length<Y.length:=(List.getElem?_eq_some_iff.1 hxi).1
   have hxs:x.size<=maxLen:=HS.out x (List.mem_of_getElem? hxi)
   have hxo:(Y.map one)[D.length]?=some (one x):=by rw[List.getElem?_map,hxi];rfl
   obtain⟨g,rfl,hg1,hg2,hgc,hcl,_⟩:=gz H2.out.1 (by omega)
   have hgn:g≠w.heap.size:=by have:=HB0.out.size;simp at hg1;omega
   have e0:wr.cell? ⟨g,D.length*2,none⟩=some (.string x):=HF.out.cell (hcl _ _ (encW1_at hxo).1) hgn
   have e1:wr.cell? ⟨g,D.length*2+1,none⟩=some (.int .i64 1):=HF.out.cell (hcl _ _ (encW1_at hxo).2) hgn
   have hT1:=bG wr (.cells #[.string x,.int .i64 1] TWd)
   have t0:(wr.alloc (.cells #[.string x,.int .i64 1] TWd)).cell? ⟨wr.heap.size,0,none⟩=some (.string x):=aj hT1 0
   have t1:(wr.alloc (.cells #[.string x,.int .i64 1] TWd)).cell? ⟨wr.heap.size,1,none⟩=some (.int .i64 1):=aj hT1 1
   have hcl1:=ctr_add (HC.out.below ((Below.refl _ wr).alloc (Nat.le_refl _) (.cells #[.string x,.int .i64 1] TWd))) (by have:=HN.out;omega) hxs (n:=1) (lD.mk (by omega) (by omega))
   have HQ:=HM.out
   rw[fH] at HQ
   have hml2:=LZ m' x 1
   obtain⟨m2,r,hmr⟩:∃m2 r,oQ m' x 1=(m2,r):=⟨_,_,rfl⟩
   rw[hmr] at hcl1 HQ hml2
   simp only at hcl1 HQ hml2
   have hr0:r=0:=by
    by_cases h:r=0
    ·exact h
    ·rw[if_neg h] at HQ
     have h2:=H0.out
     rw[<-HQ] at h2
     exact absurd h2 h
   subst hr0
   rw[if_pos rfl] at HQ
   have Sa:=Lib.hid hcl1
   have HQQ:=Lib.hid HQ
   clear hcl1 HQ hxi hmr hxs hxo hcl hT1 hgn hg1 hg2
   go_wp2_with (go_at_call 31;refine Sa.out.mono ?_;rintro e w1 ⟨rfl,S1,hs1,hf1,hi1⟩;have H1:=Lib.hid (And.intro hs1 (And.intro hf1 hi1));clear hs1 hf1 hi1)
   go_roundg R.length
   case measure=>simp at qy;omega
   case rel=>
    obtain⟨hs1,hf1,hi1⟩:=H1.out
    have hfa:=HF.out.alloc (.cells #[.string x,.int .i64 1] TWd)
    exact⟨D++[x],R,m2,S1,by rw[List.length_append,List.length_singleton];simp,rfl,Lib.hid (by rw[HX.out];simp),HQQ,Lib.hid hs1,Lib.hid (hfa.trans hf1 (fun k hk=>HI.out k hk)),Lib.hid (HI.out.trans hi1 hfa.size),Lib.hid (by have:=HN.out;rw[List.length_append,List.length_singleton];omega)⟩
end Go.Proofs.YtilpincgjlclpaaGreat.Ob
end
