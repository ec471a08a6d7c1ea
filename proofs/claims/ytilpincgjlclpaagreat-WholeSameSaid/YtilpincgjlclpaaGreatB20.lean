import Derived.Deep.RegionHeld3
import Derived.Lib.SlBytesRow
import Derived.Test.YtilpincgjlclpaaGreatB12
import Derived.Test.YtilpincgjlclpaaGreatB8
set_option linter.unusedVariables false
set_option linter.unusedSimpArgs false
section
namespace Go.Proofs.YtilpincgjlclpaaGreat.Ob
open Go Go.RowKit Bs Mp jL
abbrev TT:Nat:=206
abbrev TJ:Nat:=221
def jc (o:List J):List Value:=o.flatMap fun x=>[.int .i64 x.1.1,.int .i64 x.1.2,.string x.2]
theorem Zp {o:List J} {i:Nat} {x:J} (h:o[i]?=some x):(jc o)[i*3]?=some (.int .i64 x.1.1)/\(jc o)[i*3+1]?=some (.int .i64 x.1.2)/\(jc o)[i*3+2]?=some (.string x.2):=by
 induction o generalizing i with
 |nil=>simp at h
 |cons y o ih=>
  cases i with
  |zero=>simp at h;subst h;exact⟨rfl,rfl,rfl⟩
  |succ i=>
   have:=ih (by simpa using h)
   have e:∀j,(jc (y::o))[(i+1)*3+j]?=(jc o)[i*3+j]?:=fun j=>by
    rw[jc,List.flatMap_cons,<-jc,List.getElem?_append_right (by simp;omega)]
    congr 1
    simp
    omega
   exact⟨by simpa using(e 0).trans this.1,(e 1).trans this.2.1,(e 2).trans this.2.2⟩
theorem jc_snoc (o:List J) (x:J):jc (o++[x])=jc o++[.int .i64 x.1.1,.int .i64 x.1.2,.string x.2]:=by simp[jc]
def mf:Nat->List J->List (ByteArray×Int)
 |_,[]=>[]
 |i,x::o=>(x.2,((256+i:Nat):Int))::mf (i+1) o
theorem BK:∀(o:List J) (i:Nat),(mf i o).length=o.length
 |[],_=>rfl
 |_::o,i=>by rw[mf,List.length_cons,BK o,List.length_cons]
theorem GM (x:J):∀(o:List J) (i:Nat),mf i (o++[x])=mf i o++[(x.2,((256+(i+o.length):Nat):Int))]
 |[],i=>by simp[mf]
 |y::o,i=>by
  rw[List.cons_append,mf,GM x o (i+1),mf,List.cons_append,List.length_cons]
  congr 5
  omega
theorem infoJ:(Tryz.prog.info? 221).map (fun i=>(i.zero,i.size,i.bytes))=some (some (.agg #[.int .i64 0,.int .i64 0,.string ByteArray.empty]),3,32):=by kernel_rfl
def Sym (B:Nat) (w:World) (b:Nat) (o:List J) (S:Nat->Prop):Prop:=
 ∃v m,B<=b/\w.heap[b]?=some (.cells #[v,m] TT (0,0))/\w.ownsRow B TJ 3 v o.length (jc o)/\(m= .map none/\o=[]\/∃g,m= .map (some g)/\B<=g/\mp yj w g (mf 0 o))/\
  S=fun k=>k=b\/v.ownBlock=some k\/m= .map (some k)
section
variable {B b:Nat} {o:List J} {S T:Nat->Prop} {w w':World}
theorem Sym.oq (h:Sym B w b o S):In B w S:=by
 obtain⟨v,m,hB,hb,ho,hm,rfl⟩:=h
 intro k hk
 rcases hk with rfl|hk|hk
 ·exact⟨hB,bA hb⟩
 ·exact eG ho hk
 ·rcases hm with⟨rfl,_⟩|⟨g,rfl,hg,hM⟩
  ·cases hk
  ·cases hk
   exact⟨hg,hM.lt⟩
theorem Sym.same (h:Sym B w b o S) (he:∀k,S k->w'.heap[k]?=w.heap[k]?):Sym B w' b o S:=by
 obtain⟨v,m,hB,hb,ho,hm,rfl⟩:=h
 refine⟨v,m,hB,(he b (.inl rfl)).trans hb,?_,?_,rfl⟩
 ·obtain⟨h1,h2⟩:=ho
  refine⟨h1,?_⟩
  rcases h2 with h2|⟨g,cap,cur,rfl,hg,hh,r⟩
  ·exact .inl h2
  ·exact .inr ⟨g,cap,cur,rfl,hg,(he g (.inr (.inl rfl))).trans hh,r⟩
 ·rcases hm with h1|⟨g,rfl,hg,hM⟩
  ·exact .inl h1
  ·exact .inr ⟨g,rfl,hg,hM.same (he g (.inr (.inr rfl)))⟩
theorem Sym.fr (h:Sym B w b o S) (f:Fr T w w') (d:Sep T S):Sym B w' b o S:=h.same (Dc f h.oq d)
theorem Sym.new (w:World) (hB:B<=w.heap.size):Sym B (w.alloc (.cells #[.slice none 0 0,.map none] TT)) w.heap.size [] (fun k=>k=w.heap.size):=
 ⟨_,_,hB,bG w _,World.ownsRow_nil _ _ _ _,.inl ⟨rfl,rfl⟩,by funext k;simp[Value.ownBlock]⟩
end
set_option maxHeartbeats 1000000 in
set_option maxRecDepth 100000 in
theorem Un (w:World):Calls Tryz.prog 81 #[] w fun e w'=>e= .returned (.pointer (some ⟨w.heap.size,0,none⟩))/\w'=w.alloc (.cells #[.slice none 0 0,.map none] TT):=by
 go_enter Tryz.func81,Tryz.ntmps81
 go_wp2
 go_ret
 exact⟨rfl,rfl⟩
set_option maxHeartbeats 1000000 in
set_option maxRecDepth 100000 in
theorem zZ {B b:Nat} {o:List J} {S:Nat->Prop} {w:World} (h:Sym B w b o S) (hl:o.length<=1000000):Calls Tryz.prog 123 #[.pointer (some ⟨b,0,none⟩)] w fun e w'=>e= .returned (.int .i64 ((256+o.length:Nat):Int))/\w'=w:=by
 obtain⟨v,m,hB,hb,ho,hm,rfl⟩:=h
 obtain⟨ao,cap,rfl⟩:=Bs.bU ho
 have c0:w.cell? ⟨b,0,none⟩=some (.slice ao o.length cap):=by rw[aj hb];rfl
 go_enter Tryz.func123,Tryz.ntmps123
 go_wp2
 go_ret
 exact⟨by congr 2,rfl⟩
theorem ZK (W:World) (c:UInt8):(convert 129 9 (.slice (some ⟨W.heap.size,0,none⟩) 1 1)).run Tryz.prog (W.alloc (.cells #[.int .u8 c.toNat] 5))= .ok (.string (Gf c)) (W.alloc (.cells #[.int .u8 c.toNat] 5)):=by
 have h:=Lib.run_convert_whole (P:=Tryz.prog) (W.alloc (.cells #[.int .u8 c.toNat] 5)) 129 5 9 Tryz.underlying129 Tryz.underlying5 Tryz.underlying9 W.heap.size 0 (Gf c) (by
  intro i hi
  have:i=0:=by have:(Gf c).size=1:=rfl;omega
  subst this
  rw[aj (bG W _)]
  rfl) 1
 exact h
theorem Qr (i:Nat) (h:i<256) (W:World):(convert 129 9 (.slice (some ⟨W.heap.size,0,none⟩) 1 1)).run Tryz.prog (W.alloc (.cells #[.int .u8 ((i:Int)%256)] 5))= .ok (.string (Gf (UInt8.ofNat i))) (W.alloc (.cells #[.int .u8 ((i:Int)%256)] 5)):=by
 have e:((UInt8.ofNat i).toNat:Int)=(i:Int)%256:=by
  have:(UInt8.ofNat i).toNat=i:=by simp;omega
  omega
 have:=ZK W (UInt8.ofNat i)
 rw[e] at this
 exact this
set_option maxHeartbeats 1000000 in
set_option maxRecDepth 100000 in
theorem wu {B b:Nat} {o:List J} {S:Nat->Prop} {w:World} (h:Sym B w b o S) (hl:o.length<=1000000) {i:Nat} (hi:i<256+o.length):
  Calls Tryz.prog 121 #[.pointer (some ⟨b,0,none⟩),.int .i64 i] w fun e w'=>e= .returned (.tuple #[.string (txt o i),.bool true])/\Below w.heap.size w w':=by
 have hlen:=zZ h hl
 obtain⟨v,m,hB,hb,ho,hm,rfl⟩:=h
 obtain⟨ao,cap,rfl⟩:=Bs.bU ho
 have c0:w.cell? ⟨b,0,none⟩=some (.slice ao o.length cap):=by rw[aj hb];rfl
 have hge:decide (256+(o.length:Int)<=(i:Int))=false:=decide_eq_false (by omega)
 by_cases hs:i<256
 ·have hs':((i:Nat):Int)<256:=by omega
  have hot:=Qr i hs
  have hot2:=hot
  rw[show(i:Int)%256=(i:Int) by omega] at hot2
  have ht:txt o i=Gf (UInt8.ofNat i):=by unfold txt;rw[if_pos hs]
  rw[ht]
  go_enter Tryz.func121,Tryz.ntmps121
  go_wp2_with (go_at_call 123;refine hlen.mono ?_;rintro e w1 ⟨rfl,rfl⟩)
  go_ret2
  exact⟨rfl,(Below.refl _ _).alloc (Nat.le_refl _) _⟩
 ·have hs':¬((i:Nat):Int)<256:=by omega
  obtain⟨x,hx⟩:∃x,o[i-256]?=some x:=⟨_,List.getElem?_eq_getElem (by omega)⟩
  have ht:txt o i=x.2:=by unfold txt;rw[if_neg hs,hx];rfl
  obtain⟨g,rfl,hg,hgl,hcap,hc,hfz⟩:=gz ho (by omega)
  have c2:=hc _ _ (Zp hx).2.2
  have e2:((i:Int)-256).toNat=i-256:=by omega
  rw[ht]
  go_enter Tryz.func121,Tryz.ntmps121
  go_wp2_with (go_at_call 123;refine hlen.mono ?_;rintro e w1 ⟨rfl,rfl⟩)
  go_ret2
  exact⟨rfl,Below.refl _ _⟩
def find (o:List J) (t:ByteArray):Int×Bool:=if h:t.size=1 then((t[0].toNat:Int),true) else((Mp.get (mf 0 o) t).getD 0,(Mp.get (mf 0 o) t).isSome)
theorem Yy {o:List J} {t:ByteArray} (h:(find o t).2=false):Mp.get (mf 0 o) t=none:=by
 unfold find at h
 split at h
 ·cases h
 ·simpa using h
theorem look_by {B:Nat} {w:World} {o:List J} {m:Value} (hm:m= .map none/\o=[]\/∃g,m= .map (some g)/\B<=g/\mp yj w g (mf 0 o)) {t:ByteArray} (ht:t.size<=maxLen):
  (Instr.lookup 112 m (.string t) true).run Tryz.prog w= .ok (.tuple #[.int .i64 ((Mp.get (mf 0 o) t).getD 0),.bool (Mp.get (mf 0 o) t).isSome]) w:=by
 rcases hm with⟨rfl,rfl⟩|⟨g,rfl,hg,hM⟩
 ·have hz:=yj.hz w
  obtain⟨l,hl⟩:=yj.key t ht
  have hc:=yj.law.check w true hl
  have hfd:(Instr.findKey 9 (.string t) []).run Tryz.prog w= .ok none w:=by
   rcases yj.law.find w hl [] (by simp) with h|⟨j,e,_,h,_⟩
   ·exact h.1
   ·simp at h
  simp only[yj] at hz hc
  simp[Instr.lookup,run_underlying Tryz.underlying112,hc,hz,hfd,Result.andThen,mf,Mp.get]
 ·exact hM.Qo (T:=yj) ht
set_option maxHeartbeats 1000000 in
set_option maxRecDepth 100000 in
theorem Fy {B b:Nat} {o:List J} {S:Nat->Prop} {w:World} (h:Sym B w b o S) {t:ByteArray} (ht:t.size<=maxLen):
  Calls Tryz.prog 122 #[.pointer (some ⟨b,0,none⟩),.string t] w fun e w'=>e= .returned (.tuple #[.int .i64 (find o t).1,.bool (find o t).2])/\w'=w:=by
 obtain⟨v,m,hB,hb,ho,hm,rfl⟩:=h
 have c1:w.cell? ⟨b,1,none⟩=some m:=by rw[aj hb];rfl
 have hlk:=look_by hm ht
 have yE:m.cells=#[m]:=by rcases hm with⟨rfl,_⟩|⟨g,rfl,_⟩<;>rfl
 by_cases h1:t.size=1
 ·have hf:find o t=((t[0].toNat:Int),true):=by unfold find;rw[dif_pos h1]
  have hw:wrap64 ((t[0].toNat:Nat):Int)=((t[0].toNat:Nat):Int):=by have:=t[0].toNat_lt;unfold wrap64;omega
  rw[hf]
  go_enter Tryz.func122,Tryz.ntmps122
  go_wp2
  go_ret2
  exact⟨rfl,rfl⟩
 ·have hf:find o t=((Mp.get (mf 0 o) t).getD 0,(Mp.get (mf 0 o) t).isSome):=by unfold find;rw[dif_neg h1]
  have h1':¬((t.size:Nat):Int)=1:=by omega
  rw[hf]
  generalize (Mp.get (mf 0 o) t).getD 0=n at hlk ⊢
  generalize (Mp.get (mf 0 o) t).isSome=c at hlk ⊢
  go_enter Tryz.func122,Tryz.ntmps122
  go_wp2
  go_ret2
  exact⟨rfl,rfl⟩
theorem Sym.below {B b:Nat} {o:List J} {S:Nat->Prop} {w w':World} (h:Sym B w b o S) (f:Below w.heap.size w w'):Sym B w' b o S:=h.same fun k hk=>f.block k (h.oq k hk).2
theorem Yr (g:Nat) (w:World):(binOp .eql 112 (.map (some g)) (.map none)).run Tryz.prog w= .ok (.bool false) w:=by kernel_rfl
theorem Yq (w:World):(binOp .eql 112 (.map none) (.map none)).run Tryz.prog w= .ok (.bool true) w:=by kernel_rfl
theorem UY (w:World) (o:Obj) {p:Addr} (h:p.block<w.heap.size) (v:Value):(w.alloc o).setCell p v=(w.setCell p v).alloc o:=by
 unfold World.setCell World.alloc
 congr 1
 apply Array.ext_getElem?
 intro i
 simp only[Array.getElem?_modify,Array.getElem?_push,Array.size_modify]
 by_cases e:i=w.heap.size
 ·subst e
  rw[if_neg (by omega),if_pos rfl,if_pos rfl]
 ·rw[if_neg e,if_neg e]
set_option maxHeartbeats 2000000 in
set_option maxRecDepth 100000 in
theorem Oo {B b:Nat} {o:List J} {S:Nat->Prop} {w:World} (h:Sym B w b o S) (hl:o.length<=100000) {i j:Nat} (hi:i<256+o.length) (hj:j<256+o.length) (hsz:(txt o i).size+(txt o j).size<=65536)
  (hfr:(find o (txt o i++txt o j)).2=false):
  Calls Tryz.prog 88 #[.pointer (some ⟨b,0,none⟩),.int .i64 i,.int .i64 j] w fun e w'=>e= .returned (.tuple #[.int .i64 ((256+o.length:Nat):Int),.int .i64 0])/\
   ∃S',Sym B w' b (o++[(((i:Int),(j:Int)),txt o i++txt o j)]) S'/\Fr S w w'/\Into w S S':=by
 have hss:(txt o i++txt o j).size<=maxLen:=by rw[ByteArray.size_append];unfold maxLen;omega
 have hgt:¬65536<((txt o i).size:Int)+((txt o j).size:Int):=by omega
 go_enter Tryz.func88,Tryz.ntmps88
 go_wp2_with fail
 refine(wu h (by omega) hi).mono ?_
 rintro e w1 ⟨rfl,hB1⟩
 have h1:=h.below hB1
 go_wp2_with fail
 refine(wu h1 (by omega) hj).mono ?_
 rintro e w2 ⟨rfl,hB2⟩
 have h2:=h1.below hB2
 have hf2:Fr S w w2:=(Fr.dL hB1).trans (S2:=fun _=>False) (Fr.dL hB2) (fun _ h=>h.elim)
 have hfind:=Fy h2 hss
 have hlen:=zZ h2 (by omega)
 have h2':=h2
 obtain⟨v,m,hB,hb,ho,hm,rfl⟩:=h2
 obtain⟨ao,cap,rfl⟩:=Bs.bU ho
 have c0:w2.cell? ⟨b,0,none⟩=some (.slice ao o.length cap):=by rw[aj hb];rfl
 have c1:w2.cell? ⟨b,1,none⟩=some m:=by rw[aj hb];rfl
 have hfz:=aX hb 1
 have hes:=Yr
 have hen:=Yq
 have hmm:=@run_makeMap Tryz.prog
 have hF0:Fr (fun k=>k=b\/(Value.slice ao o.length cap).ownBlock=some k\/m= .map (some k)) w w2:=hf2
 rcases hm with⟨rfl,rfl⟩|⟨g,rfl,hg,hM⟩
 ·have hb4:=dw hb (.map #[] 0)
  have c14:(w2.alloc (.map #[] 0)).cell? ⟨b,1,none⟩=some (.map none):=by rw[aj hb4];rfl
  have f14:=aX hb4 1
  have hb5:=heap_set hb4 1 (.map (some w2.heap.size))
  have Hg:mp yj ((w2.alloc (.map #[] 0)).setCell ⟨b,1,none⟩ (.map (some w2.heap.size))) w2.heap.size []:=(oW w2).set (a:=⟨b,1,none⟩) (by have:=bA hb;simp;omega) _
  have hne4:=Bs.own_ne ho hb (show TT≠TJ by decide)
  have ho5':=(((Fr.refl (fun k=>k=b) _).set (p:=⟨b,1,none⟩) (.inl rfl) (.map (some w2.heap.size))).own ho (fun k hk e=>hne4 (by rw[hk,e]))).alloc (.map #[] 0)
  have WL:=((hF0.set (p:=⟨b,1,none⟩) (.inl (.inl rfl)) (.map (some w2.heap.size))).alloc (.map #[] 0))
  have hgB:w.heap.size<=w2.heap.size:=hF0.size
  have hsame:=UY w2 (.map #[] 0) (p:=⟨b,1,none⟩) (bA hb) (.map (some w2.heap.size))
  have hEq:=Lib.hid hsame
  clear hsame
  go_wp2_with (go_at_call 122;refine hfind.mono ?_;rintro e w3 ⟨rfl,rfl⟩)
  rw[hEq.out]
  rw[hEq.out] at hb5 Hg
  have hb6:((w3.setCell ⟨b,1,none⟩ (.map (some w3.heap.size))).alloc (.map #[] 0)).heap[b]?=some (.cells #[.slice ao 0 cap,.map (some w3.heap.size)] TT (0,0)):=by simpa using hb5
  clear hb5
  generalize hW:(w3.setCell ⟨b,1,none⟩ (.map (some w3.heap.size))).alloc (.map #[] 0)=W at hb6 Hg ho5' WL ⊢
  have hWh:=Lib.hid hW
  clear hW
  have hlen5:=zZ (B:=B) (w:=W) (b:=b) (o:=[]) ⟨_,_,hB,hb6,ho5',.inr ⟨_,rfl,by have:=bA hb;omega,Hg⟩,rfl⟩ (by simp)
  refine hlen5.mono ?_
  rintro e w4 ⟨rfl,rfl⟩
  obtain⟨i0,hx,hx0,hx1,hx2⟩:=info_parts infoJ
  have hwb:=bA hb
  have hwl:w4.heap.size=w3.heap.size+1:=by rw[<-hWh.out];simp[World.setCell]
  have hWl:=Lib.hid hwl
  clear hwl
  have hgb:b≠w3.heap.size:=by omega
  have hog:=nO ho5' Hg
  have cc0:w4.cell? ⟨b,0,none⟩=some (.slice ao 0 cap):=by rw[aj hb6];rfl
  have cc1:w4.cell? ⟨b,1,none⟩=some (.map (some w3.heap.size)):=by rw[aj hb6];rfl
  clear hlen5
  go_wp2_with (first
   |(at_mapUpdate;refine oK _ rfl _ _ _ _ rfl rfl rfl Hg (by simp;unfold maxLen;omega) _ _ rfl rfl hss ?_;intro w5 hM7 Gl hs5;clear hs5;have Vy:=Gl.heap hb6 hgb;have c05:w5.cell? ⟨b,0,none⟩=some (.slice ao 0 cap):=(by rw[aj Vy];rfl);have Lg:=Gl.own ho5' (fun k hk e=>hog (by rw[hk,e])))
   |(at_builtin;refine wpList_append_own_at _ rfl _ _ 204 rfl B TJ i0 (.agg #[.int .i64 0,.int .i64 0,.string ByteArray.empty]) 3 32 Tryz.underlying204 hx hx0 hx1 hx2 rfl (by decide) _ _ _ rfl (Lg.alloc _) ⟨w5.heap.size,0,none⟩ 1 1 [.int .i64 i,.int .i64 j,.string (txt [] i++txt [] j)] rfl rfl ?c1 ?c2 ?c3 ?c4 ?c5 ?_))
  case c1=>exact mr _ _ _
  case c2=>intro u hu;simp at hu;rcases hu with rfl|rfl|rfl<;>rfl
  case c3=>simp;unfold maxLen;omega
  case c4=>simp
  case c5=>have:=bA Vy;simp;omega
  intro v' w6 hown6 iZ _ AV
  obtain⟨ao',cap',rfl⟩:=Bs.bU hown6
  have hne:=Bs.own_ne Lg Vy (show TT≠TJ by decide)
  have hb8:w6.heap[b]?=some (.cells #[.slice ao 0 cap,.map (some w3.heap.size)] TT (0,0)):=by
   rw[iZ.block b (by have:=bA Vy;simp;omega) (fun e=>hne e.symm)]
   exact dw Vy _
  have hM8:=(hM7.alloc (.cells #[.int .i64 i,.int .i64 j,.string (txt [] i++txt [] j)] TJ)).grown iZ (fun e=>nO Lg hM7 e.symm)
  have d1:w6.frozen? ⟨b,0,none⟩=false:=aX hb8 0
  have d2:w6.cell? ⟨b,0,none⟩=some (.slice ao 0 cap):=by rw[aj hb8];rfl
  go_wp2
  go_ret2
  refine⟨rfl,fun k=>k=b\/(Value.slice ao' (0+1) cap').ownBlock=some k\/Value.map (some w3.heap.size)= .map (some k),⟨_,_,hB,by simpa using heap_set hb8 0 _,?_,.inr ⟨_,rfl,by omega,?_⟩,rfl⟩,?_,?_⟩
  ·have Eh:=Bs.own_ne hown6 hb8 (show TT≠TJ by decide)
   have:=((Fr.refl (fun k=>k=b) w6).set (p:=⟨b,0,none⟩) (.inl rfl) (.slice ao' (0+1) cap')).own hown6 (fun k hk e=>Eh (by rw[hk,e]))
   exact this
  ·exact hM8.set (a:=⟨b,0,none⟩) (fun e=>hgb e.symm) _
  ·have f3:=WL.trans Gl (fun k hk=> .inr (by rw[hk];exact hgB))
   exact((f3.alloc _).grown iZ (fun k hk=> .inl (.inr (.inl hk)))).set (.inl (.inl rfl)) _
  ·have hsz:=WL.size
   have hsz5:=Gl.size
   rintro k (rfl|hk|hk)
   ·exact .inl (.inl rfl)
   ·rcases AV with e|e
    ·exact .inl (.inr (.inl (e.symm.trans hk)))
    ·right
     rw[e] at hk
     simp at hk
     omega
   ·right
    simp at hk
    omega
 ·go_wp2_with (go_at_call 122;refine hfind.mono ?_;rintro e w3 ⟨rfl,rfl⟩)
  refine hlen.mono ?_
  rintro e w4 ⟨rfl,rfl⟩
  obtain⟨i0,hx,hx0,hx1,hx2⟩:=info_parts infoJ
  have hgb:b≠g:=iQ hb hM
  have hog:=nO ho hM
  go_wp2_with (first
   |(at_mapUpdate;refine oK _ rfl _ _ _ _ rfl rfl rfl hM (by rw[BK];unfold maxLen;omega) _ _ rfl rfl hss ?_;intro w5 Hg Gl hs5;clear hs5;have hb5:=Gl.heap hb hgb;have c05:w5.cell? ⟨b,0,none⟩=some (.slice ao o.length cap):=(by rw[aj hb5];rfl);have ho5:=Gl.own ho (fun k hk e=>hog (by rw[hk,e])))
   |(at_builtin;refine wpList_append_own_at _ rfl _ _ 204 rfl B TJ i0 (.agg #[.int .i64 0,.int .i64 0,.string ByteArray.empty]) 3 32 Tryz.underlying204 hx hx0 hx1 hx2 rfl (by decide) _ _ _ rfl (ho5.alloc _) ⟨w5.heap.size,0,none⟩ 1 1 [.int .i64 i,.int .i64 j,.string (txt o i++txt o j)] rfl rfl ?c1 ?c2 ?c3 ?c4 ?c5 ?_))
  case c1=>exact mr _ _ _
  case c2=>intro u hu;simp at hu;rcases hu with rfl|rfl|rfl<;>rfl
  case c3=>unfold maxLen;omega
  case c4=>omega
  case c5=>have:=bA hb5;simp;omega
  intro v' w6 hown6 iZ _ AV
  obtain⟨ao',cap',rfl⟩:=Bs.bU hown6
  have hne:=Bs.own_ne ho5 hb5 (show TT≠TJ by decide)
  have hb6:w6.heap[b]?=some (.cells #[.slice ao o.length cap,.map (some g)] TT (0,0)):=by
   rw[iZ.block b (by have:=bA hb5;simp;omega) (fun e=>hne e.symm)]
   exact dw hb5 _
  have Vw:mp yj w6 g (put (mf 0 o) (txt o i++txt o j) ((256+o.length:Nat):Int)):=(Hg.alloc _).grown iZ (fun e=>nO ho5 Hg e.symm)
  have d1:w6.frozen? ⟨b,0,none⟩=false:=aX hb6 0
  have d2:w6.cell? ⟨b,0,none⟩=some (.slice ao o.length cap):=by rw[aj hb6];rfl
  go_wp2
  go_ret2
  refine⟨rfl,fun k=>k=b\/(Value.slice ao' (o.length+1) cap').ownBlock=some k\/Value.map (some g)= .map (some k),⟨_,_,hB,by simpa using heap_set hb6 0 _,?_,.inr ⟨g,rfl,hg,?_⟩,rfl⟩,?_,?_⟩
  ·have Eh:=Bs.own_ne hown6 hb6 (show TT≠TJ by decide)
   have:=((Fr.refl (fun k=>k=b) w6).set (p:=⟨b,0,none⟩) (.inl rfl) (.slice ao' (o.length+1) cap')).own hown6 (fun k hk e=>Eh (by rw[hk,e]))
   rw[jc_snoc,List.length_append]
   exact this
  ·rw[GM,Nat.zero_add,<-KA (Yy hfr)]
   exact Vw.set (a:=⟨b,0,none⟩) (fun e=>hgb e.symm) _
  ·have f3:=(hF0.trans Gl (fun k hk=> .inl (.inr (.inr (by rw[hk])))))
   exact((f3.alloc _).grown iZ (fun k hk=> .inl (.inr (.inl hk)))).set (.inl (.inl rfl)) _
  ·have hsz:=hF0.size
   have hsz5:=Gl.size
   rintro k (rfl|hk|hk)
   ·exact .inl (.inl rfl)
   ·rcases AV with e|e
    ·exact .inl (.inr (.inl (by rw[<-e];exact hk)))
    ·right
     rw[e] at hk
     simp at hk
     omega
   ·exact .inl (.inr (.inr hk))
end Go.Proofs.YtilpincgjlclpaaGreat.Ob
end
section
namespace Go.Proofs.YtilpincgjlclpaaGreat.Pr
open Go.RowKit Bs Go.Proofs.ae.au Go.Proofs.ae.aZ Go.Proofs.ae.bE
def Gf (c:UInt8):ByteArray:=⟨#[c]⟩
def dS:List UInt8->List UInt8->Bool
 |[],[]=>false
 |[],_::_=>true
 |_::_,[]=>false
 |a::l,b::m=>if a=b then dS l m else decide (a<b)
def bI.f (a0 a1:ByteArray):Option Bool:=if a0.size<=1000000/\a1.size<=1000000 then some (dS a0.data.toList a1.data.toList) else none
end Go.Proofs.YtilpincgjlclpaaGreat.Pr
end
section
namespace Go.Proofs.YtilpincgjlclpaaGreat.gJ
open Go.RowKit Go.Proofs.ae.au Pr Mp
def tx (s:ByteArray):List UInt8:=s.data.toList
theorem KT {a b:ByteArray} (h:tx a=tx b):a=b:=ByteArray.ext (Array.toList_inj.1 h)
theorem Bv (a b:ByteArray):tx (a++b)=tx a++tx b:=by simp[tx]
theorem tx_one (c:UInt8):tx (Gf c)=[c]:=rfl
theorem Ad (s:ByteArray):(tx s).length=s.size:=by simp[tx]
theorem iG {a b:ByteArray}:a.toList=b.toList↔a=b:=by
 rw[ByteArray.toList_eq,ByteArray.toList_eq]
 exact⟨KT,fun h=>h▸rfl⟩
def jn (a b:ByteArray):List ByteArray->List ByteArray
 |p::q::r=>if p=a/\q=b then(a++b)::jn a b r else p::jn a b (q::r)
 |w=>w
def pc (a b:ByteArray):List ByteArray->Nat
 |p::q::r=>(if p=a/\q=b then 1 else 0)+pc a b (q::r)
 |_=>0
section
variable {a b c d p:ByteArray}
@[simp] theorem Em:jn a b []=[]:=rfl
@[simp] theorem Ki (x:ByteArray):jn a b [x]=[x]:=rfl
theorem pQ (p q:ByteArray) (r:List ByteArray):jn a b (p::q::r)=if p=a/\q=b then(a++b)::jn a b r else p::jn a b (q::r):=by rw[jn]
@[simp] theorem pc_nil:pc a b []=0:=rfl
@[simp] theorem ZV (x:ByteArray):pc a b [x]=0:=rfl
theorem kM (p q:ByteArray) (r:List ByteArray):pc a b (p::q::r)=(if p=a/\q=b then 1 else 0)+pc a b (q::r):=by rw[pc]
theorem pc_tail (p:ByteArray) (r:List ByteArray):pc a b r<=pc a b (p::r):=by
 cases r with
 |nil=>simp
 |cons q r=>rw[kM];omega
theorem ZT:∀w:List ByteArray,pc a b w<=w.length-1
 |[]=>by simp
 |[x]=>by simp
 |p::q::r=>by
  have:=ZT (q::r)
  rw[kM]
  simp only[List.length_cons] at this ⊢
  split<;>omega
theorem lG:∀w:List ByteArray,(jn a b w).length<=w.length
 |[]=>by simp
 |[x]=>by simp
 |p::q::r=>by
  have h1:=lG r
  have h2:=lG (q::r)
  rw[pQ]
  split<;>simp only[List.length_cons] at * <;>omega
theorem wY:∀w:List ByteArray,1<=pc a b w->(jn a b w).length+1<=w.length
 |[],h=>by simp at h
 |[x],h=>by simp at h
 |p::q::r,h=>by
  have h1:=lG (a:=a) (b:=b) r
  rw[kM] at h
  rw[pQ]
  split
  ·simp only[List.length_cons] at *;omega
  ·rename_i hn
   rw[if_neg hn] at h
   have h2:=wY (q::r) (by omega)
   simp only[List.length_cons] at *;omega
theorem Ku:∀w:List ByteArray,1<=pc a b w->∃A C,w=A++[a,b]++C
 |[],h=>by simp at h
 |[x],h=>by simp at h
 |p::q::r,h=>by
  by_cases hp:p=a/\q=b
  ·exact⟨[],r,by rw[hp.1,hp.2];rfl⟩
  ·rw[kM,if_neg hp] at h
   obtain⟨A,C,e⟩:=Ku (q::r) (by omega)
   exact⟨p::A,C,by rw[e];rfl⟩
def flat (w:List ByteArray):List UInt8:=(w.map tx).flatten
def base (t:List UInt8):List ByteArray:=t.map Gf
theorem AU (t:List UInt8):flat (base t)=t:=by
 induction t with
 |nil=>rfl
 |cons c t ih=>simp only[base,flat,List.map_cons,List.flatten_cons,tx_one] at ih ⊢;rw[ih];rfl
theorem pE (p:ByteArray) (w:List ByteArray):flat (p::w)=tx p++flat w:=by simp[flat]
theorem MF (u v:List ByteArray):flat (u++v)=flat u++flat v:=by simp[flat]
theorem Jj:∀w:List ByteArray,flat (jn a b w)=flat w
 |[]=>rfl
 |[x]=>rfl
 |p::q::r=>by
  have h1:=Jj r
  have h2:=Jj (q::r)
  rw[pQ]
  split
  ·rename_i h
   rw[pE,pE,pE,h1,h.1,h.2,Bv,List.append_assoc]
  ·rw[pE,h2,<-pE]
theorem En:∀(w A R:List ByteArray),jn a b w=A++R->∃u v,w=u++v/\jn a b u=A/\jn a b v=R
 |w,[],R,h=>⟨[],w,rfl,rfl,h⟩
 |[],x::A,R,h=>by simp at h
 |[x],y::A,R,h=>by
  rw[Ki,List.cons_append] at h
  injection h with h1 h2
  have h3:=List.append_eq_nil_iff.1 h2.symm
  rw[h1,h3.1,h3.2]
  exact⟨[y],[],rfl,rfl,rfl⟩
 |p::q::r,x::A,R,h=>by
  rw[pQ] at h
  split at h
  ·rename_i hp
   rw[List.cons_append] at h
   injection h with h1 h2
   obtain⟨u,v,e,hu,hv⟩:=En r A R h2
   exact⟨p::q::u,v,by rw[e];rfl,by rw[pQ,if_pos hp,hu,h1],hv⟩
  ·rename_i hp
   rw[List.cons_append] at h
   injection h with h1 h2
   obtain⟨u,v,e,hu,hv⟩:=En (q::r) A R h2
   refine⟨p::u,v,by rw[e];rfl,?_,hv⟩
   cases u with
   |nil=>rw[Ki];rw[Em] at hu;rw[<-hu,h1]
   |cons y u=>
    rw[List.cons_append] at e
    injection e with e1 e2
    subst e1
    rw[pQ,if_neg hp,hu,h1]
end
def nJ (m:List eu) (w:List ByteArray):List ByteArray:=m.foldl (fun w x=>jn x.f0 x.f1 w) w
theorem seg_nil (w:List ByteArray):nJ [] w=w:=rfl
theorem vY (x:eu) (m:List eu) (w:List ByteArray):nJ (x::m) w=nJ m (jn x.f0 x.f1 w):=rfl
theorem om (m:List eu) (x:eu) (w:List ByteArray):nJ (m++[x]) w=jn x.f0 x.f1 (nJ m w):=by simp[nJ]
theorem seg_append (m n:List eu) (w:List ByteArray):nJ (m++n) w=nJ n (nJ m w):=by simp[nJ]
theorem tT (m:List eu):∀w,(nJ m w).length<=w.length:=by
 induction m with
 |nil=>exact fun w=>Nat.le_refl _
 |cons x m ih=>exact fun w=>Nat.le_trans (ih _) (lG w)
theorem Ea (m:List eu):∀w,flat (nJ m w)=flat w:=by
 induction m with
 |nil=>exact fun w=>rfl
 |cons x m ih=>exact fun w=>(ih _).trans (Jj w)
theorem RH (m:List eu) (x:ByteArray):nJ m [x]=[x]:=by
 induction m with
 |nil=>rfl
 |cons y m ih=>rw[vY,Ki,ih]
theorem Iz (m:List eu):∀(w A R:List ByteArray),nJ m w=A++R->∃u v,w=u++v/\nJ m u=A/\nJ m v=R:=by
 induction m with
 |nil=>exact fun w A R h=>⟨A,R,h,rfl,rfl⟩
 |cons x m ih=>
  intro w A R h
  rw[vY] at h
  obtain⟨u,v,e,hu,hv⟩:=ih _ _ _ h
  obtain⟨u',v',e',hu',hv'⟩:=En w u v e
  exact⟨u',v',e',by rw[vY,hu',hu],by rw[vY,hv',hv]⟩
theorem Iy (m:List eu) (t:List UInt8) (A B C:List ByteArray) (h:nJ m (base t)=A++B++C):nJ m (base (flat B))=B:=by
 obtain⟨u,v,e,hu,hv⟩:=Iz m _ _ _ h
 obtain⟨u1,u2,e1,hu1,hu2⟩:=Iz m _ _ _ hu
 rw[e1] at e
 obtain⟨t1,t2,_,h1,h2⟩:=List.map_eq_append_iff.1 e
 obtain⟨t3,t4,_,h3,h4⟩:=List.map_eq_append_iff.1 h1
 have h5:u2=base t4:=h4.symm
 have h6:flat B=t4:=by rw[<-hu2,Ea,h5,AU]
 rw[h6,<-h5,hu2]
theorem Oa {m:List eu} {t:List UInt8} {x y:ByteArray} (h:1<=pc x y (nJ m (base t))):nJ m (base (tx x++tx y))=[x,y]:=by
 obtain⟨A,C,e⟩:=Ku _ h
 have:=Iy m t A [x,y] C e
 rwa[show flat [x,y]=tx x++tx y by simp[flat]] at this
theorem seg_mem {m:List eu} {t:List UInt8} {x:ByteArray} (h:x∈nJ m (base t)):nJ m (base (tx x))=[x]:=by
 obtain⟨A,C,e⟩:=List.append_of_mem h
 have:=Iy m t A [x] C (by rw[e];simp)
 rwa[show flat [x]=tx x by simp[flat]] at this
theorem Ia {m n:List eu} {t t':List UInt8} {x y x' y':ByteArray} (h:1<=pc x y (nJ m (base t))) (h':1<=pc x' y' (nJ (m++[⟨x,y⟩]++n) (base t'))):x++y≠x'++y':=fun he=>by
 have h1:=Oa h
 have h2:=Oa h'
 rw[<-Bv,<-he,Bv,List.append_assoc,seg_append,h1,seg_append,vY,seg_nil,pQ,if_pos ⟨rfl,rfl⟩,Em,RH] at h2
 simp at h2
theorem aap (m:List eu) (t:List UInt8):∀x∈nJ m (base t),(∃c,x=Gf c)\/∃y∈m,x=y.f0++y.f1:=by
 have key:∀(a b:ByteArray) (w:List ByteArray),∀x∈jn a b w,x∈w\/x=a++b:=by
  intro a b w
  induction w using jn.induct a b with
  |case1 p q r h ih=>
   intro x hx
   rw[pQ,if_pos h] at hx
   rcases List.mem_cons.1 hx with rfl|hx
   ·exact .inr rfl
   ·rcases ih x hx with h1|h1
    ·exact .inl (by simp[h1])
    ·exact .inr h1
  |case2 p q r h ih=>
   intro x hx
   rw[pQ,if_neg h] at hx
   rcases List.mem_cons.1 hx with rfl|hx
   ·exact .inl (by simp)
   ·rcases ih x hx with h1|h1
    ·exact .inl (List.mem_cons_of_mem _ h1)
    ·exact .inr h1
  |case3 w h=>
   intro x hx
   match w,h with
   |[],_=>exact .inl hx
   |[y],_=>exact .inl hx
   |p::q::r,h=>exact absurd rfl (h p q r)
 have loop:∀(m:List eu) (w:List ByteArray),∀x∈nJ m w,x∈w\/∃y∈m,x=y.f0++y.f1:=by
  intro m
  induction m with
  |nil=>exact fun w x hx=> .inl hx
  |cons z m ih=>
   intro w x hx
   rcases ih _ x hx with h1|⟨y,hy,e⟩
   ·rcases key _ _ _ x h1 with h2|h2
    ·exact .inl h2
    ·exact .inr ⟨z,by simp,h2⟩
   ·exact .inr ⟨y,by simp[hy],e⟩
 intro x hx
 rcases loop m _ x hx with h|h
 ·obtain⟨c,_,e⟩:=List.mem_map.1 h
  exact .inl ⟨c,e.symm⟩
 ·exact .inr h
theorem wi (i:Nat) (h:i<9223372036854775807):wrap64 ((i:Int)+1)=((i+1:Nat):Int):=by unfold wrap64;omega
theorem rdW (ws:List (List ByteArray)) (i:Nat) (h:i<ws.length):lh ws (i:Int)=ws[i]:=by
 unfold lh
 rw[Int.toNat_natCast]
 simp[h]
theorem WR (w:List ByteArray) (i:Nat) (h:i<w.length):dH ByteArray.empty w (i:Int)=w[i]:=by
 unfold dH
 rw[Int.toNat_natCast]
 simp[h]
def wc (a b:ByteArray):List (List ByteArray)->List Int->Int
 |w::ws,c::cs=>(if c<1 then 0 else c*(pc a b w:Int))+wc a b ws cs
 |_,_=>0
def tot:List (List ByteArray)->List Int->Int
 |w::ws,c::cs=>(if c<1 then 0 else c*((w.length-1:Nat):Int))+tot ws cs
 |_,_=>0
theorem nR (a b:ByteArray):∀ws cs,0<=wc a b ws cs
 |[],_=>by simp[wc]
 |_::_,[]=>by simp[wc]
 |w::ws,c::cs=>by
  have:=nR a b ws cs
  rw[wc]
  split
  ·omega
  ·have:0<=c*(pc a b w:Int):=Int.mul_nonneg (by omega) (by omega)
   omega
theorem Ux (a b:ByteArray):∀ws cs,wc a b ws cs<=tot ws cs
 |[],_=>by simp[wc,tot]
 |_::_,[]=>by simp[wc,tot]
 |w::ws,c::cs=>by
  have:=Ux a b ws cs
  rw[wc,tot]
  split
  ·omega
  ·have h1:=ZT (a:=a) (b:=b) w
   have:c*(pc a b w:Int)<=c*((w.length-1:Nat):Int):=Int.mul_le_mul_of_nonneg_left (by omega) (by omega)
   omega
theorem tX {a b:ByteArray}:∀{ws cs},1<=wc a b ws cs->∃(i:Nat) (w:List ByteArray) (c:Int),ws[i]?=some w/\cs[i]?=some c/\1<=c/\1<=pc a b w
 |[],_,h=>by simp[wc] at h
 |_::_,[],h=>by simp[wc] at h
 |w::ws,c::cs,h=>by
  rw[wc] at h
  by_cases hc:c<1
  ·rw[if_pos hc] at h
   obtain⟨i,w',c',h1,h2,h3⟩:=tX (by omega:1<=wc a b ws cs)
   exact⟨i+1,w',c',by simpa using h1,by simpa using h2,h3⟩
  ·rw[if_neg hc] at h
   rcases Nat.eq_zero_or_pos (pc a b w) with hp|hp
   ·rw[hp] at h
    obtain⟨i,w',c',h1,h2,h3⟩:=tX (by simpa using h:1<=wc a b ws cs)
    exact⟨i+1,w',c',by simpa using h1,by simpa using h2,h3⟩
   ·exact⟨0,w,c,rfl,rfl,by omega,hp⟩
theorem wc_of {a b:ByteArray}:∀{ws:List (List ByteArray)} {cs:List Int} (i:Nat) (w:List ByteArray) (c:Int),ws[i]?=some w->cs[i]?=some c->1<=c->1<=pc a b w->1<=wc a b ws cs
 |[],_,i,w,c,h1,_,_,_=>by simp at h1
 |_::_,[],i,w,c,_,h2,_,_=>by simp at h2
 |x::ws,y::cs,0,w,c,h1,h2,hc,hp=>by
  simp at h1 h2
  subst h1 h2
  rw[wc,if_neg (by omega)]
  have h1:=nR a b ws cs
  have:y*1<=y*(pc a b x:Int):=Int.mul_le_mul_of_nonneg_left (by omega) (by omega)
  omega
 |x::ws,y::cs,i+1,w,c,h1,h2,hc,hp=>by
  have h3:=wc_of (a:=a) (b:=b) (ws:=ws) (cs:=cs) i w c (by simpa using h1) (by simpa using h2) hc hp
  rw[wc]
  split
  ·omega
  ·have:0<=y*(pc a b x:Int):=Int.mul_nonneg (by omega) (by omega)
   omega
theorem EO {a b:ByteArray}:∀{w:List ByteArray},1<=pc a b w->∃j:Nat,w[j]?=some a/\w[j+1]?=some b
 |[],h=>by simp at h
 |[x],h=>by simp at h
 |p::q::r,h=>by
  by_cases hp:p=a/\q=b
  ·exact⟨0,by simp[hp.1],by simp[hp.2]⟩
  ·rw[kM,if_neg hp] at h
   obtain⟨j,h1,h2⟩:=EO (a:=a) (b:=b) (w:=q::r) (by omega)
   exact⟨j+1,by simpa using h1,by simpa using h2⟩
theorem ZU {a b:ByteArray}:∀{w:List ByteArray} (j:Nat),w[j]?=some a->w[j+1]?=some b->1<=pc a b w
 |[],j,h,_=>by simp at h
 |[x],j,_,h=>by simp at h
 |p::q::r,0,h1,h2=>by
  simp at h1 h2
  rw[kM,if_pos ⟨h1,h2⟩]
  omega
 |p::q::r,j+1,h1,h2=>by
  have:=ZU (w:=q::r) j (by simpa using h1) (by simpa using h2)
  exact Nat.le_trans this (pc_tail p _)
def rem:List (List ByteArray)->Nat
 |[]=>0
 |w::ws=>w.length+3+rem ws
theorem Ut {a b:UInt8}:a<b↔a.toNat<b.toNat:=Iff.rfl
theorem xg:∀a:List UInt8,dS a a=false
 |[]=>rfl
 |c::a=>by rw[dS,if_pos rfl,xg a]
theorem vP:∀{a b c:List UInt8},dS a b=true->dS b c=true->dS a c=true
 |[],[],_,h,_=>by simp[dS] at h
 |[],_::_,[],_,h=>by simp[dS] at h
 |[],_::_,_::_,_,_=>rfl
 |_::_,[],_,h,_=>by simp[dS] at h
 |_::_,_::_,[],_,h=>by simp[dS] at h
 |x::a,y::b,z::c,h,h'=>by
  rw[dS] at h h' ⊢
  by_cases h1:x=y
  ·subst h1
   rw[if_pos rfl] at h
   by_cases h2:x=z
   ·rw[if_pos h2] at h' ⊢
    exact vP h h'
   ·rw[if_neg h2] at h' ⊢
    exact h'
  ·rw[if_neg h1] at h
   have h3:=Ut.1 (of_decide_eq_true h)
   by_cases h2:y=z
   ·subst h2
    rw[if_neg h1]
    exact h
   ·rw[if_neg h2] at h'
    have h4:=Ut.1 (of_decide_eq_true h')
    rw[if_neg (fun e=>by rw[e] at h3;omega)]
    exact decide_eq_true (Ut.2 (by omega))
theorem qG:∀{a b:List UInt8},dS a b=false->dS b a=false->a=b
 |[],[],_,_=>rfl
 |[],_::_,h,_=>by simp[dS] at h
 |_::_,[],_,h=>by simp[dS] at h
 |x::a,y::b,h,h'=>by
  rw[dS] at h h'
  by_cases h1:x=y
  ·subst h1
   rw[if_pos rfl] at h h'
   rw[qG h h']
  ·rw[if_neg h1] at h
   rw[if_neg (fun e=>h1 e.symm)] at h'
   have h3:=of_decide_eq_false h
   have h4:=of_decide_eq_false h'
   rw[Ut] at h3 h4
   exact absurd (UInt8.toNat_inj.1 (by omega)) h1
def lp (a b c d:ByteArray):Bool:=dS (tx a) (tx c)||(decide (a=c)&&dS (tx b) (tx d))
theorem ZB (a b:ByteArray):lp a b a b=false:=by simp[lp,xg]
theorem Km {a b c d:ByteArray}:lp a b c d=true↔dS (tx a) (tx c)=true\/a=c/\dS (tx b) (tx d)=true:=by simp[lp]
theorem Eu {a b c d e f:ByteArray} (h:lp a b c d=true) (h':lp c d e f=true):lp a b e f=true:=by
 rw[Km] at *
 rcases h with h|⟨rfl,h⟩
 ·rcases h' with h'|⟨rfl,h'⟩
  ·exact .inl (vP h h')
  ·exact .inl h
 ·rcases h' with h'|⟨rfl,h'⟩
  ·exact .inl h'
  ·exact .inr ⟨rfl,vP h h'⟩
theorem Et {a b c d:ByteArray} (h:lp a b c d=false) (h':lp c d a b=false):a=c/\b=d:=by
 have g:¬(dS (tx a) (tx c)=true\/a=c/\dS (tx b) (tx d)=true):=by rw[<-Km,h];simp
 have g':¬(dS (tx c) (tx a)=true\/c=a/\dS (tx d) (tx b)=true):=by rw[<-Km,h'];simp
 have h1:a=c:=KT (qG (Bool.eq_false_iff.2 fun e=>g (.inl e)) (Bool.eq_false_iff.2 fun e=>g' (.inl e)))
 subst h1
 exact⟨rfl,KT (qG (Bool.eq_false_iff.2 fun e=>g (.inr ⟨rfl,e⟩)) (Bool.eq_false_iff.2 fun e=>g' (.inr ⟨rfl,e⟩)))⟩
def gU (ws:List (List ByteArray)) (cs:List Int) (L R:ByteArray) (n:Int):Prop:=
 (L=⟨#[]⟩/\R=⟨#[]⟩/\n=0/\∀c d,wc c d ws cs<=0)\/(1<=n/\n=wc L R ws cs/\∀c d,1<=wc c d ws cs->wc c d ws cs<n\/wc c d ws cs=n/\lp c d L R=false)
theorem gU.le {ws cs L R n} (h:gU ws cs L R n) (c d:ByteArray):wc c d ws cs<=n:=by
 rcases h with⟨_,_,rfl,h⟩|⟨h1,_,h⟩
 ·exact h c d
 ·by_cases hp:1<=wc c d ws cs
  ·rcases h c d hp with h|h<;>omega
  ·omega
theorem gU.same {ws cs L R n L' R' n'} (h:gU ws cs L R n) (h':gU ws cs L' R' n'):L=L'/\R=R'/\n=n':=by
 have e:=h.le L' R'
 have e':=h'.le L R
 rcases h with⟨rfl,rfl,rfl,h⟩|⟨h1,h2,h⟩<;>rcases h' with⟨rfl,rfl,rfl,h'⟩|⟨h1',h2',h'⟩
 ·exact⟨rfl,rfl,rfl⟩
 ·have:=h L' R';omega
 ·have:=h' L R;omega
 ·rcases h L' R' (by omega) with g|⟨g,g1⟩
  ·omega
  ·rcases h' L R (by omega) with k|⟨k,k1⟩
   ·omega
   ·have:=Et g1 k1
    exact⟨this.1.symm,this.2.symm,by omega⟩
structure Inv (ws:List (List ByteArray)) (cs:List Int) (seen:List eu) (most:Int) (L R:ByteArray):Prop where
 sl:L.size<=1000000
 sr:R.size<=1000000
 is:seen=[]/\most=0/\L=⟨#[]⟩/\R=⟨#[]⟩\/1<=most/\most=wc L R ws cs
 top:∀x∈seen,wc x.f0 x.f1 ws cs<most\/wc x.f0 x.f1 ws cs=most/\lp x.f0 x.f1 L R=false
theorem Inv.new {ws cs seen most L R p q} {n:Int} (h:Inv ws cs seen most L R) (hn:n=wc p q ws cs) (h1:1<=n) (hp:p.size<=1000000) (hq:q.size<=1000000) (hb:most<n\/n=most/\lp p q L R=true):Inv ws cs (seen++[⟨p,q⟩]) n p q:=by
 refine⟨hp,hq,.inr ⟨h1,hn⟩,fun x hx=>?_⟩
 rcases List.mem_append.1 hx with hx|hx
 ·rcases h.top x hx with g|⟨g,g1⟩
  ·exact .inl (by omega)
  ·rcases hb with hb|⟨hb,hb1⟩
   ·exact .inl (by omega)
   ·refine .inr ⟨by omega,Bool.eq_false_iff.2 fun e=>?_⟩
    rw[Eu e hb1] at g1
    cases g1
 ·rw[List.mem_singleton.1 hx]
  exact .inr ⟨hn.symm,ZB p q⟩
theorem Inv.old {ws cs seen most L R p q} {n:Int} (h:Inv ws cs seen most L R) (hn:n=wc p q ws cs) (h1:1<=n) (hb:¬(most<n\/n=most/\lp p q L R=true)):Inv ws cs (seen++[⟨p,q⟩]) most L R:=by
 have h2:¬most<n:=fun e=>hb (.inl e)
 refine⟨h.sl,h.sr,.inr ?_,fun x hx=>?_⟩
 ·rcases h.is with⟨_,g,_⟩|g
  ·omega
  ·exact g
 ·rcases List.mem_append.1 hx with hx|hx
  ·exact h.top x hx
  ·rw[List.mem_singleton.1 hx]
   show wc p q ws cs<most\/wc p q ws cs=most/\lp p q L R=false
   by_cases e:n=most
   ·exact .inr ⟨by omega,Bool.eq_false_iff.2 fun e1=>hb (.inr ⟨e,e1⟩)⟩
   ·exact .inl (by omega)
def Cg (ws:List (List ByteArray)) (cs:List Int) (seen:List eu) (i j:Nat):Prop:=
 ∀(i':Nat) (w:List ByteArray) (c:Int) (j':Nat) (p q:ByteArray),ws[i']?=some w->cs[i']?=some c->1<=c->w[j']?=some p->w[j'+1]?=some q->(i'<i\/i'=i/\j'<j)->(⟨p,q⟩:eu)∈seen
theorem Inv.end {ws cs seen most L R} (h:Inv ws cs seen most L R) {i:Nat} (hc:Cg ws cs seen i 0) (hi:ws.length<=i\/cs.length<=i):gU ws cs L R most:=by
 have key:∀c d,1<=wc c d ws cs->(⟨c,d⟩:eu)∈seen:=fun c d hp=>by
  obtain⟨i',w,n,h1,h2,h3,h4⟩:=tX hp
  obtain⟨j,h5,h6⟩:=EO h4
  have l1:=(List.getElem?_eq_some_iff.1 h1).1
  have l2:=(List.getElem?_eq_some_iff.1 h2).1
  exact hc i' w n j c d h1 h2 h3 h5 h6 (.inl (by omega))
 rcases h.is with⟨rfl,rfl,rfl,rfl⟩|⟨h1,h2⟩
 ·refine .inl ⟨rfl,rfl,rfl,fun c d=>?_⟩
  by_cases hp:1<=wc c d ws cs
  ·exact absurd (key c d hp) (by simp)
  ·omega
 ·exact .inr ⟨h1,h2,fun c d hp=>h.top ⟨c,d⟩ (key c d hp)⟩
def Holds (m:List ((ByteArray×ByteArray)×Int)) (F:ByteArray->ByteArray->Int):Prop:=∀a b,get m (a,b)=if 1<=F a b then some (F a b) else none
theorem Holds.at {m F} (h:Holds m F) {a b:ByteArray} (h0:0<=F a b):(get m (a,b)).getD 0=F a b:=by
 rw[h a b]
 split
 ·rfl
 ·rw[Option.getD_none];omega
theorem Holds.put {m F G} (h:Holds m F) {p q:ByteArray} {n:Int} (hn:1<=n) (hG:∀a b,G a b=if p=a/\q=b then n else F a b):Holds (put m (p,q) n) G:=fun a b=>by
 rw[get_put,hG]
 by_cases e:p=a/\q=b
 ·rw[if_pos (by rw[e.1,e.2]),if_pos e,if_pos hn]
 ·rw[if_neg (fun h=>e (by simpa using h)),if_neg e,h a b]
theorem wc_sizes {ws cs} {M:Nat} (hz:∀w∈ws,∀s∈w,s.size<=M) {p q:ByteArray} (h:1<=wc p q ws cs):p.size<=M/\q.size<=M:=by
 obtain⟨i,w,c,h1,_,_,h4⟩:=tX h
 obtain⟨j,h5,h6⟩:=EO h4
 have hw:=List.mem_of_getElem? h1
 exact⟨hz w hw p (List.mem_of_getElem? h5),hz w hw q (List.mem_of_getElem? h6)⟩
structure Look (ws:List (List ByteArray)) (cs:List Int) (m todo:List ((ByteArray×ByteArray)×Int)) (most:Int) (L R:ByteArray):Prop where
 inv:∃seen,Inv ws cs seen most L R/\∀p∈m,p∈todo\/(⟨p.1.1,p.1.2⟩:eu)∈seen
theorem Look.start (ws cs) (m:List ((ByteArray×ByteArray)×Int)):Look ws cs m m 0 ⟨#[]⟩ ⟨#[]⟩:=⟨[],⟨by decide,by decide,.inl ⟨rfl,rfl,rfl,rfl⟩,by simp⟩,fun p hp=> .inl hp⟩
def qP (ws:List (List ByteArray)) (cs:List Int):Prop:=ws.length<=100000/\rem ws<=100000/\(∀w∈ws,∀s∈w,s.size<=1000000)/\(∀c∈cs,c<=9223372036854775807)/\tot ws cs<=9223372036854775807
instance (ws:List (List ByteArray)) (cs:List Int):Decidable (qP ws cs):=by unfold qP;infer_instance
def prs:List ByteArray->List eu
 |p::q::r=>⟨p,q⟩::prs (q::r)
 |_=>[]
def xE:List (List ByteArray)->List Int->List eu
 |w::ws,c::cs=>(if c<1 then[] else prs w)++xE ws cs
 |_,_=>[]
theorem ZZ {a b:ByteArray}:∀{w:List ByteArray},(⟨a,b⟩:eu)∈prs w↔1<=pc a b w
 |[]=>by simp[prs]
 |[x]=>by simp[prs]
 |p::q::r=>by
  rw[prs,List.mem_cons,ZZ,kM]
  constructor
  ·rintro(h|h)
   ·injection h with h1 h2
    rw[if_pos ⟨h1.symm,h2.symm⟩]
    omega
   ·omega
  ·intro h
   by_cases e:p=a/\q=b
   ·exact .inl (by rw[e.1,e.2])
   ·rw[if_neg e] at h
    exact .inr (by omega)
theorem yS {a b:ByteArray}:∀{ws cs},(⟨a,b⟩:eu)∈xE ws cs↔1<=wc a b ws cs
 |[],_=>by simp[xE,wc]
 |_::_,[]=>by simp[xE,wc]
 |w::ws,c::cs=>by
  have h0:=nR a b ws cs
  rw[xE,List.mem_append,yS,wc]
  by_cases hc:c<1
  ·rw[if_pos hc,if_pos hc]
   simp
  ·rw[if_neg hc,if_neg hc,ZZ]
   have h1:0<=c*(pc a b w:Int):=Int.mul_nonneg (by omega) (by omega)
   constructor
   ·rintro(h|h)
    ·have:c*1<=c*(pc a b w:Int):=Int.mul_le_mul_of_nonneg_left (by omega) (by omega)
     omega
    ·omega
   ·intro h
    by_cases hp:1<=pc a b w
    ·exact .inl hp
    ·have:pc a b w=0:=by omega
     rw[this] at h
     exact .inr (by simpa using h)
def better (ws:List (List ByteArray)) (cs:List Int) (b:ByteArray×ByteArray×Int) (x:eu):ByteArray×ByteArray×Int:=
 if b.2.2<wc x.f0 x.f1 ws cs\/wc x.f0 x.f1 ws cs=b.2.2/\lp x.f0 x.f1 b.1 b.2.1=true then(x.f0,x.f1,wc x.f0 x.f1 ws cs) else b
def GK (ws:List (List ByteArray)) (cs:List Int):ByteArray×ByteArray×Int:=(xE ws cs).foldl (better ws cs) (⟨#[]⟩,⟨#[]⟩,0)
theorem DI {ws:List (List ByteArray)} {cs:List Int} (hz:∀w∈ws,∀s∈w,s.size<=1000000):gU ws cs (GK ws cs).1 (GK ws cs).2.1 (GK ws cs).2.2:=by
 have loop:∀(l seen:List eu) (b:ByteArray×ByteArray×Int),xE ws cs=seen++l->Inv ws cs seen b.2.2 b.1 b.2.1->Inv ws cs (xE ws cs) (l.foldl (better ws cs) b).2.2 (l.foldl (better ws cs) b).1 (l.foldl (better ws cs) b).2.1:=by
  intro l
  induction l with
  |nil=>
   intro seen b e h
   rw[e,List.append_nil]
   exact h
  |cons x l ih=>
   intro seen b e h
   have h1:1<=wc x.f0 x.f1 ws cs:=yS.1 (by rw[e];simp)
   obtain⟨hp,hq⟩:=wc_sizes hz h1
   refine ih (seen++[x]) _ (by rw[e];simp) ?_
   unfold better
   split
   ·rename_i hb
    exact h.new rfl h1 hp hq hb
   ·rename_i hb
    exact h.old rfl h1 hb
 have hI:=loop (xE ws cs) [] (⟨#[]⟩,⟨#[]⟩,0) rfl ⟨by decide,by decide,.inl ⟨rfl,rfl,rfl,rfl⟩,by simp⟩
 have e:(xE ws cs).foldl (better ws cs) (⟨#[]⟩,⟨#[]⟩,0)=GK ws cs:=rfl
 rw[e] at hI
 generalize GK ws cs=b at hI ⊢
 obtain⟨L,R,n⟩:=b
 simp only at hI ⊢
 rcases hI.is with⟨h0,rfl,rfl,rfl⟩|⟨h1,h2⟩
 ·refine .inl ⟨rfl,rfl,rfl,fun c d=>?_⟩
  by_cases hp:1<=wc c d ws cs
  ·have:=yS.2 hp
   rw[h0] at this
   cases this
  ·omega
 ·exact .inr ⟨h1,h2,fun c d hp=>hI.top ⟨c,d⟩ (yS.2 hp)⟩
end Go.Proofs.YtilpincgjlclpaaGreat.gJ
end
section
namespace Go.Proofs.YtilpincgjlclpaaGreat.Ob
open Go Go.RowKit Bs Mp jL Pr
def xV (a b:ByteArray):Int:=if dS (gJ.tx a) (gJ.tx b)=true then-1 else if dS (gJ.tx b) (gJ.tx a)=true then 1 else 0
theorem Tw:∀(a b:List UInt8),(Op.bytesLess a b||a==b)= !Op.bytesLess b a
 |[],[]=>by simp[Op.bytesLess]
 |[],_::_=>by simp[Op.bytesLess]
 |_::_,[]=>by simp[Op.bytesLess]
 |a::x,b::y=>by
  have ih:=Tw x y
  simp only[Op.bytesLess]
  rcases Nat.lt_trichotomy a.toNat b.toNat with h|h|h
  ·have h1:a<b:=h
   have h2:¬b<a:=fun h2=>by have:b.toNat<a.toNat:=h2;omega
   have h3:¬b=a:=fun h3=>by rw[h3] at h;omega
   simp[h1,h2,h3]
  ·have h1:a=b:=UInt8.toNat_inj.1 h
   subst h1
   have h2:¬a<a:=fun h2=>by have:a.toNat<a.toNat:=h2;omega
   have h4:(a::x==a::y)=(x==y):=by simp
   simp only[h2,h4,decide_false,Bool.false_or,beq_self_eq_true,Bool.true_and]
   exact ih
  ·have h1:b<a:=h
   have h2:¬a<b:=fun h2=>by have:a.toNat<b.toNat:=h2;omega
   have h3:¬a=b:=fun h3=>by rw[h3] at h;omega
   simp[h1,h2,h3]
theorem Er:∀(a b:List UInt8),dS a b=Op.bytesLess a b
 |[],[]=>rfl
 |[],_::_=>rfl
 |_::_,[]=>rfl
 |a::x,b::y=>by
  rw[dS,Op.bytesLess]
  by_cases h:a=b
  ·subst h
   have:¬a<a:=fun h2=>by have:a.toNat<a.toNat:=h2;omega
   simp[this,Er x y]
  ·simp[h]
theorem BO (w:World) (n:Nat):Below w.heap.size w (w.drewN n):=⟨rfl,rfl,rfl,Nat.le_refl _,fun _ _=>rfl⟩
theorem isnan_s (a:ByteArray) (w:World):Calls Tryz.prog 193 #[.string a] w fun e w'=>e= .returned (.bool false)/\w'=w:=by
 go_enter Tryz.func193,Tryz.ntmps193
 go_wp2
 go_ret
 exact⟨by simp,rfl⟩
theorem Vn (a b:ByteArray) (w:World):Calls Tryz.prog 225 #[.string a,.string b] w fun e w'=>e= .returned (.int .i64 (xV a b))/\w'=w:=by
 have hn:=isnan_s
 have hl:dS (gJ.tx a) (gJ.tx b)=Op.bytesLess a.toList b.toList:=by rw[Er,gJ.tx,gJ.tx,ByteArray.toList_eq,ByteArray.toList_eq]
 have hg:dS (gJ.tx b) (gJ.tx a)=Op.bytesLess b.toList a.toList:=by rw[Er,gJ.tx,gJ.tx,ByteArray.toList_eq,ByteArray.toList_eq]
 have hx:=Tw a.toList b.toList
 unfold xV
 rw[hl,hg]
 clear hl hg
 cases h1:Op.bytesLess a.toList b.toList with
 |true=>
  clear hx
  go_enter Tryz.func225,Tryz.ntmps225
  go_wp2_with fail
  refine(hn a _).mono ?_
  rintro e w1 ⟨rfl,rfl⟩
  go_wp2_with fail
  refine(hn b _).mono ?_
  rintro e w1 ⟨rfl,rfl⟩
  go_wp2_with fail
  go_ret
  exact⟨rfl,rfl⟩
 |false=>
  rw[h1,Bool.false_or] at hx
  cases h2:Op.bytesLess b.toList a.toList with
  |true=>
   rw[h2] at hx
   simp only[Bool.not_true] at hx
   go_enter Tryz.func225,Tryz.ntmps225
   go_wp2_with fail
   refine(hn a _).mono ?_
   rintro e w1 ⟨rfl,rfl⟩
   go_wp2_with fail
   refine(hn b _).mono ?_
   rintro e w1 ⟨rfl,rfl⟩
   go_wp2_with fail
   go_ret
   exact⟨rfl,rfl⟩
  |false=>
   rw[h2] at hx
   simp only[Bool.not_false] at hx
   go_enter Tryz.func225,Tryz.ntmps225
   go_wp2_with fail
   refine(hn a _).mono ?_
   rintro e w1 ⟨rfl,rfl⟩
   go_wp2_with fail
   refine(hn b _).mono ?_
   rintro e w1 ⟨rfl,rfl⟩
   go_wp2_with fail
   go_ret
   exact⟨rfl,rfl⟩
set_option maxHeartbeats 1000000 in
set_option maxRecDepth 100000 in
theorem VS {B b:Nat} {o:List J} {S:Nat->Prop} {w:World} (h:Sym B w b o S) (hl:o.length<=1000000) {x:Int} (hx:Vl o x):
  Calls Tryz.prog 226 #[.pointer (some ⟨b,0,none⟩),.int .i64 x] w fun e w'=>e= .returned (.string (fI o x))/\Below w.heap.size w w':=by
 obtain⟨i,rfl⟩:∃i:Nat,x=i:=⟨x.toNat,by have:=hx.1;omega⟩
 have ht:=wu h hl (i:=i) (by have:=hx.2;omega)
 have e:fI o (i:Int)=txt o i:=rfl
 rw[e]
 generalize txt o i=t at ht ⊢
 go_enter Tryz.func226,Tryz.ntmps226
 go_wp2_with (go_at_call 121;refine ht.mono ?_;rintro e w1 ⟨rfl,hB1⟩;have HB1:=Lib.hid hB1;clear hB1)
 go_ret
 exact⟨rfl,HB1.out⟩
theorem keepB {B b n:Nat} {o:List J} {S:Nat->Prop} {a1 a2 a3 a4:Addr} {v1 v2 v3 v4:Value} {w U w1:World} (h:Sym B U b o S/\Below n w U/\n<=U.heap.size/\U.cell? a1=some v1/\U.cell? a2=some v2/\U.cell? a3=some v3/\U.cell? a4=some v4) (hB:Below U.heap.size U w1):
  Sym B w1 b o S/\Below n w w1/\n<=w1.heap.size/\w1.cell? a1=some v1/\w1.cell? a2=some v2/\w1.cell? a3=some v3/\w1.cell? a4=some v4:=by
 obtain⟨h0,hb,hn,h1,h2,h3,h4⟩:=h
 exact⟨h0.below hB,hb.trans (hB.mono hn),Nat.le_trans hn hB.size,(hB.cell (World.block_lt_of_cell? _ _ h1)).trans h1,(hB.cell (World.block_lt_of_cell? _ _ h2)).trans h2,(hB.cell (World.block_lt_of_cell? _ _ h3)).trans h3,(hB.cell (World.block_lt_of_cell? _ _ h4)).trans h4⟩
theorem gp (U:World) (ob:Obj):Below U.heap.size U (U.alloc ob):=(Below.refl _ U).alloc (Nat.le_refl _) _
theorem Us {B b:Nat} {o:List J} {S:Nat->Prop} {w:World} {X:Prop} (h:Sym B w b o S/\X) (hl:o.length<=1000000) {x:Int} (hx:Vl o x):
  Calls Tryz.prog 226 #[.pointer (some ⟨b,0,none⟩),.int .i64 x] w fun e w'=>e= .returned (.string (fI o x))/\Below w.heap.size w w':=VS h.1 hl hx
theorem PH (a b:ByteArray) (w:World):Calls Tryz.prog 225 #[.string a,.string b] w fun e w'=>e= .returned (.int .i64 (xV a b))/\Below w.heap.size w w':=
 (Vn a b w).mono fun e w' ⟨h,hw⟩=>⟨h,by rw[hw];exact Below.refl _ _⟩
theorem PG (a b:Int) (w:World):Calls Tryz.prog 132 #[.int .i64 a,.int .i64 b] w fun e w'=>e= .returned (.int .i64 (mU a b))/\Below w.heap.size w w':=
 (nT a b w).mono fun e w' ⟨h,n,hw⟩=>⟨h,by rw[hw];exact BO _ n⟩
theorem or_b (a b:Int) (U:World):Calls Tryz.prog 131 #[.slice (some ⟨U.heap.size,0,none⟩) 2 2] (U.alloc (.cells #[.int .i64 a,.int .i64 b] 3)) fun e w'=>e= .returned (.int .i64 (if a=0 then b else a))/\Below (U.alloc (.cells #[.int .i64 a,.int .i64 b] 3)).heap.size (U.alloc (.cells #[.int .i64 a,.int .i64 b] 3)) w':=
 (Kq a b U).mono fun e w' ⟨h,n,hw⟩=>⟨h,by rw[hw];exact BO _ n⟩
def Mt (o:List J) (p q:P2):Int:=if xV (fI o p.1) (fI o q.1)=0 then xV (fI o p.2) (fI o q.2) else xV (fI o p.1) (fI o q.1)
set_option maxHeartbeats 4000000 in
set_option maxRecDepth 100000 in
theorem QU {B b:Nat} {o:List J} {S:Nat->Prop} {w:World} (h:Sym B w b o S) (hl:o.length<=1000000) {p q:P2} (hp:VP o p) (hq:VP o q):
  Calls Tryz.prog 196 #[.pointer (some ⟨b,0,none⟩),pv p,pv q] w fun e w'=>e= .returned (.int .i64 (Mt o p q))/\Below w.heap.size w w':=by
 obtain⟨p1,p2⟩:=p
 obtain⟨q1,q2⟩:=q
 obtain⟨r,hr⟩:∃r,Mt o (p1,p2) (q1,q2)=r:=⟨_,rfl⟩
 have ho:=fun U=>or_b (xV (fI o p1) (fI o q1)) (xV (fI o p2) (fI o q2)) U
 rw[show(if xV (fI o p1) (fI o q1)=0 then xV (fI o p2) (fI o q2) else xV (fI o p1) (fI o q1))=r from hr] at ho
 rw[hr]
 clear hr
 obtain⟨V,hV⟩:∃V,V=(w.alloc (.cells #[.int .i64 p1,.int .i64 p2] 160)).alloc (.cells #[.int .i64 q1,.int .i64 q2] 160):=⟨_,rfl⟩
 have ji:Below w.heap.size w V:=by rw[hV];exact((Below.refl _ w).alloc (Nat.le_refl _) _).alloc (by simp) _
 have hx:V.heap[w.heap.size]?=some (.cells #[.int .i64 p1,.int .i64 p2] 160 (0,0)):=by rw[hV];exact dw (bG w _) _
 have hy:V.heap[w.heap.size+1]?=some (.cells #[.int .i64 q1,.int .i64 q2] 160 (0,0)):=by
  rw[hV]
  have:=bG (w.alloc (.cells #[.int .i64 p1,.int .i64 p2] 160)) (.cells #[.int .i64 q1,.int .i64 q2] 160)
  rwa[World.size_alloc] at this
 have hS:Sym B V.drew b o S/\Below w.heap.size w V.drew/\w.heap.size<=V.drew.heap.size/\V.drew.cell? ⟨w.heap.size,0,none⟩=some (.int .i64 p1)/\V.drew.cell? ⟨w.heap.size,1,none⟩=some (.int .i64 p2)/\V.drew.cell? ⟨w.heap.size+1,0,none⟩=some (.int .i64 q1)/\V.drew.cell? ⟨w.heap.size+1,1,none⟩=some (.int .i64 q2):=
  ⟨(h.below ji).same fun _ _=>rfl,ji.drew,ji.size,aj hx 0,aj hx 1,aj hy 0,aj hy 1⟩
 have HV:=Lib.hid (And.intro hV ji)
 go_enter Tryz.func196,Tryz.ntmps196
 go_wp2_with fail
 rw[<-hV]
 clear hV hx hy h ji
 have htx:=@Us B b o S
 have hcs:=PH
 go_region_held3 (fun w'=>Sym B w' b o S/\Below w.heap.size w w'/\w.heap.size<=w'.heap.size/\w'.cell? ⟨w.heap.size,0,none⟩=some (.int .i64 p1)/\w'.cell? ⟨w.heap.size,1,none⟩=some (.int .i64 p2)/\w'.cell? ⟨w.heap.size+1,0,none⟩=some (.int .i64 q1)/\w'.cell? ⟨w.heap.size+1,1,none⟩=some (.int .i64 q2)) (first
  |exact hS
  |exact keepB (by assumption) (by assumption)
  |exact keepB (by assumption) (gp _ _)) (first
  |(go_at_call 226;refine(Us (by assumption) hl (by first|exact hp.1|exact hp.2|exact hq.1|exact hq.2)).mono ?_;rintro e w1 ⟨rfl,hB1⟩)
  |(go_at_call 225;refine(hcs _ _ _).mono ?_;rintro e w1 ⟨rfl,hB1⟩)
  |(go_at_call 131;refine(ho _).mono ?_;rintro e w1 ⟨rfl,hB1⟩))
 go_wp2
 go_ret
 exact⟨rfl,And.left (And.right (by assumption:Sym B _ b o S/\Below w.heap.size w _/\_))⟩
end Go.Proofs.YtilpincgjlclpaaGreat.Ob
end
