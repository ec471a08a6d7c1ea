import Derived.Deep.AppendLies
import Derived.Deep.RegionHeldLaw
import Derived.Lib.SlicesCompact
import Derived.Shelf.SlicesE.Clone
import Derived.Shelf.SlicesE.Compact
import Derived.Shelf.SortM.Plain
import Derived.Test.YtilpincgjlclpaaGreatB15
import Derived.Test.YtilpincgjlclpaaGreatB6
set_option linter.unusedVariables false
set_option linter.unusedSimpArgs false
section
namespace Go.Proofs.YtilpincgjlclpaaGreat.Ob
open Go Go.RowKit Bs Mp jL
open Go.Sort Go.Lib
theorem vo (d:Array Int) (x:Int):∀m,x∈compactUpTo d m↔∃j,j<m/\d[j]! =x
 |0=>by simp[compactUpTo]
 |m+1=>by
  rw[compactUpTo_succ,List.mem_append,vo d x m]
  by_cases hk:keeps d m=true
  ·rw[if_pos hk,List.mem_singleton]
   constructor
   ·rintro(⟨j,hj,e⟩|e)
    ·exact⟨j,by omega,e⟩
    ·exact⟨m,by omega,e.symm⟩
   ·rintro⟨j,hj,e⟩
    by_cases h:j=m
    ·subst h;exact .inr e.symm
    ·exact .inl ⟨j,by omega,e⟩
  ·rw[if_neg hk]
   have h2:¬(m=0\/d[m]!≠d[m-1]!):=fun h=>hk (decide_eq_true h)
   simp only[not_or,Decidable.not_not] at h2
   constructor
   ·rintro(⟨j,hj,e⟩|e)
    ·exact⟨j,by omega,e⟩
    ·simp at e
   ·rintro⟨j,hj,e⟩
    by_cases h:j=m
    ·subst h;exact .inl ⟨j-1,by omega,by rw[<-h2.2];exact e⟩
    ·exact .inl ⟨j,by omega,e⟩
theorem DV (d:Array Int) (hs:∀i j,i<=j->j<d.size->d[i]!<=d[j]!):∀m,m<=d.size->(compactUpTo d m).Pairwise (· < ·)
 |0,_=>by simp[compactUpTo]
 |m+1,hm=>by
  rw[compactUpTo_succ]
  have ih:=DV d hs m (by omega)
  by_cases hk:keeps d m=true
  ·rw[if_pos hk]
   refine List.pairwise_append.2 ⟨ih,by simp,fun x hx y hy=>?_⟩
   rw[List.mem_singleton] at hy
   subst hy
   obtain⟨j,hj,rfl⟩:=(vo d x m).1 hx
   have h2:m=0\/d[m]!≠d[m-1]!:=of_decide_eq_true hk
   have h3:=hs j (m-1) (by omega) (by omega)
   have h4:=hs (m-1) m (by omega) (by omega)
   rcases h2 with h2|h2<;>omega
  ·rw[if_neg hk,List.append_nil]
   exact ih
section
variable {α:Type} [Inhabited α] {enc:α->Value}
theorem ED {w:World} {B e n cap g:Nat} (l:List α) (h:w.ownsRow B e 1 (.slice (some ⟨g,0,none⟩) n cap) n (l.map enc)):Holds enc w g 0 l.toArray/\g<w.heap.size:=by
 obtain⟨h1,h2⟩:=h
 rcases h2 with⟨he,_⟩|⟨g',cap',cur,he,hg,hh,hn,hm,hs,ht⟩
 ·cases he
 ·simp at he
  obtain⟨rfl,rfl⟩:=he
  refine⟨fun j hj=>?_,bA hh⟩
  have hj':j<l.length:=by simpa using hj
  rw[Nat.zero_add]
  refine⟨?_,aX hh j⟩
  rw[aj hh]
  have h3:(l.map enc)[j]?=some (enc l[j]):=by rw[List.getElem?_map,List.getElem?_eq_getElem hj'];rfl
  rw[<-ht] at h3
  have hlt:j<n*1:=by
   have:=(List.getElem?_eq_some_iff.1 h3).1
   rw[List.length_take] at this
   omega
  rw[List.getElem?_take_of_lt hlt,Array.getElem?_toList] at h3
  rw[h3]
  simp[hj']
theorem NF {w:World} {B e n cap g m:Nat} {os:Array Obj} {xs:List Value} (h:w.ownsRow B e 1 (.slice (some ⟨g,0,none⟩) n cap) n xs) (d:Array α) (hd:d.size=n):
  (grow (putRow enc (Sort.ahead w m) g 0 d) os).ownsRow B e 1 (.slice (some ⟨g,0,none⟩) n cap) n (d.toList.map enc)/\Fr (fun i=>i=g) w (grow (putRow enc (Sort.ahead w m) g 0 d) os):=by
 obtain⟨h1,h2⟩:=h
 rcases h2 with⟨he,_⟩|⟨g',cap',cur,he,hg,hh,hn,hm,hs,ht⟩
 ·cases he
 ·simp at he
  obtain⟨rfl,rfl⟩:=he
  have hlt:=bA hh
  have hsz:(grow (putRow enc (Sort.ahead w m) g 0 d) os).heap.size=w.heap.size+os.size:=by simp[putRow,mapBlock,grow,ahead]
  have hheap:∀i,i<w.heap.size->(grow (putRow enc (Sort.ahead w m) g 0 d) os).heap[i]?=if g=i then(w.heap[i]?).map (onCells (putCells enc 0 d)) else w.heap[i]?:=fun i hi=>by
   simp only[putRow,mapBlock,grow,ahead]
   rw[Array.getElem?_append_left (by simpa using hi),Array.getElem?_modify]
   rfl
  refine⟨⟨by simp[hd],.inr ⟨g,cap,putCells enc 0 d cur,rfl,hg,?_,hn,hm,by simp[putCells,hs],?_⟩⟩,⟨rfl,rfl,rfl,by rw[hsz];omega,fun i hi hne=>?_⟩⟩
  ·rw[hheap g hlt,if_pos rfl,hh]
   rfl
  ·apply List.ext_getElem?
   intro t
   by_cases ht':t<n*1
   ·rw[List.getElem?_take_of_lt ht',Array.getElem?_toList,List.getElem?_map,Array.getElem?_toList]
    have h3:t<d.size:=by omega
    simp only[putCells,Array.getElem?_mapIdx]
    rw[Array.getElem?_eq_getElem (show t<cur.size by omega),Option.map_some,if_pos ⟨Nat.zero_le _,by rw[Nat.zero_add];exact h3⟩,Nat.sub_zero,Array.getElem?_eq_getElem h3,getElem!_pos _ t h3]
    rfl
   ·rw[List.getElem?_eq_none (by simp;omega),List.getElem?_eq_none (by simp;omega)]
  ·rw[hheap i hi,if_neg (fun e=>hne e.symm)]
end
theorem Qs {w:World} {B e n cap g:Nat} {A C:List Value} (h:w.ownsRow B e 1 (.slice (some ⟨g,0,none⟩) n cap) n (A++C)):w.ownsRow B e 1 (.slice (some ⟨g,0,none⟩) A.length cap) A.length A:=by
 obtain⟨h1,h2⟩:=h
 rcases h2 with⟨he,_⟩|⟨g',cap',cur,he,hg,hh,hn,hm,hs,ht⟩
 ·cases he
 ·simp at he
  obtain⟨rfl,rfl⟩:=he
  rw[List.length_append] at h1
  refine⟨by omega,.inr ⟨g,cap,cur,rfl,hg,hh,by omega,hm,hs,?_⟩⟩
  have h3:=congrArg (List.take (A.length*1)) ht
  rw[List.take_take,Nat.min_eq_left (by omega)] at h3
  rw[h3,Nat.mul_one,List.take_left']
  rfl
theorem Zk:(Tryz.prog.info? 3).map (fun i=>(i.zero,i.size,i.bytes))=some (some (.int .i64 0),1,8):=by kernel_rfl
theorem Zl (l:List Nat):∀u∈ints l,u.oneCell'=true:=fun u hu=>by
 obtain⟨i,_,rfl⟩:=List.mem_map.1 hu
 rfl
theorem Nl (l:List Nat):ints l=(l.map fun i:Nat=>(i:Int)).map (Value.int .i64):=by simp[ints]
theorem RL {l:List Int} (h:l.Pairwise (· <= ·)):∀i j,i<=j->j<l.toArray.size->l.toArray[i]!<=l.toArray[j]!:=by
 intro i j hij hj
 have hj':j<l.length:=by simpa using hj
 have hi':i<l.length:=by omega
 have e1:l.toArray[i]! =l[i]:=by simp[hi']
 have e2:l.toArray[j]! =l[j]:=by simp[hj']
 rw[e1,e2]
 rcases Nat.lt_or_eq_of_le hij with h1|h1
 ·exact List.pairwise_iff_getElem.1 h i j hi' hj' h1
 ·subst h1;exact Int.le_refl _
section
variable {B b cb ab left touched n M:Nat} {w w':World} {vs vc:Value} {tg:Nat->Tag} {gF:List Nat} {am:List (P2×Value)} {ws:List (List Int)} {cs:List Int} {f:P2->Int} {rws:P2->List Nat} {T:Nat->Prop}
theorem PD {C:Nat} {v:Value} {l:List Nat} (h:w.ownsRow C TN 1 v l.length (ints l)) (hv:0<l.length) (hm:l.length<=1000000):
  Calls Tryz.prog 152 #[v] w fun e w'=>∃v',e= .returned v'/\w'.ownsRow w.heap.size TN 1 v' l.length (ints l)/\Below w.heap.size w w':=by
 obtain⟨i0,hi0,hz0,hz1,hz2⟩:=info_parts Zk
 obtain⟨A,cap,rfl⟩:=Bs.bU h
 obtain⟨g,rfl,hg,hgl,hcap,hc,hfz⟩:=gz h hv
 refine(AnyE.slices_Clone Tryz.cloneN i0 _ 1 8 hi0 hz0 hz1 hz2 rfl (by omega) Tryz.sizeOf3 g 0 l.length cap (ints l) w (by simp[ints]) (by unfold maxLen;omega) (by omega) (fun j u hj=>by rw[Nat.zero_add];exact hc j u hj) (Zl _)).mono ?_
 rintro e w' ⟨v',rfl,ho,_,hB⟩
 exact⟨v',rfl,ho,hB⟩
theorem Wo {C:Nat} {v:Value} {l:List Nat} (h:w.ownsRow C TN 1 v l.length (ints l)) (hv:0<l.length) (hm:l.length<=1000000):
  Calls Tryz.prog 153 #[v] w fun e w'=>e= .returned (.tuple #[])/\(∃zs:List Int,zs.Perm (l.map fun i:Nat=>(i:Int))/\zs.Pairwise (· <= ·)/\w'.ownsRow C TN 1 v l.length (zs.map (Value.int .i64)))/\Fr (fun k=>v.ownBlock=some k) w w':=by
 obtain⟨A,cap,rfl⟩:=Bs.bU h
 obtain⟨g,rfl,hg,hgl,hcap,hc,hfz⟩:=gz h hv
 rw[Nl] at h
 have hh:=ED _ h
 have AX:=AnyM.slices_Sort_int Tryz.sortN g 0 cap (l.map fun i:Nat=>(i:Int)) w hh.1 hh.2 (by simp;omega)
 rw[List.length_map] at AX
 refine AX.mono ?_
 rintro e w' ⟨rfl,m,os,rfl⟩
 have hp:=List.mergeSort_perm (l.map fun i:Nat=>(i:Int)) (fun x y=>decide (x<=y))
 have hs:=List.pairwise_mergeSort (le:=fun x y:Int=>decide (x<=y)) (fun a b c h1 h2=>decide_eq_true (Int.le_trans (of_decide_eq_true h1) (of_decide_eq_true h2))) (fun a b=>by rcases Int.le_total a b with h|h<;>simp[h]) (l.map fun i:Nat=>(i:Int))
 obtain⟨h1,h2⟩:=NF (enc:=Value.int .i64) (m:=m) (os:=os) h ((l.map fun i:Nat=>(i:Int)).mergeSort fun x y=>decide (x<=y)).toArray (by simp)
 refine⟨rfl,⟨_,hp,hs.imp fun h=>of_decide_eq_true h,by simpa using h1⟩,h2.mono fun i hi=>by rw[hi];rfl⟩
theorem Jh {C:Nat} {v:Value} {zs:List Int} {l:List Nat} (h:w.ownsRow C TN 1 v l.length (zs.map (Value.int .i64))) (hz:zs.Perm (l.map fun i:Nat=>(i:Int))) (hs:zs.Pairwise (· <= ·)) (hv:0<l.length) (hm:l.length<=1000000):
  Calls Tryz.prog 154 #[v] w fun e w'=>∃v' ys,e= .returned v'/\v'.ownBlock=v.ownBlock/\ys.Nodup/\(∀i,i∈ys↔i∈l)/\w'.ownsRow C TN 1 v' ys.length (ints ys)/\Fr (fun k=>v.ownBlock=some k) w w':=by
 obtain⟨A,cap,rfl⟩:=Bs.bU h
 obtain⟨g,rfl,hg,hgl,hcap,hc,hfz⟩:=gz h hv
 have hl:zs.length=l.length:=by rw[hz.length_eq];simp
 have hh:=ED _ h
 have AX:=AnyE.slices_Compact Tryz.Ye (Value.int .i64) (fun _=>rfl) (EqlAt.intD _ _ _) (NeqAt.intD _ _ _) (0:Int) (fun w=>by kernel_rfl) g 0 cap zs.toArray w hh.1 (by simp;omega) (by simp;omega)
 simp only[List.size_toArray] at AX
 rw[hl] at AX
 refine AX.mono ?_
 rintro e w' ⟨rfl,q,rfl⟩
 have hlen:(compactUpTo zs.toArray l.length).length<=l.length:=by
  unfold compactUpTo
  rw[List.length_map]
  exact Nat.le_trans (List.length_filter_le _ _) (by simp)
 obtain⟨h1,h2⟩:=NF (enc:=Value.int .i64) (m:=q) (os:=#[]) h (compactUpTo zs.toArray l.length++List.replicate (l.length-(compactUpTo zs.toArray l.length).length) (0:Int)).toArray (by simp;omega)
 rw[grow_empty] at h1 h2
 simp only[List.map_append] at h1
 have h3:=Qs h1
 have hmem:∀x,x∈compactUpTo zs.toArray l.length↔x∈zs:=fun x=>by
  rw[vo]
  constructor
  ·rintro⟨j,hj,rfl⟩
   have:j<zs.length:=by omega
   simp[this]
  ·intro hx
   obtain⟨j,hj,rfl⟩:=List.getElem_of_mem hx
   exact⟨j,by omega,by simp[hj]⟩
 have hpw:=DV zs.toArray (RL hs) l.length (by simp;omega)
 obtain⟨ys,hys⟩:∃ys:List Nat,compactUpTo zs.toArray l.length=ys.map fun i:Nat=>(i:Int):=by
  refine⟨(compactUpTo zs.toArray l.length).map Int.toNat,?_⟩
  rw[List.map_map]
  refine(List.map_id _).symm.trans (List.map_congr_left fun x hx=>?_)
  obtain⟨i,_,rfl⟩:=List.mem_map.1 (hz.mem_iff.1 ((hmem x).1 hx))
  simp
 rw[hys] at h2 h3 hmem hpw ⊢
 refine⟨.slice (some ⟨g,0,none⟩) ys.length cap,ys,by rw[List.length_map],rfl,?_,fun i=>?_,?_,h2.mono fun i hi=>by subst hi;rfl⟩
 ·rw[List.pairwise_map] at hpw
  exact hpw.imp fun h e=>by rw[e] at h;omega
 ·constructor
  ·intro hi
   have h4:=hz.mem_iff.1 ((hmem (i:Int)).1 (List.mem_map_of_mem hi))
   obtain⟨j,hj,e⟩:=List.mem_map.1 h4
   rw[show i=j by omega]
   exact hj
  ·intro hi
   obtain⟨j,hj,e⟩:=List.mem_map.1 ((hmem (i:Int)).2 (hz.mem_iff.2 (List.mem_map_of_mem (f:=fun i:Nat=>(i:Int)) hi)))
   rw[show i=j by omega]
   exact hj
 ·rw[Nl]
  simpa using h3
set_option maxHeartbeats 2000000 in
set_option maxRecDepth 100000 in
theorem Zo (h:nL B w b vs vc cb ab tg gF am ws cs f rws left touched n M) (hM:M<=1000000) {p:P2} (hp:lD p.1/\lD p.2) (hr:rws p≠[]):
  Calls Tryz.prog 124 #[.pointer (some ⟨b,0,none⟩),pv p] w fun e w'=>∃(v:Value) (ys:List Nat),e= .returned v/\ys.Nodup/\(∀i,i∈ys↔i∈rws p)/\w'.ownsRow w.heap.size TN 1 v ys.length (ints ys)/\Below w.heap.size w w':=by
 obtain⟨p1,p2⟩:=p
 obtain⟨V,hV⟩:∃V,V=w.alloc (.cells #[.int .i64 p1,.int .i64 p2] 160):=⟨_,rfl⟩
 have ji:Below w.heap.size w V:=by rw[hV];exact(Below.refl _ w).alloc (Nat.le_refl _) _
 have hx:V.heap[w.heap.size]?=some (.cells #[.int .i64 p1,.int .i64 p2] 160 (0,0)):=by rw[hV];exact bG w _
 have h1:=(h.below ji).drew
 obtain⟨v0,hv0⟩:∃v0,Mp.get am (p1,p2)=some v0:=by
  cases hg:Mp.get am (p1,p2) with
  |none=>exact(hr (h.rwn _ hg)).elim
  |some v0=>exact⟨v0,rfl⟩
 obtain⟨hown,_⟩:=h1.rwo _ _ hv0
 have hok:VK.ok (p1,p2):=hp
 have hlk:=h1.amp.look (T:=VK) hok
 rw[hv0] at hlk
 have MM:(Instr.lookup 194 (.map (some ab)) (.agg #[.int .i64 p1,.int .i64 p2]) false).run Tryz.prog V.drew= .ok v0 V.drew:=hlk
 have hpos:0<(rws (p1,p2)).length:=List.length_pos_iff.2 hr
 have yE:(rws (p1,p2)).length<=1000000:=Nat.le_trans (h.RA _).1 hM
 have hcl:=PD hown hpos yE
 have k3:V.cell? ⟨b,3,none⟩=some (.map (some ab)):=aj (h.below ji).blk 3
 have k3d:V.drew.cell? ⟨b,3,none⟩=some (.map (some ab)):=k3
 have x0:V.cell? ⟨w.heap.size,0,none⟩=some (.int .i64 p1):=aj hx 0
 have x1:V.cell? ⟨w.heap.size,1,none⟩=some (.int .i64 p2):=aj hx 1
 have x0d:V.drew.cell? ⟨w.heap.size,0,none⟩=some (.int .i64 p1):=x0
 have x1d:V.drew.cell? ⟨w.heap.size,1,none⟩=some (.int .i64 p2):=x1
 have HB:=Lib.hid ji
 clear h h1 hlk hown hx ji hv0
 generalize rws (p1,p2)=R at *
 go_enter Tryz.func124,Tryz.ntmps124
 go_wp2_with fail
 rw[<-hV]
 clear hV
 go_region_with (go_at_call 152;refine hcl.mono ?_;rintro e w1 ⟨v1,rfl,ho1,hB1⟩;have H1:=Lib.hid (And.intro ho1 hB1);clear ho1 hB1)
 all_goals
  go_wp2_with (first
   |(go_at_call 153;refine(Wo H1.out.1 hpos yE).mono ?_;rintro e w2 ⟨rfl,⟨zs,hz,hs,ho2⟩,hf2⟩;have H2:=Lib.hid (And.intro hz (And.intro hs (And.intro ho2 hf2)));clear hz hs ho2 hf2)
   |(go_at_call 154;refine(Jh H2.out.2.2.1 H2.out.1 H2.out.2.1 hpos yE).mono ?_;rintro e w3 ⟨v3,ys,rfl,VD,hnd,hmm,ho3,hf3⟩;have H3:=Lib.hid (And.intro VD (And.intro hnd (And.intro hmm (And.intro ho3 hf3))));clear VD hnd hmm ho3 hf3))
  go_ret
  obtain⟨VD,hnd,hmm,ho3,hf3⟩:=H3.out
  obtain⟨hz,hs,ho2,hf2⟩:=H2.out
  have PW:Below w.heap.size w w1:=HB.out.drew.trans (H1.out.2.mono HB.out.size)
  have hge:∀g,v1.ownBlock=some g->w.heap.size<=g:=fun g hg=>Nat.le_trans HB.out.size (eG H1.out.1 hg).1
  refine⟨v3,ys,rfl,hnd,hmm,zK ho3 HB.out.size,?_⟩
  exact(PW.trans (hf2.toBelow hge PW.size)).trans (hf3.toBelow hge (Nat.le_trans PW.size hf2.size))
end
end Go.Proofs.YtilpincgjlclpaaGreat.Ob
end
section
namespace Go.Proofs.YtilpincgjlclpaaGreat.Ob
open Go Go.RowKit Bs Mp jL
def pK (i:Nat) (rws lS:P2->List Nat) (P:P2->Prop):Prop:=∀q,(∀j∈rws q,j∈lS q)/\(∀j∈lS q,j∈rws q\/j=i)/\(P q->i∈lS q)
section
variable {B b cb ab left touched n M:Nat} {w w':World} {vs vc:Value} {tg:Nat->Tag} {gF:List Nat} {am:List (P2×Value)} {ws:List (List Int)} {cs:List Int} {f:P2->Int} {rws:P2->List Nat} {T:Nat->Prop}
theorem VG (l:List Nat) (i:Nat):ints (l++[i])=ints l++[.int .i64 (i:Int)]:=by simp[ints]
def rowAt (am:List (P2×Value)) (q:P2):Value:=(Mp.get am q).getD (.slice none 0 0)
theorem nL.row (h:nL B w b vs vc cb ab tg gF am ws cs f rws left touched n M) (q:P2):w.ownsRow B TN 1 (rowAt am q) (rws q).length (ints (rws q))/\∀k,(rowAt am q).ownBlock=some k->tg k= .rw q:=by
 unfold rowAt
 cases hg:Mp.get am q with
 |none=>
  rw[h.rwn q hg]
  exact⟨World.ownsRow_nil _ _ _ _,fun k hk=>by simp[Value.ownBlock] at hk⟩
 |some v=>exact h.rwo q v hg
open Classical in
theorem nL.note (h:nL B w b vs vc cb ab tg gF am ws cs f rws left touched n M) {q:P2} {i:Nat} (hi:i<ws.length) (hMb:M<1000000) {W0 w2 w3:World} {gg cap H:Nat} (hB:Below w.heap.size w W0)
  (hown:w2.ownsRow B TN 1 (.slice (some ⟨gg,0,none⟩) ((rws q).length+1) cap) ((rws q).length+1) (ints (rws q)++[.int .i64 (i:Int)])) (hg:W0.grownBy w2 (rowAt am q).ownBlock) (hat:(rowAt am q).ownBlock=some gg\/gg=H) (hH:w.heap.size<=H) (hlt:gg<w2.heap.size)
  (sH:mp VK w3 ab (Mp.put am q (.slice (some ⟨gg,0,none⟩) ((rws q).length+1) cap))) (BP:Fr (fun k=>k=ab) w2 w3):
  ∃xy Lf lS,nL B w3 b vs vc cb ab xy gF Lf ws cs f lS left touched n (M+1)/\Fr (gZ tg) w w3/\Into w (gZ tg) (gZ xy)/\pK i rws lS (fun r=>r=q):=by
 obtain⟨hrow,hrt⟩:=h.row q
 have hggt:∀k,k=gg->tg k= .rw q\/(tg k= .no/\w.heap.size<=k):=fun k hk=>by
  rcases hat with e|e
  ·exact .inl (hrt k (by rw[hk];exact e))
  ·right
   have hge:w.heap.size<=k:=by omega
   refine⟨?_,hge⟩
   by_cases hn:tg k= .no
   ·exact hn
   ·have:=(h.lt k hn).2;omega
 have hF2:Fr (fun k=>tg k= .rw q) w w2:=(Fr.dL hB).grown hg (fun k hk=> .inl (hrt k hk))
 have qR:Fr (fun k=>tg k= .rw q\/k=ab) w w3:=(hF2.mono (fun i hi=> .inl hi)).trans BP (fun i hi=> .inl (.inr hi))
 have keep:∀{t:Tag} {k:Nat},tg k=t->t≠ .no->t≠ .rw q->t≠ .am->w3.heap[k]?=w.heap[k]?:=fun{t k} h1 h2 h3 h4=>by
  refine qR.blk k (h.lt k (by rw[h1];exact h2)).2 ?_
  rintro(e|e)
  ·exact h3 (by rw[<-h1,e])
  ·exact h4 (by rw[<-h1,e,h.Gw])
 have other:∀{t:Tag} {k:Nat},tg k=t->t≠ .no->t≠ .rw q->(if k=gg then Tag.rw q else tg k)=t:=fun{t k} h1 h2 h3=>by
  rw[if_neg]
  ·exact h1
  ·intro e
   rcases hggt k e with h4|h4
   ·exact h3 (by rw[<-h1,h4])
   ·exact h2 (by rw[<-h1,h4.1])
 have hB1:B<=gg/\gg<w3.heap.size:=⟨(eG hown rfl).1,Nat.lt_of_lt_of_le hlt BP.size⟩
 have hggab:gg≠ab:=by
  intro e
  rcases hggt gg rfl with h4|h4
  ·rw[e,h.Gw] at h4;cases h4
  ·rw[e,h.Gw] at h4;cases h4.1
 refine⟨fun k=>if k=gg then .rw q else tg k,_,fun r=>if r=q then rws q++[i] else rws r,⟨h.lo,h.alo,(keep h.Cc (by simp) (by simp) (by simp)).trans h.blk,other h.Cc (by simp) (by simp),
  iH h.vso fun g hg=>keep (h.Gx g hg) (by simp) (by simp) (by simp),fun k hk=>other (h.Gx k hk) (by simp) (by simp),iH h.vco fun g hg=>keep (h.IG g hg) (by simp) (by simp) (by simp),fun k hk=>other (h.IG k hk) (by simp) (by simp),?_,?_,h.lens,sH,other h.Gw (by simp) (by simp),?_,?_,?_,?_,?_⟩,?_,?_,?_⟩
 ·obtain⟨S,h1,h2⟩:=h.all
  exact⟨S,h1.same fun k hk=>keep (h2 k hk) (by simp) (by simp) (by simp),fun k hk=>other (h2 k hk) (by simp) (by simp)⟩
 ·intro j k u hj hu
  obtain⟨S,h1,h2⟩:=h.sqs j k u hj hu
  exact⟨S,h1.same fun k hk=>keep (h2 k hk) (by simp) (by simp) (by simp),fun k hk=>other (h2 k hk) (by simp) (by simp)⟩
 ·have:=jO (m:=am) (a:=q) (u:=(Value.slice (some ⟨gg,0,none⟩) ((rws q).length+1) cap))
  have:=h.aml
  omega
 ·intro r hr
  rw[get_put] at hr
  by_cases e:q=r
  ·rw[if_pos e] at hr;cases hr
  ·rw[if_neg e] at hr
   simp only[if_neg (fun e2:r=q=>e e2.symm)]
   exact h.rwn r hr
 ·intro r v hr
  rw[get_put] at hr
  by_cases e:q=r
  ·subst e
   rw[if_pos rfl] at hr
   cases hr
   simp only[if_pos,List.length_append,List.length_singleton,VG]
   refine⟨iH hown fun g hg=>?_,fun k hk=>?_⟩
   ·have:gg=g:=by simpa[Value.ownBlock] using hg
    subst this
    exact BP.blk gg hlt hggab
   ·have:gg=k:=by simpa[Value.ownBlock] using hk
    rw[if_pos this.symm]
  ·rw[if_neg e] at hr
   obtain⟨h1,h2⟩:=h.rwo r v hr
   simp only[if_neg (fun e2:r=q=>e e2.symm)]
   have hne:Tag.rw r≠ .rw q:=fun e2=>e (by cases e2;rfl)
   exact⟨iH h1 fun g hg=>keep (h2 g hg) (by simp) hne (by simp),fun k hk=>other (h2 k hk) (by simp) hne⟩
 ·intro r
  have h1:=h.RA r
  by_cases e:r=q
  ·subst e
   simp only[if_pos,List.length_append,List.length_singleton]
   refine⟨by omega,fun j hj=>?_⟩
   rcases List.mem_append.1 hj with hj|hj
   ·exact h1.2 j hj
   ·rw[List.mem_singleton.1 hj];exact hi
  ·simp only[if_neg e]
   exact⟨by omega,h1.2⟩
 ·intro k hk
  by_cases e:k=gg
  ·rw[e];exact hB1
  ·rw[if_neg e] at hk
   exact⟨(h.lt k hk).1,Nat.lt_of_lt_of_le (h.lt k hk).2 qR.size⟩
 ·exact qR.mono fun k hk=>by
   rcases hk with hk|hk
   ·show tg k≠ .no
    rw[hk];simp
   ·show tg k≠ .no
    rw[hk,h.Gw];simp
 ·intro k hk
  by_cases e:k=gg
  ·rcases hggt k e with h4|h4
   ·left
    show tg k≠ .no
    rw[h4];simp
   ·exact .inr h4.2
  ·left
   simpa[if_neg e] using hk
 ·intro r
  by_cases e:r=q
  ·subst e
   simp only[if_pos]
   exact⟨fun j hj=>List.mem_append_left _ hj,fun j hj=>(List.mem_append.1 hj).imp id List.mem_singleton.1,fun _=>by simp⟩
  ·simp only[if_neg e]
   exact⟨fun j hj=>hj,fun j hj=> .inl hj,fun h=>(e h).elim⟩
open Classical in
theorem nL.cnt (h:nL B w b vs vc cb ab tg gF am ws cs f rws left touched n M) {S S':Nat->Prop} {f':P2->Int} {n':Nat} (hS:∀k,S k->tg k= .al) (hC:xq B w' cb f' n' S') (hF:Fr S w w') (hi:Into w S S'):
  ∃xy,nL B w' b vs vc cb ab xy gF am ws cs f' rws left touched n' M/\Fr (gZ tg) w w'/\Into w (gZ tg) (gZ xy):=by
 have ht':∀k,S' k->tg k= .al\/(tg k= .no/\w.heap.size<=k):=fun k hk=>by
  rcases hi k hk with h1|h1
  ·exact .inl (hS k h1)
  ·refine .inr ⟨?_,h1⟩
   by_cases hn:tg k= .no
   ·exact hn
   ·have:=(h.lt k hn).2;omega
 have keep:∀{t:Tag} {k:Nat},tg k=t->t≠ .no->t≠ .al->w'.heap[k]?=w.heap[k]?:=fun{t k} h1 h2 h3=>hF.blk k (h.lt k (by rw[h1];exact h2)).2 (fun e=>h3 (by rw[<-h1,hS k e]))
 have other:∀{t:Tag} {k:Nat},tg k=t->t≠ .no->t≠ .al->(if S' k then Tag.al else tg k)=t:=fun{t k} h1 h2 h3=>by
  rw[if_neg]
  ·exact h1
  ·intro e
   rcases ht' k e with h4|h4
   ·exact h3 (by rw[<-h1,h4])
   ·exact h2 (by rw[<-h1,h4.1])
 refine⟨fun k=>if S' k then .al else tg k,⟨h.lo,h.alo,(keep h.Cc (by simp) (by simp)).trans h.blk,other h.Cc (by simp) (by simp),
  iH h.vso fun g hg=>keep (h.Gx g hg) (by simp) (by simp),fun k hk=>other (h.Gx k hk) (by simp) (by simp),iH h.vco fun g hg=>keep (h.IG g hg) (by simp) (by simp),fun k hk=>other (h.IG k hk) (by simp) (by simp),⟨S',hC,fun k hk=>if_pos hk⟩,?_,h.lens,h.amp.same (keep h.Gw (by simp) (by simp)),other h.Gw (by simp) (by simp),h.aml,h.rwn,?_,h.RA,?_⟩,hF.mono fun k hk=>?_,fun k hk=>?_⟩
 ·intro j k u hj hu
  obtain⟨S,h1,h2⟩:=h.sqs j k u hj hu
  exact⟨S,h1.same fun k hk=>keep (h2 k hk) (by simp) (by simp),fun k hk=>other (h2 k hk) (by simp) (by simp)⟩
 ·intro r v hr
  obtain⟨h1,h2⟩:=h.rwo r v hr
  exact⟨iH h1 fun g hg=>keep (h2 g hg) (by simp) (by simp),fun k hk=>other (h2 k hk) (by simp) (by simp)⟩
 ·intro k hk
  by_cases e:S' k
  ·exact hC.oq k e
  ·rw[if_neg e] at hk
   exact⟨(h.lt k hk).1,Nat.lt_of_lt_of_le (h.lt k hk).2 hF.size⟩
 ·show tg k≠ .no
  rw[hS k hk];simp
 ·by_cases e:S' k
  ·rcases ht' k e with h4|h4
   ·left
    show tg k≠ .no
    rw[h4];simp
   ·exact .inr h4.2
  ·left
   simpa[if_neg e] using hk
theorem pK.refl (i:Nat) (rws:P2->List Nat):pK i rws rws (fun _=>False):=fun q=>⟨fun _ h=>h,fun _ h=> .inl h,fun h=>h.elim⟩
theorem pK.trans {i:Nat} {r1 r2 r3:P2->List Nat} {P Q:P2->Prop} (h:pK i r1 r2 P) (h':pK i r2 r3 Q):pK i r1 r3 (fun q=>P q\/Q q):=fun q=>
 ⟨fun j hj=>(h' q).1 j ((h q).1 j hj),fun j hj=>((h' q).2.1 j hj).elim (fun h1=>(h q).2.1 j h1) .inr,fun hp=>hp.elim (fun h1=>(h' q).1 i ((h q).2.2 h1)) (fun h1=>(h' q).2.2 h1)⟩
theorem pK.imp {i:Nat} {r1 r2:P2->List Nat} {P Q:P2->Prop} (h:pK i r1 r2 P) (hi:∀q,Q q->P q):pK i r1 r2 Q:=fun q=>⟨(h q).1,(h q).2.1,fun hq=>(h q).2.2 (hi q hq)⟩
theorem nL.more (h:nL B w b vs vc cb ab tg gF am ws cs f rws left touched n M) {M':Nat} (hM:M<=M'):nL B w b vs vc cb ab tg gF am ws cs f rws left touched n M':=
 ⟨h.lo,h.alo,h.blk,h.Cc,h.vso,h.Gx,h.vco,h.IG,h.all,h.sqs,h.lens,h.amp,h.Gw,Nat.le_trans h.aml hM,h.rwn,h.rwo,fun q=>⟨Nat.le_trans (h.RA q).1 hM,(h.RA q).2⟩,h.lt⟩
end
end Go.Proofs.YtilpincgjlclpaaGreat.Ob
end
section
namespace Go.Proofs.YtilpincgjlclpaaGreat.Ob
open Go Go.RowKit Bs Mp jL
section
variable {B b cb ab left touched n M:Nat} {w w':World} {vs vc:Value} {tg:Nat->Tag} {gF:List Nat} {am:List (P2×Value)} {ws:List (List Int)} {cs:List Int} {f:P2->Int} {rws:P2->List Nat} {T:Nat->Prop}
theorem ints_at {l:List Nat} {j i:Nat} (h:l[j]?=some i):(ints l)[j]?=some (.int .i64 (i:Int)):=by
 unfold ints
 rw[List.getElem?_map,h]
 rfl
def ChI (B:Nat) (w:World) (b:Nat) (vs vc:Value) (cb ab:Nat) (tg:Nat->Tag) (gF:List Nat) (ws:List (List Int)) (cs:List Int) (f:P2->Int) (rws:P2->List Nat) (left touched n M i:Nat) (A1:List (P2×Int)) (wr:World):Prop:=
 ∃xy Lf lS,nL B wr b vs vc cb ab xy gF Lf ws cs f lS left touched n (M+A1.length)/\Fr (gZ tg) w wr/\Into w (gZ tg) (gZ xy)/\pK i rws lS (fun q=>∃x∈A1,x.1=q/\0<x.2)
set_option maxHeartbeats 4000000 in
set_option maxRecDepth 100000 in
theorem Hu (h:nL B w b vs vc cb ab tg gF am ws cs f rws left touched n M) {i:Nat} {c:Int} (hic:cs[i]?=some c) {v:Value} {xs:List (P2×Int)} {d:P2->Int} {C:Nat} (hv:w.ownsRow C TG 3 v xs.length (xs.flatMap mV)) (hvt:∀g,v.ownBlock=some g->tg g= .no) (hok:BC f d xs c) (hxl:xs.length<=100000) (hn:n<=100000) (hM:M+xs.length<1000000) (hi6:ws.length<=1000000):
    Calls Tryz.prog 113 #[.pointer (some ⟨b,0,none⟩),.int .i64 (i:Int),v] w fun e w'=>∃u xy Lf lS,e= .returned (.tuple #[u,.int .i64 0])/\nL B w' b vs vc cb ab xy gF Lf ws cs (fun q=>f q+d q*c) lS left touched (n+xs.length) (M+xs.length)/\Fr (gZ tg) w w'/\Into w (gZ tg) (gZ xy)/\pK i rws lS (fun q=>0<d q):=by
  have hiw:i<ws.length:=by
    have:=(List.getElem?_eq_some_iff.1 hic).1
    rw[h.lens.2] at this
    exact this
  obtain⟨A,cap,rfl⟩:=bU hv
  obtain⟨i0,hi0,hz0,hz1,hz2⟩:=info_parts Zk
  obtain⟨Ac,cc,hvc⟩:=bU h.vco
  have HVC:=Lib.hid hvc
  clear hvc
  have HH:=Lib.hid h
  have HV:=Lib.hid (And.intro hv hvt)
  have Sg:=Lib.hid hok
  have HIC:=Lib.hid hic
  clear h hv hvt hok hic
  go_enter Tryz.func113,Tryz.ntmps113
  go_wp2_with fail
  go_loopg [13] xs.length (fun gk v13 wr=>∃(A1 R:List (P2×Int)),v13= .int .i64 (A1.length:Int)/\R.length=gk/\Hid (xs=A1++R)/\Hid (ChI B w b vs vc cb ab tg gF ws cs f rws left touched n M i A1 wr))
  case atStart=>exact⟨[],xs,rfl,rfl,Lib.hid rfl,Lib.hid ⟨tg,am,rws,HH.out,Fr.refl _ _,Into.refl _ _,(pK.refl i rws).imp (fun q ⟨x,hx,_⟩=>by simp at hx)⟩⟩
  case round=>
    obtain⟨A1,R,rfl,qy,HX,HI⟩:=hrel
    cases R with
    |nil=>
      have hxe:xs=A1:=by rw[HX.out];simp
      have hge:¬A1.length<xs.length:=by rw[hxe];omega
      have Le:=Lib.hid hxe
      clear hxe
      obtain⟨Ap,XP,zW,h1,hf1,hi1,hn1⟩:=HI.out
      obtain⟨S1,OU,hS1⟩:=h1.all
      have hicl:=(List.getElem?_eq_some_iff.1 HIC.out).1
      obtain⟨gc,hAc,hgc,hgcl,hcc,hcv,hfc⟩:=gz (show wr.ownsRow B TN 1 (.slice Ac cs.length cc) cs.length (cs.map (Value.int .i64)) by rw[<-HVC.out];exact h1.vco) (by omega)
      subst hAc
      have e0:wr.cell? ⟨gc,i,none⟩=some (.int .i64 c):=hcv _ _ (by rw[List.getElem?_map,HIC.out];rfl)
      have e0d:wr.drew.cell? ⟨gc,i,none⟩=some (.int .i64 c):=e0
      have k1:wr.cell? ⟨b,1,none⟩=some (.slice (some ⟨gc,0,none⟩) cs.length cc):=by rw[<-HVC.out];exact aj h1.blk 1
      have k1d:wr.drew.cell? ⟨b,1,none⟩=some (.slice (some ⟨gc,0,none⟩) cs.length cc):=k1
      have k2:wr.cell? ⟨b,2,none⟩=some (.pointer (some ⟨cb,0,none⟩)):=aj h1.blk 2
      have k2d:wr.drew.cell? ⟨b,2,none⟩=some (.pointer (some ⟨cb,0,none⟩)):=k2
      have hov:=hf1.own HV.out.1 (fun g hg e=>e (HV.out.2 g hg))
      have hsep:∀k,(Value.slice A xs.length cap).ownBlock=some k->¬S1 k:=fun k hk hs=>by
        have h7:=hi1 k (show Ap k≠ .no by rw[hS1 k hs];simp)
        rcases h7 with h7|h7
        · exact h7 (HV.out.2 k hk)
        · have:=(eG HV.out.1 hk).2
          omega
      have hap:=Vk (w:=wr.drew) (OU.same fun _ _=>rfl) ((Fr.refl none_ wr).drew.own hov (fun _ _ h=>h)) hsep hxl hn Sg.out
      have HC:=Lib.hid (And.intro h1 (And.intro hf1 (And.intro hi1 (And.intro hn1 hS1))))
      clear h1 hf1 hi1 hn1 OU hS1 hov hsep hcv hfc
      go_wp2_with fail
      go_region_with (go_at_call 142;refine hap.mono ?_;rintro e w2 ⟨u,rfl,S2,hC2,hF2,hI2⟩;have H2:=Lib.hid (And.intro hC2 (And.intro hF2 hI2));clear hC2 hF2 hI2)
      all_goals
        go_wp2
        go_ret2
        obtain⟨h1,hf1,hi1,hn1,hS1⟩:=HC.out
        obtain⟨hC2,hF2,hI2⟩:=H2.out
        obtain⟨tg2,g1,g2,g3⟩:=h1.drew.cnt hS1 hC2 hF2 hI2
        refine⟨u,tg2,XP,zW,rfl,?_,hf1.drew.trans g2 hi1,hi1.trans g3 hf1.size,hn1.imp fun q hq=>?_⟩
        · rw[Le.out] at g1 ⊢
          exact g1
        · have h7:=(Sg.out.chg.is q (d q)).2 ⟨rfl,by omega⟩
          rw[Le.out] at h7
          exact⟨_,h7,rfl,hq⟩
    |cons x R=>
      obtain⟨⟨x1,x2⟩,xc⟩:=x
      obtain⟨gk,rfl⟩:∃g,gk=g+1:=⟨R.length,by simpa using qy.symm⟩
      have hxe:=HX.out
      have hxi:xs[A1.length]?=some ((x1,x2),xc):=by rw[hxe];simp
      have hlt:A1.length<xs.length:=(List.getElem?_eq_some_iff.1 hxi).1
      have hkey:lD x1/\lD x2:=Sg.out.key ((x1,x2),xc) (by rw[hxe];simp)
      obtain⟨Ap,XP,zW,h1,hf1,hi1,hn1⟩:=HI.out
      have hov:=hf1.own HV.out.1 (fun g hg e=>e (HV.out.2 g hg))
      obtain⟨g0,hA,hg0,hg1,hg2,hg3,hg4⟩:=gz hov (by omega)
      have e0:=hg3 _ _ (sD hxi).1
      have e1:=hg3 _ _ (sD hxi).2.1
      have e2:=hg3 _ _ (sD hxi).2.2
      subst hA
      obtain⟨V,hV⟩:∃V,V=wr.alloc (.cells #[.int .i64 x1,.int .i64 x2,.int .i64 xc] TG):=⟨_,rfl⟩
      have ji:Below wr.heap.size wr V:=by rw[hV];exact(Below.refl _ wr).alloc (Nat.le_refl _) _
      have hT:V.heap[wr.heap.size]?=some (.cells #[.int .i64 x1,.int .i64 x2,.int .i64 xc] TG (0,0)):=by rw[hV];exact bG _ _
      have hV1:=h1.below ji
      obtain⟨hrow,hrt⟩:=hV1.row (x1,x2)
      have hok:VK.ok (x1,x2):=hkey
      have hlk:(Instr.lookup 194 (.map (some ab)) (.agg #[.int .i64 x1,.int .i64 x2]) false).run Tryz.prog V.drew= .ok (rowAt XP (x1,x2)) V.drew:=hV1.drew.amp.look (T:=VK) hok
      have k3:V.cell? ⟨b,3,none⟩=some (.map (some ab)):=aj hV1.blk 3
      have k3d:V.drew.cell? ⟨b,3,none⟩=some (.map (some ab)):=k3
      have t0:V.cell? ⟨wr.heap.size,0,none⟩=some (.int .i64 x1):=aj hT 0
      have t1:V.cell? ⟨wr.heap.size,1,none⟩=some (.int .i64 x2):=aj hT 1
      have t2:V.cell? ⟨wr.heap.size,2,none⟩=some (.int .i64 xc):=aj hT 2
      have t0d:V.drew.cell? ⟨wr.heap.size,0,none⟩=some (.int .i64 x1):=t0
      have t1d:V.drew.cell? ⟨wr.heap.size,1,none⟩=some (.int .i64 x2):=t1
      have t2d:V.drew.cell? ⟨wr.heap.size,2,none⟩=some (.int .i64 xc):=t2
      obtain⟨A0,c0,hr0⟩:=bU hrow
      have hlen0:(zW (x1,x2)).length<=1000000:=Nat.le_trans (h1.RA _).1 (by omega)
      obtain⟨R0,hR0⟩:∃R0,zW (x1,x2)=R0:=⟨_,rfl⟩
      rw[hR0] at hr0 hlen0 hrow
      rw[hr0] at hlk hrow
      have HR:=Lib.hid (And.intro h1 (And.intro hf1 (And.intro hi1 (And.intro hn1 (And.intro hV1 (And.intro hT (And.intro ji (And.intro hrow (And.intro hr0 hR0)))))))))
      clear h1 hf1 hi1 hn1 hV1 hT ji hrt hr0 hov hg3 hg4 hxe hxi
      go_wp2_with fail
      rw[<-hV]
      clear hV e0 e1 e2 hR0
      go_region
      by_cases hc:0<xc
      · have dc:decide (xc>0)=true:=decide_eq_true hc
        by_cases hz:R0.length=0
        · have dz:((R0.length:Int)==0)=true:=beq_iff_eq.mpr (by omega)
          have HZ:=Lib.hid hz
          clear hz
          go_wp2_with fail
          have k3dd:V.drew.drew.cell? ⟨b,3,none⟩=some (.map (some ab)):=k3
          have t0dd:V.drew.drew.cell? ⟨wr.heap.size,0,none⟩=some (.int .i64 x1):=t0
          have t1dd:V.drew.drew.cell? ⟨wr.heap.size,1,none⟩=some (.int .i64 x2):=t1
          have hbl:b<wr.heap.size:=bA HR.out.1.blk
          have hwV:wr.heap.size<V.heap.size:=bA HR.out.2.2.2.2.2.1
          have hrb:∀k,(Value.slice A0 R0.length c0).ownBlock=some k->k<wr.heap.size/\k≠b/\k≠ab:=fun k hk=>by
            have h9:=(HR.out.1.row (x1,x2)).2 k (by rw[HR.out.2.2.2.2.2.2.2.2.1];exact hk)
            refine⟨(HR.out.1.lt k (by rw[h9];simp)).2,fun e=>?_,fun e=>?_⟩
            · rw[e,HR.out.1.Cc] at h9;cases h9
            · rw[e,HR.out.1.Gw] at h9;cases h9
          have hnb:some b≠(Value.slice A0 R0.length c0).ownBlock:=fun e=>(hrb b e.symm).2.1 rfl
          have hnx:some wr.heap.size≠(Value.slice A0 R0.length c0).ownBlock:=fun e=>by have:=(hrb _ e.symm).1;omega
          have hna:some ab≠(Value.slice A0 R0.length c0).ownBlock:=fun e=>(hrb ab e.symm).2.2 rfl
          have habl:ab<wr.heap.size:=HR.out.1.amp.lt
          have hblV:b<V.heap.size:=by omega
          have hBlo:B<=V.heap.size+1:=by have:=HR.out.1.lo;omega
          have HRB:=Lib.hid hrb
          clear hrb
          go_region_law
            ((refine step_append_lies _ (by rfl) _ _ _ (by rfl) B TN i0 _ 1 8 Tryz.underlying43 hi0 hz0 hz1 hz2 rfl (by omega) (.slice A0 R0.length c0) R0.length (ints R0) (by rfl) ((Fr.dL (S:=none_) (((Below.refl _ V).drew.drew).alloc (Nat.le_refl _) _)).own HR.out.2.2.2.2.2.2.2.1 (fun _ _ h=>h))
                ⟨V.heap.size,0,none⟩ 1 1 [.int .i64 (i:Int)] (by rfl) (by rfl) (World.news_of_block (cs:=#[.int .i64 (i:Int)]) (t:=TN) (fr:=(0,0)) (heap_alloc_new V.drew.drew _)) (by simp[Value.oneCell'])
                (by omega) (by unfold maxLen;omega) (by omega) (by simp;omega) (V.heap.size+1) (by simp) ?_;intro gg cap2 w2 hown2 hgrow2 kL hlt2;have u3:w2.cell? ⟨b,3,none⟩=some (.map (some ab)):=(hgrow2.cell_far ⟨b,3,none⟩ (by simp;omega) hnb).trans (((((Below.refl _ V).drew.drew).alloc (Nat.le_refl _) _).cell (by simp;omega)).trans k3);have u0:w2.cell? ⟨wr.heap.size,0,none⟩=some (.int .i64 x1):=(hgrow2.cell_far ⟨wr.heap.size,0,none⟩ (by simp;omega) hnx).trans (((((Below.refl _ V).drew.drew).alloc (Nat.le_refl _) _).cell hwV).trans t0);have u1:w2.cell? ⟨wr.heap.size,1,none⟩=some (.int .i64 x2):=(hgrow2.cell_far ⟨wr.heap.size,1,none⟩ (by simp;omega) hnx).trans (((((Below.refl _ V).drew.drew).alloc (Nat.le_refl _) _).cell hwV).trans t1);have hM2:=HR.out.2.2.2.2.1.amp.same (w':=w2) ((hgrow2.block ab (by simp;omega) hna).trans ((((Below.refl _ V).drew.drew).alloc (Nat.le_refl _) _).block ab (show ab<V.heap.size by omega)));obtain⟨w3,hst,sH,BP⟩:=hM2.store (T:=VK) (by have:=HR.out.1.aml;unfold maxLen;omega) hok (.slice (some ⟨gg,0,none⟩) (R0.length+1) cap2);have e9:(Instr.mapUpdate 194 (.map (some ab)) (.agg #[.int .i64 x1,.int .i64 x2]) (.slice (some ⟨gg,0,none⟩) (R0.length+1) cap2)).run Tryz.prog w2= .ok () w3:=hst;have HN:=Lib.hid (And.intro hown2 (And.intro hgrow2 (And.intro kL (And.intro hlt2 (And.intro sH (jI BP))))));clear hown2 hgrow2 kL hlt2 hM2 hst sH BP))
          all_goals
            clear u3 u0 u1 e9 k3 k3d k3dd t0 t0d t0dd t1 t1d t1dd t2 t2d hlk
            go_wp2
            obtain⟨hown2,hgrow2,kL,hlt2,sH,qR⟩:=HN.out
            obtain⟨h1,hf1,hi1,hn1,hV1,hT,ji,hrow,hr0,hR0⟩:=HR.out
            obtain⟨tg2,am2,aan,g1,g2,g3,g4⟩:=h1.note (q:=(x1,x2)) (i:=i) hiw (by omega) (((ji.drew).drew).alloc ji.size _) (by rw[hR0];exact hown2) (by rw[hr0];exact hgrow2) (by rw[hr0];exact kL) (by omega) hlt2 (by rw[hR0];exact sH) qR
            go_roundg R.length
            case measure=>simp at qy;omega
            case rel=>exact⟨A1++[((x1,x2),xc)],R,by simp,rfl,Lib.hid (by rw[HX.out];simp),Lib.hid ⟨tg2,am2,aan,by rw[List.length_append,List.length_singleton,<-Nat.add_assoc];exact g1,hf1.trans g2 hi1,hi1.trans g3 hf1.size,(hn1.trans g4).imp (fun q ⟨x,hx,h9,h10⟩=>by rcases List.mem_append.1 hx with hx|hx;exact .inl ⟨x,hx,h9,h10⟩;rw[List.mem_singleton.1 hx] at h9;exact .inr h9.symm)⟩⟩
        · have dz:((R0.length:Int)==0)=false:=beq_eq_false_iff_ne.mpr (by omega)
          obtain⟨li,hl⟩:∃li,R0[R0.length-1]?=some li:=⟨_,List.getElem?_eq_getElem (by omega)⟩
          obtain⟨g7,Vv,hg7,hg7l,hcap7,hc7,hf7⟩:=gz HR.out.2.2.2.2.2.2.2.1 (by omega)
          subst Vv
          have l7:V.cell? ⟨g7,R0.length-1,none⟩=some (.int .i64 (li:Int)):=hc7 _ _ (ints_at hl)
          have l7d:V.drew.cell? ⟨g7,R0.length-1,none⟩=some (.int .i64 (li:Int)):=l7
          have hw7:wrap64 ((R0.length:Int)-1)=((R0.length-1:Nat):Int):=by unfold wrap64;omega
          have hz1':R0.length-1<R0.length:=by omega
          clear hc7 hf7
          by_cases hli:li=i
          · have dn:((li:Int) != (i:Int))=false:=bne_eq_false_iff_eq.mpr (by omega)
            go_wp2
            obtain⟨h1,hf1,hi1,hn1,hV1,hT,ji,hrow,hr0,hR0⟩:=HR.out
            go_roundg R.length
            case measure=>simp at qy;omega
            case rel=>exact⟨A1++[((x1,x2),xc)],R,by simp,rfl,Lib.hid (by rw[HX.out];simp),Lib.hid ⟨Ap,XP,zW,by rw[List.length_append,List.length_singleton,<-Nat.add_assoc];exact((h1.below ji).drew).more (by omega),(hf1.below ji).drew,hi1,fun q=>⟨(hn1 q).1,(hn1 q).2.1,fun⟨x,hx,h9,h10⟩=>by rcases List.mem_append.1 hx with hx|hx;exact(hn1 q).2.2 ⟨x,hx,h9,h10⟩;rw[List.mem_singleton.1 hx] at h9;rw[<-h9];show i∈zW (x1,x2);rw[hR0,<-hli];exact List.mem_of_getElem? hl⟩⟩⟩
          · have dn:((li:Int) != (i:Int))=true:=bne_iff_ne.mpr (by omega)
            go_wp2_with fail
            have k3dd:V.drew.drew.cell? ⟨b,3,none⟩=some (.map (some ab)):=k3
            have t0dd:V.drew.drew.cell? ⟨wr.heap.size,0,none⟩=some (.int .i64 x1):=t0
            have t1dd:V.drew.drew.cell? ⟨wr.heap.size,1,none⟩=some (.int .i64 x2):=t1
            have hbl:b<wr.heap.size:=bA HR.out.1.blk
            have hwV:wr.heap.size<V.heap.size:=bA HR.out.2.2.2.2.2.1
            have hrb:∀k,(Value.slice (some ⟨g7,0,none⟩) R0.length c0).ownBlock=some k->k<wr.heap.size/\k≠b/\k≠ab:=fun k hk=>by
              have h9:=(HR.out.1.row (x1,x2)).2 k (by rw[HR.out.2.2.2.2.2.2.2.2.1];exact hk)
              refine⟨(HR.out.1.lt k (by rw[h9];simp)).2,fun e=>?_,fun e=>?_⟩
              · rw[e,HR.out.1.Cc] at h9;cases h9
              · rw[e,HR.out.1.Gw] at h9;cases h9
            have hnb:some b≠(Value.slice (some ⟨g7,0,none⟩) R0.length c0).ownBlock:=fun e=>(hrb b e.symm).2.1 rfl
            have hnx:some wr.heap.size≠(Value.slice (some ⟨g7,0,none⟩) R0.length c0).ownBlock:=fun e=>by have:=(hrb _ e.symm).1;omega
            have hna:some ab≠(Value.slice (some ⟨g7,0,none⟩) R0.length c0).ownBlock:=fun e=>(hrb ab e.symm).2.2 rfl
            have habl:ab<wr.heap.size:=HR.out.1.amp.lt
            have hblV:b<V.heap.size:=by omega
            have hBlo:B<=V.heap.size+1:=by have:=HR.out.1.lo;omega
            have HRB:=Lib.hid hrb
            clear hrb
            go_region_law
              ((refine step_append_lies _ (by rfl) _ _ _ (by rfl) B TN i0 _ 1 8 Tryz.underlying43 hi0 hz0 hz1 hz2 rfl (by omega) (.slice (some ⟨g7,0,none⟩) R0.length c0) R0.length (ints R0) (by rfl) ((Fr.dL (S:=none_) (((Below.refl _ V).drew.drew).alloc (Nat.le_refl _) _)).own HR.out.2.2.2.2.2.2.2.1 (fun _ _ h=>h))
                  ⟨V.heap.size,0,none⟩ 1 1 [.int .i64 (i:Int)] (by rfl) (by rfl) (World.news_of_block (cs:=#[.int .i64 (i:Int)]) (t:=TN) (fr:=(0,0)) (heap_alloc_new V.drew.drew _)) (by simp[Value.oneCell'])
                  (by omega) (by unfold maxLen;omega) (by omega) (by simp;omega) (V.heap.size+1) (by simp) ?_;intro gg cap2 w2 hown2 hgrow2 kL hlt2;have u3:w2.cell? ⟨b,3,none⟩=some (.map (some ab)):=(hgrow2.cell_far ⟨b,3,none⟩ (by simp;omega) hnb).trans (((((Below.refl _ V).drew.drew).alloc (Nat.le_refl _) _).cell (by simp;omega)).trans k3);have u0:w2.cell? ⟨wr.heap.size,0,none⟩=some (.int .i64 x1):=(hgrow2.cell_far ⟨wr.heap.size,0,none⟩ (by simp;omega) hnx).trans (((((Below.refl _ V).drew.drew).alloc (Nat.le_refl _) _).cell hwV).trans t0);have u1:w2.cell? ⟨wr.heap.size,1,none⟩=some (.int .i64 x2):=(hgrow2.cell_far ⟨wr.heap.size,1,none⟩ (by simp;omega) hnx).trans (((((Below.refl _ V).drew.drew).alloc (Nat.le_refl _) _).cell hwV).trans t1);have hM2:=HR.out.2.2.2.2.1.amp.same (w':=w2) ((hgrow2.block ab (by simp;omega) hna).trans ((((Below.refl _ V).drew.drew).alloc (Nat.le_refl _) _).block ab (show ab<V.heap.size by omega)));obtain⟨w3,hst,sH,BP⟩:=hM2.store (T:=VK) (by have:=HR.out.1.aml;unfold maxLen;omega) hok (.slice (some ⟨gg,0,none⟩) (R0.length+1) cap2);have e9:(Instr.mapUpdate 194 (.map (some ab)) (.agg #[.int .i64 x1,.int .i64 x2]) (.slice (some ⟨gg,0,none⟩) (R0.length+1) cap2)).run Tryz.prog w2= .ok () w3:=hst;have HN:=Lib.hid (And.intro hown2 (And.intro hgrow2 (And.intro kL (And.intro hlt2 (And.intro sH (jI BP))))));clear hown2 hgrow2 kL hlt2 hM2 hst sH BP))
            all_goals
              clear u3 u0 u1 e9 k3 k3d k3dd t0 t0d t0dd t1 t1d t1dd t2 t2d hlk
              go_wp2
              obtain⟨hown2,hgrow2,kL,hlt2,sH,qR⟩:=HN.out
              obtain⟨h1,hf1,hi1,hn1,hV1,hT,ji,hrow,hr0,hR0⟩:=HR.out
              obtain⟨tg2,am2,aan,g1,g2,g3,g4⟩:=h1.note (q:=(x1,x2)) (i:=i) hiw (by omega) (((ji.drew).drew).alloc ji.size _) (by rw[hR0];exact hown2) (by rw[hr0];exact hgrow2) (by rw[hr0];exact kL) (by omega) hlt2 (by rw[hR0];exact sH) qR
              go_roundg R.length
              case measure=>simp at qy;omega
              case rel=>exact⟨A1++[((x1,x2),xc)],R,by simp,rfl,Lib.hid (by rw[HX.out];simp),Lib.hid ⟨tg2,am2,aan,by rw[List.length_append,List.length_singleton,<-Nat.add_assoc];exact g1,hf1.trans g2 hi1,hi1.trans g3 hf1.size,(hn1.trans g4).imp (fun q ⟨x,hx,h9,h10⟩=>by rcases List.mem_append.1 hx with hx|hx;exact .inl ⟨x,hx,h9,h10⟩;rw[List.mem_singleton.1 hx] at h9;exact .inr h9.symm)⟩⟩
      · have dc:decide (xc>0)=false:=decide_eq_false hc
        go_wp2
        obtain⟨h1,hf1,hi1,hn1,hV1,hT,ji,hrow,hr0,hR0⟩:=HR.out
        go_roundg R.length
        case measure=>simp at qy;omega
        case rel=>exact⟨A1++[((x1,x2),xc)],R,by simp,rfl,Lib.hid (by rw[HX.out];simp),Lib.hid ⟨Ap,XP,zW,by rw[List.length_append,List.length_singleton,<-Nat.add_assoc];exact((h1.below ji).drew).more (by omega),(hf1.below ji).drew,hi1,hn1.imp (fun q ⟨x,hx,h9,h10⟩=>by rcases List.mem_append.1 hx with hx|hx;exact⟨x,hx,h9,h10⟩;rw[List.mem_singleton.1 hx] at h10;exact absurd h10 (by omega))⟩⟩
end
end Go.Proofs.YtilpincgjlclpaaGreat.Ob
end
