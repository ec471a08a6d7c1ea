import Derived.BigRegion
import Derived.Deep.RegionHeld
import Derived.Shelf.GgSortFunc.InsertionK
import Derived.Shelf.SlSortCmp.QuietGrown
import Derived.Test.YtilpincgjlclpaaGreatB11
import Derived.Test.YtilpincgjlclpaaGreatB5
set_option linter.unusedVariables false
set_option linter.unusedSimpArgs false
section
namespace Go.Proofs.YtilpincgjlclpaaGreat.Ob
open Go Go.RowKit Bs jL Go.Proofs.ae.au Pr
open Go.Lib Go.Sort
def mU (a b:Int):Int:=if a<b then-1 else if b<a then 1 else 0
def yU (p q:P2):Int:=if mU p.1 q.1=0 then mU p.2 q.2 else mU p.1 q.1
theorem Vm (a b:Int):cmp_Compare_int.f a b=some (mU a b):=by
 unfold cmp_Compare_int.f cmp_isNaN_int.f mU
 simp
 split
 ·rfl
 ·split<;>first|rfl|omega
theorem nT (a b:Int) (w:World):Calls Tryz.prog 132 #[.int .i64 a,.int .i64 b] w fun e w'=>e= .returned (.int .i64 (mU a b))/\∃n,w'=w.drewN n:=
 (cmp_Compare_int.calls a b _ w (Vm a b)).mono fun e w' h=>⟨h.1,h.2.out⟩
theorem or_f (a b:Int):iD.f 5 [a,b]=some (if a=0 then b else a):=by
 have e3:wrap64 (0+1)=1:=by unfold wrap64;omega
 have e5:wrap64 (1+1)=2:=by unfold wrap64;omega
 have e1:rd [a,b] 0=a:=rfl
 have e4:rd [a,b] 1=b:=rfl
 have el:(([a,b]:List Int).length:Int)=2:=rfl
 rw[iD.f,el,iD.l0,el,if_pos (by omega),if_pos (by omega),if_pos (by omega),e1,e3]
 by_cases h:a=0
 ·rw[if_pos h,if_pos h,iD.l0,el,if_pos (by omega),if_pos (by omega),if_pos (by omega),e4,e5]
  by_cases h2:b=0
  ·rw[if_pos h2,iD.l0,if_neg (by omega),h2]
  ·rw[if_neg h2]
 ·rw[if_neg h,if_neg h]
theorem Kq (a b:Int) (U:World):Calls Tryz.prog 131 #[.slice (some ⟨U.heap.size,0,none⟩) 2 2] (U.alloc (.cells #[.int .i64 a,.int .i64 b] 3)) fun e w'=>e= .returned (.int .i64 (if a=0 then b else a))/\∃n,w'=(U.alloc (.cells #[.int .i64 a,.int .i64 b] 3)).drewN n:=by
 have hh:=bG U (.cells #[.int .i64 a,.int .i64 b] 3)
 refine(iD.calls 5 (some ⟨U.heap.size,0,none⟩) 2 [a,b] _ _ ?_ (by simp) (or_f a b)).mono fun e w' h=>⟨h.1,h.2.out⟩
 refine⟨rfl,by simp,fun _=>⟨_,rfl,fun j p hj=>?_⟩⟩
 match j,hj with
 |0,hj=>
  simp at hj
  subst hj
  refine⟨[.int .i64 a],rfl,rfl,fun i u hu=>?_⟩
  match i,hu with
  |0,hu=>simp at hu;subst hu;exact aj hh 0
 |1,hj=>
  simp at hj
  subst hj
  refine⟨[.int .i64 b],rfl,rfl,fun i u hu=>?_⟩
  match i,hu with
  |0,hu=>simp at hu;subst hu;exact aj hh 1
structure yI (W w':World):Prop where
 out:∃q os',w'=grow (W.drewN q) os'
theorem PV (W:World) (a b c:Obj) (k n:Nat):((((W.alloc a).alloc b).drewN k).alloc c).drewN n=grow (W.drewN (k+n)) (#[a]++#[b]++#[c]):=by
 show(((((W.drewN k).drewN n).alloc a).alloc b).alloc c)=_
 rw[World.drewN_drewN,alloc_eq_grow,alloc_eq_grow,alloc_eq_grow,grow_grow,grow_grow,Array.append_assoc]
theorem Eb (W:World) (a b c:Obj) (k n:Nat):yI W (((((W.alloc a).alloc b).drewN k).alloc c).drewN n):=⟨⟨_,_,PV W a b c k n⟩⟩
set_option maxHeartbeats 4000000 in
set_option maxRecDepth 100000 in
theorem Vi (x y:P2×Int) (W:World):Calls Tryz.prog 177 #[.agg #[.int .i64 x.1.1,.int .i64 x.1.2,.int .i64 x.2],.agg #[.int .i64 y.1.1,.int .i64 y.1.2,.int .i64 y.2]] W fun e w'=>e= .returned (.int .i64 (yU x.1 y.1))/\yI W w':=by
 have hc:=nT
 obtain⟨r,hr⟩:∃r,yU x.1 y.1=r:=⟨_,rfl⟩
 have ho:=fun U=>Kq (mU x.1.1 y.1.1) (mU x.1.2 y.1.2) U
 rw[show(if mU x.1.1 y.1.1=0 then mU x.1.2 y.1.2 else mU x.1.1 y.1.1)=r from hr] at ho
 rw[hr]
 clear hr
 obtain⟨V,hV⟩:∃V,V=(W.alloc (.cells #[.int .i64 x.1.1,.int .i64 x.1.2,.int .i64 x.2] 226)).alloc (.cells #[.int .i64 y.1.1,.int .i64 y.1.2,.int .i64 y.2] 226):=⟨_,rfl⟩
 have hx:V.heap[W.heap.size]?=some (.cells #[.int .i64 x.1.1,.int .i64 x.1.2,.int .i64 x.2] 226 (0,0)):=by rw[hV];exact dw (bG W _) _
 have hy:V.heap[W.heap.size+1]?=some (.cells #[.int .i64 y.1.1,.int .i64 y.1.2,.int .i64 y.2] 226 (0,0)):=by
  rw[hV]
  have:=bG (W.alloc (.cells #[.int .i64 x.1.1,.int .i64 x.1.2,.int .i64 x.2] 226)) (.cells #[.int .i64 y.1.1,.int .i64 y.1.2,.int .i64 y.2] 226)
  rwa[World.size_alloc] at this
 have x0:V.cell? ⟨W.heap.size,0,none⟩=some (.int .i64 x.1.1):=aj hx 0
 have x1:V.cell? ⟨W.heap.size,1,none⟩=some (.int .i64 x.1.2):=aj hx 1
 have y0:V.cell? ⟨W.heap.size+1,0,none⟩=some (.int .i64 y.1.1):=aj hy 0
 have y1:V.cell? ⟨W.heap.size+1,1,none⟩=some (.int .i64 y.1.2):=aj hy 1
 have HV:=Lib.hid hV
 have mixed:Tryz.prog.follows .mixedOrders=true:=by kernel_rfl
 go_enter Tryz.func177,Tryz.ntmps177
 go_wp2_with fail
 rw[<-hV]
 clear hV hx hy
 go_region_held (fun w'=>w'.cell? ⟨W.heap.size,0,none⟩=some (.int .i64 x.1.1)/\w'.cell? ⟨W.heap.size,1,none⟩=some (.int .i64 x.1.2)/\w'.cell? ⟨W.heap.size+1,0,none⟩=some (.int .i64 y.1.1)/\w'.cell? ⟨W.heap.size+1,1,none⟩=some (.int .i64 y.1.2)) (go_keep) (first
  |(go_at_call 132;refine(hc _ _ _).mono ?_;rintro e w1 ⟨rfl,n,rfl⟩)
  |(go_at_call 131;refine(ho (V.drewN _)).mono ?_;rintro e w1 ⟨rfl,n,rfl⟩))
 go_wp2
 go_ret
 exact⟨rfl,by rw[HV.out];exact Eb W _ _ _ _ _⟩
theorem ltP (p q:P2):yU p q<0↔zO p q:=by
 unfold yU mU zO
 by_cases h1:p.1<q.1
 ·rw[if_pos h1];simp[h1]
 ·by_cases h2:q.1<p.1
  ·rw[if_neg h1,if_pos h2];simp;omega
  ·have e:p.1=q.1:=by omega
   rw[if_neg h1,if_neg h2,if_pos rfl]
   by_cases h3:p.2<q.2
   ·rw[if_pos h3];simp;omega
   ·by_cases h4:q.2<p.2
    ·rw[if_neg h3,if_pos h4];simp;omega
    ·rw[if_neg h3,if_neg h4];simp;omega
theorem swoP {α:Type} (f:α->P2):SWO (ltOf fun x y:α=>yU (f x) (f y)) where
 irrefl x:=by unfold ltOf;simp only[decide_eq_false_iff_not,ltP];exact tQ _
 trans x y z h1 h2:=by unfold ltOf at *;simp only[decide_eq_true_eq,ltP] at *;exact Bj h1 h2
 ntrans x y z h1 h2:=by unfold ltOf at *;simp only[decide_eq_false_iff_not,ltP] at *;unfold zO at *;omega
def mV (x:P2×Int):List Value:=[.int .i64 x.1.1,.int .i64 x.1.2,.int .i64 x.2]
theorem Yc (blk off size:Nat) (w:World):CmpLays Tryz.prog 177 #[] mV 3 (fun x y=>yU x.1 y.1) blk off size w:=
 fun _ _ _ _ x y=>(Vi x y _).mono fun _ _ h=>⟨h.1,h.2.out⟩
theorem KM (blk cap:Nat) (d:Array (P2×Int)) (w:World) (hH:HoldsK mV 3 w blk 0 d) (hblk:blk<w.heap.size) (hsz:d.size<4611686018427387904):
  Calls Tryz.prog 176 #[.slice (some ⟨blk,0,none⟩) d.size cap,.func (.func 177) #[] #[]] w fun e w'=>e= .returned (.tuple #[])/\∃d' n os,PermIn 0 d.size d d'/\SortedIn (ltOf fun x y:P2×Int=>yU x.1 y.1) 0 d.size d'/\w'=sortWorldK mV 3 w blk 0 n d' os:=
 AnyQ.slices_SortFunc Tryz.sortC 3 Tryz.isAgg226 Tryz.sizeOf226 mV (fun _=>rfl) (fun x v hv=>by simp[mV] at hv;rcases hv with rfl|rfl|rfl<;>rfl) (fun x y=>yU x.1 y.1) (swoP _) 177 #[] blk 0 cap d w (enters_of Tryz.func177 (by kernel_rfl) rfl) (Yc blk 0 d.size w) hH hblk hsz
theorem Wp (p:Option Addr) (cap:Nat) (fv:Value) (w:World):Calls Tryz.prog 176 #[.slice p 0 cap,fv] w fun e w'=>e= .returned (.tuple #[])/\w'=w:=AnyF.slices_SortFunc_none Tryz.sortC p cap fv w
end Go.Proofs.YtilpincgjlclpaaGreat.Ob
end
section
namespace Go.Proofs.YtilpincgjlclpaaGreat.Ob
open Go Go.RowKit Bs
open Go.Sort
set_option linter.unusedSectionVars false
section
variable {α:Type} [Inhabited α] {enc:α->List Value} {k:Nat}
theorem MG (hk:∀x,(enc x).length=k) (l:List α):(l.flatMap enc).length=l.length*k:=by
 induction l with
 |nil=>simp
 |cons x l ih=>rw[List.flatMap_cons,List.length_append,ih,hk,List.length_cons,Nat.add_mul];omega
theorem zf (hk:∀x,(enc x).length=k) (hk0:0<k):∀(l:List α) (t:Nat),t<l.length*k->(l.flatMap enc)[t]?=some ((enc (l[t/k]!))[t%k]!)
 |[],t,h=>by simp at h
 |x::l,t,h=>by
  rw[List.flatMap_cons]
  by_cases h1:t<k
  ·rw[List.getElem?_append_left (by rw[hk];exact h1),Nat.div_eq_of_lt h1,Nat.mod_eq_of_lt h1]
   have:t<(enc x).length:=by rw[hk];exact h1
   rw[List.getElem?_eq_getElem this]
   simp[this]
  ·obtain⟨s,rfl⟩:∃s,t=s+k:=⟨t-k,by omega⟩
   rw[List.getElem?_append_right (by rw[hk];omega),hk,Nat.add_sub_cancel,zf hk hk0 l s (by rw[List.length_cons,Nat.add_mul] at h;omega),Nat.add_div_right _ hk0,Nat.add_mod_right]
   simp
theorem PT (hk:∀x,(enc x).length=k) (hk0:0<k) (d:Array α):(flatK enc k d).toList=d.toList.flatMap enc:=by
 apply List.ext_getElem?
 intro t
 by_cases ht:t<d.size*k
 ·rw[zf hk hk0 d.toList t (by simpa using ht)]
  have h1:t<(flatK enc k d).size:=by rw[size_flatK];exact ht
  have h2:=get_flatK enc k d t ht
  rw[getElem!_pos _ t h1] at h2
  have h4:d.toList[t/k]! =d[t/k]!:=by
   rw[List.getElem!_eq_getElem?_getD,Array.getElem?_toList,Array.getElem!_eq_getD,Array.getD_eq_getD_getElem?]
  rw[Array.getElem?_toList,Array.getElem?_eq_getElem h1,h2,h4]
 ·rw[List.getElem?_eq_none (by simp;omega),List.getElem?_eq_none (by rw[MG hk];simp;omega)]
theorem Ik {w:World} {B e n cap g:Nat} (hk:∀x,(enc x).length=k) (hk0:0<k) (l:List α) (h:w.ownsRow B e k (.slice (some ⟨g,0,none⟩) n cap) n (l.flatMap enc)):HoldsK enc k w g 0 l.toArray/\g<w.heap.size:=by
 obtain⟨h1,h2⟩:=h
 rcases h2 with⟨he,_⟩|⟨g',cap',cur,he,hg,hh,hn,hm,hs,ht⟩
 ·cases he
 ·simp at he
  obtain⟨rfl,rfl⟩:=he
  refine⟨fun t ht'=>?_,bA hh⟩
  rw[Nat.zero_add]
  rw[size_flatK] at ht'
  refine⟨?_,aX hh t⟩
  rw[aj hh,get_flatK _ _ _ _ ht']
  have h3:=zf hk hk0 l t (by simpa using ht')
  rw[<-ht] at h3
  have hlt:t<n*k:=by
   have:=(List.getElem?_eq_some_iff.1 h3).1
   rw[List.length_take] at this
   omega
  rw[List.getElem?_take_of_lt hlt,Array.getElem?_toList] at h3
  rw[h3]
  simp
theorem NG {w:World} {B e n cap g m:Nat} {os:Array Obj} (hk:∀x,(enc x).length=k) (hk0:0<k) {xs:List Value} (h:w.ownsRow B e k (.slice (some ⟨g,0,none⟩) n cap) n xs) (d:Array α) (hd:d.size=n):
  (sortWorldK enc k w g 0 m d os).ownsRow B e k (.slice (some ⟨g,0,none⟩) n cap) n (d.toList.flatMap enc)/\Fr (fun i=>i=g) w (sortWorldK enc k w g 0 m d os):=by
 obtain⟨h1,h2⟩:=h
 rcases h2 with⟨he,_⟩|⟨g',cap',cur,he,hg,hh,hn,hm,hs,ht⟩
 ·cases he
 ·simp at he
  obtain⟨rfl,rfl⟩:=he
  have hlt:=bA hh
  have hsz:(sortWorldK enc k w g 0 m d os).heap.size=w.heap.size+os.size:=by simp[sortWorldK,putRowK,putRow,mapBlock,grow,ahead]
  have hheap:∀i,i<w.heap.size->(sortWorldK enc k w g 0 m d os).heap[i]?=if g=i then(w.heap[i]?).map (onCells (putCells id 0 (flatK enc k d))) else w.heap[i]?:=fun i hi=>by
   simp only[sortWorldK,putRowK,putRow,mapBlock,grow,ahead]
   rw[Array.getElem?_append_left (by simpa using hi),Array.getElem?_modify]
   rfl
  refine⟨⟨by rw[MG hk];simp[hd],.inr ⟨g,cap,putCells id 0 (flatK enc k d) cur,rfl,hg,?_,hn,hm,by simp[putCells,hs],?_⟩⟩,⟨rfl,rfl,rfl,by rw[hsz];omega,fun i hi hne=>?_⟩⟩
  ·rw[hheap g hlt,if_pos rfl,hh]
   rfl
  ·rw[<-PT hk hk0]
   apply List.ext_getElem?
   intro t
   have hcz:n*k<=cur.size:=by rw[hs];exact Nat.mul_le_mul_right k hn
   by_cases ht':t<n*k
   ·rw[List.getElem?_take_of_lt ht',Array.getElem?_toList,Array.getElem?_toList]
    have h3:t<(flatK enc k d).size:=by rw[size_flatK,hd];exact ht'
    simp only[putCells,Array.getElem?_mapIdx]
    rw[Array.getElem?_eq_getElem (show t<cur.size by omega),Option.map_some,if_pos ⟨Nat.zero_le _,by rw[Nat.zero_add];exact h3⟩,Nat.sub_zero,Array.getElem?_eq_getElem h3,getElem!_pos _ t h3]
    rfl
   ·rw[List.getElem?_eq_none (by simp;omega),List.getElem?_eq_none (by simp[hd];omega)]
  ·rw[hheap i hi,if_neg (fun e=>hne e.symm)]
end
end Go.Proofs.YtilpincgjlclpaaGreat.Ob
end
section
namespace Go.Proofs.YtilpincgjlclpaaGreat.Ob
open Go Go.RowKit Bs Mp jL
open Go.Sort (PermIn SortedIn HoldsK)
abbrev TG:Nat:=226
structure UQ (d:P2->Int) (xs:List (P2×Int)):Prop where
 srt:(xs.map Prod.fst).Pairwise zO
 is:∀q c,(q,c)∈xs↔c=d q/\c≠0
theorem infoC:(Tryz.prog.info? 226).map (fun i=>(i.zero,i.size,i.bytes))=some (some (.agg #[.int .i64 0,.int .i64 0,.int .i64 0]),3,24):=by kernel_rfl
theorem zN {κ β:Type} [DecidableEq κ] {x:κ} {v:β}:∀{m:List (κ×β)},(m.map Prod.fst).Nodup->(x,v)∈m->m.Perm ((x,v)::Mp.del m x)
 |[],_,h=>by simp at h
 |y::m,hn,h=>by
  rw[List.map_cons,List.nodup_cons] at hn
  unfold Mp.del
  rcases List.mem_cons.1 h with h1|h1
  ·subst h1
   rw[List.filter_cons_of_neg (by simp),List.filter_eq_self.2 (fun q hq=>by
    simp only[decide_eq_true_eq]
    exact fun e=>hn.1 (List.mem_map.2 ⟨q,hq,e⟩))]
  ·have hne:y.1≠x:=fun e=>hn.1 (List.mem_map.2 ⟨_,h1,e.symm⟩)
   rw[List.filter_cons_of_pos (by simpa using hne)]
   exact((zN hn.2 h1).cons y).trans (List.Perm.swap _ _ _)
theorem EP {κ β:Type} [DecidableEq κ] {x:κ} {v:β} {m done todo:List (κ×β)} (hp:(done++todo).Perm m) (hn:(todo.map Prod.fst).Nodup) (h:(x,v)∈todo):((done++[(x,v)])++Mp.del todo x).Perm m:=by
 refine List.Perm.trans ?_ hp
 rw[List.append_assoc]
 exact(zN hn h).symm.append_left done
theorem UQ.of {d:P2->Int} {m:List (P2×Int)} (hN:Nz m d) (hn:(m.map Prod.fst).Nodup) {xs:List (P2×Int)} (hp:xs.Perm m) (hs:xs.Pairwise fun x y=>¬zO y.1 x.1):UQ d xs:=by
 have hmem:∀q c,(q,c)∈m↔c=d q/\c≠0:=fun q c=>by
  constructor
  ·intro h
   have h1:=tH hn h
   rw[hN q] at h1
   split at h1
   ·cases h1
   ·cases h1;exact⟨rfl,by assumption⟩
  ·rintro⟨rfl,h0⟩
   have h1:=hN q
   rw[if_neg h0] at h1
   exact get_mem h1
 refine⟨?_,fun q c=>(hp.mem_iff).trans (hmem q c)⟩
 have hn2:(xs.map Prod.fst).Nodup:=(hp.map Prod.fst).nodup_iff.2 hn
 rw[List.pairwise_map]
 refine(hs.and (List.pairwise_map.1 hn2)).imp ?_
 rintro x y ⟨h1,h2⟩
 rcases Kw x.1 y.1 with h|h|h
 ·exact h
 ·exact(h2 h).elim
 ·exact(h1 h).elim
theorem BZ {α:Type} [Inhabited α] {lt:α->α->Bool} {d:Array α} (h:SortedIn lt 0 d.size d):d.toList.Pairwise fun x y=>lt y x=false:=by
 rw[List.pairwise_iff_getElem]
 intro i j hi hj hij
 have:=h i j (by omega) hij (by simpa using hj)
 rw[getElem!_pos d i (by simpa using hi),getElem!_pos d j (by simpa using hj)] at this
 simpa using this
theorem tN {P:Program} {κ β:Type} {T:Kv P κ β} {w:World} {B n sz b r:Nat} {e:TypeId} {v:Value} {xs:List Value} {m todo:List (κ×β)} (ho:w.ownsRow B e sz v n xs) (hr:ow T w b r m todo):v.ownBlock≠some r:=by
 obtain⟨es,clock,since,seen,c0,_,_,hr,_⟩:=hr
 rcases ho.2 with⟨rfl,_⟩|⟨g,cap,cur,rfl,_,hh,_⟩
 ·simp[Value.ownBlock]
 ·intro e
  have:g=r:=by simpa[Value.ownBlock] using e
  rw[this,hr] at hh
  cases hh
theorem Ij {w w':World} {B n sz:Nat} {e:TypeId} {v:Value} {xs:List Value} {row:Option Nat} (ho:w.ownsRow B e sz v n xs) (hg:w.grownBy w' row) (hn:∀r,row=some r->v.ownBlock≠some r):w'.ownsRow B e sz v n xs:=by
 obtain⟨h1,h2⟩:=ho
 refine⟨h1,?_⟩
 rcases h2 with h2|⟨g,cap,cur,rfl,hb,hh,r⟩
 ·exact .inl h2
 ·exact .inr ⟨g,cap,cur,rfl,hb,(hg.block g (bA hh) (fun e=>hn g e.symm rfl)).trans hh,r⟩
theorem aas {B:Nat} {w:World} {v:Value} {l:List (P2×Int)} (h:w.ownsRow B TG 3 v l.length (l.flatMap mV)) (hl:l.length<=1000000):
  Calls Tryz.prog 176 #[v,.func (.func 177) #[] #[]] w fun e w'=>e= .returned (.tuple #[])/\∃xs:List (P2×Int),xs.Perm l/\(xs.Pairwise fun x y=>¬zO y.1 x.1)/\w'.ownsRow B TG 3 v l.length (xs.flatMap mV)/\Fr (fun k=>v.ownBlock=some k) w w':=by
 obtain⟨A,c,rfl⟩:=bU h
 by_cases hd:l=[]
 ·subst hd
  exact(Wp A c _ w).mono fun e w' h1=>⟨h1.1,[],List.Perm.refl _,List.Pairwise.nil,by rw[h1.2];exact h,by rw[h1.2];exact Fr.refl _ _⟩
 ·obtain⟨g0,rfl,_⟩:=gz h (List.length_pos_iff.2 hd)
  have hh:=Ik (enc:=mV) (fun _=>rfl) (by omega) l h
  have hs:=KM g0 c l.toArray w hh.1 hh.2 (by simp;omega)
  simp only[List.size_toArray] at hs
  refine hs.mono ?_
  rintro e w' ⟨rfl,d',nn,os,hp,hst,rfl⟩
  have hsz:d'.size=l.length:=by have:=hp.1;simpa using this
  have ho:=NG (m:=nn) (os:=os) (enc:=mV) (fun _=>rfl) (by omega) h d' hsz
  refine⟨rfl,d'.toList,?_,?_,ho.1,ho.2.mono fun i hi=>by rw[hi];rfl⟩
  ·have:=hp.2.2
   have ht:List.take l.length d'.toList=d'.toList:=List.take_of_length_le (by simp[hsz])
   simpa[hsz,ht] using this
  ·refine(BZ (by rw[hsz];exact hst)).imp fun{a b} hab=>?_
   unfold ltOf at hab
   simpa[ltP] using hab
set_option maxHeartbeats 2000000 in
set_option maxRecDepth 100000 in
theorem Nw {B g n:Nat} {w:World} {d:P2->Int} (h:xC B w g d n) (hn:n<=1000000):
  Calls Tryz.prog 144 #[.map (some g)] w fun e w'=>∃v xs,e= .returned v/\w'.ownsRow w.heap.size TG 3 v xs.length (xs.flatMap mV)/\UQ d xs/\xs.length<=n/\Below w.heap.size w w':=by
 obtain⟨m,hM,hB,hN,hl,hb⟩:=h.out
 obtain⟨i0,hx,hx0,hx1,hx2⟩:=info_parts infoC
 have hnd:=hM.nodup
 have hgl:=hM.lt
 go_enter Tryz.func144,Tryz.ntmps144
 go_wp2_with (at_range;refine oH (T:=kvL) _ rfl _ 253 rfl rfl rfl hM ?_;intro w3 hr3 hg3 hs3;clear hs3)
 have HB3:=Lib.hid ((Below.refl w.heap.size w).grown hg3 (Nat.le_refl _) (fun k e=>by cases e))
 have HR3:=Lib.hid hr3
 have HN:=Lib.hid hN
 have HND:=Lib.hid hnd
 clear hr3 hg3 hM hN hnd hb
 try go_frame
 go_loopw [3] (fun v3 wr=>∃(v:Value) (done todo:List (P2×Int)),v3=v/\Hid (ow kvL wr g w.heap.size m todo)/\Hid (wr.ownsRow w.heap.size TG 3 v done.length (done.flatMap mV))/\Hid ((done++todo).Perm m)/\Hid (Below w.heap.size w wr)) (fun _ wr=>wr.rangeLeft g w.heap.size)
 case atStart=>exact⟨_,[],m,rfl,HR3,World.ownsRow_nil _ _ _ _,List.Perm.refl _,HB3⟩
 case round=>
  obtain⟨v,done,todo,rfl,HR,HO,HP,HB⟩:=hrel
  go_wp2_with (at_next;refine qh (T:=kvL) _ rfl _ rfl rfl HR.out pv (Value.int .i64) rfl rfl ?_ ?_)
  ·intro ht
   subst ht
   have hP2:=HP.out
   rw[List.append_nil] at hP2
   have hlen:done.length<=n:=by rw[hP2.length_eq];exact hl
   have hsr:=aas HO.out (by omega)
   have HS:=Lib.hid hP2
   clear hP2
   go_wp2_with (go_at_call 176;refine hsr.mono ?_;rintro e w5 ⟨rfl,xs,hxp,hxs,hxo,hxf⟩;have HX:=Lib.hid (And.intro hxp (And.intro hxs (And.intro hxo hxf)));clear hxp hxs hxo hxf)
   go_ret
   obtain⟨hxp,hxs,hxo,hxf⟩:=HX.out
   refine⟨_,xs,rfl,by rw[hxp.length_eq];exact hxo,UQ.of HN.out HND.out (hxp.trans HS.out) hxs,by rw[hxp.length_eq];exact hlen,?_⟩
   exact HB.out.trans (hxf.toBelow (fun i hi=>(eG HO.out hi).1) HB.out.size)
  ·intro p1 p2 c w4 hx4 hr4 hg4 hs4 hen
   clear hs4
   have Ao:=Ij HO.out hg4 (fun r e=>by cases e;exact tN HO.out HR.out)
   have hlt:done.length<m.length:=by
    have h1:=HP.out.length_eq
    rw[List.length_append] at h1
    have h2:=List.length_pos_of_mem hx4
    omega
   have wG:=Lib.hid (HB.out.grown hg4 HB.out.size (fun k e=>by cases e;exact Nat.le_refl _))
   have HP4:=Lib.hid (EP HP.out (List.Nodup.sublist (HR.out.sub.map Prod.fst) HND.out) hx4)
   have HL4:=Lib.hid (nE hx4)
   have HR4:=Lib.hid hr4
   clear hx4 hr4 hg4
   obtain⟨A,cc,rfl⟩:=bU Ao
   go_wp2_with (at_builtin;refine wpList_append_own_at _ rfl _ _ 202 rfl w.heap.size TG i0 (.agg #[.int .i64 0,.int .i64 0,.int .i64 0]) 3 24 Tryz.underlying202 hx hx0 hx1 hx2 rfl (by decide) _ _ _ rfl ((Ao.alloc _).alloc _) _ 1 1 (mV ((p1,p2),c)) rfl rfl ?c1 ?c2 ?c3 ?c4 ?c5 ?_)
   case c1=>have h9:=mr (w4.alloc (.cells #[.int .i64 p1,.int .i64 p2] 160)) (mV ((p1,p2),c)) 226;rw[World.size_alloc] at h9;exact h9
   case c2=>intro u hu;simp[mV] at hu;rcases hu with rfl|rfl|rfl<;>rfl
   case c3=>unfold maxLen;omega
   case c4=>omega
   case c5=>have:=wG.out.size;simp;omega
   intro v' w6 hown6 iZ _ AV
   have hne:=tN Ao HR4.out
   have HR6:=Lib.hid (((HR4.out.alloc (.cells #[.int .i64 p1,.int .i64 p2] 160)).alloc (.cells (mV ((p1,p2),c)).toArray 226)).same (iZ.block g (by have:=HR4.out.mp.lt;simp;omega) (fun e=>by
    have:=(eG Ao e.symm).1
    omega)) (iZ.block w.heap.size (by have:=HR4.out.lt;simp;omega) (fun e=>hne e.symm)))
   have yJ:=Lib.hid (((wG.out.alloc wG.out.size (.cells #[.int .i64 p1,.int .i64 p2] 160)).alloc (by have:=wG.out.size;simp;omega) (.cells (mV ((p1,p2),c)).toArray 226)).grown iZ (by have:=wG.out.size;simp;omega) (fun k e=>(eG Ao e).1))
   have HO6:=Lib.hid hown6
   clear iZ hown6 AV hne
   go_wp2
   go_roundw
   case rel=>exact⟨v',done++[((p1,p2),c)],del todo (p1,p2),rfl,HR6.out,by rw[List.length_append,List.flatMap_append];exact Lib.hid (by simpa using HO6.out),HP4.out,yJ.out⟩
   case measure=>rw[ow.left HR6.out,ow.left HR.out];exact HL4.out
end Go.Proofs.YtilpincgjlclpaaGreat.Ob
end
section
namespace Go.Proofs.YtilpincgjlclpaaGreat.Ob
open Go Go.RowKit Bs Mp jL
open Pr (gu.f gu.calls)
abbrev TD:Nat:=246
def xq (B:Nat) (w:World) (b:Nat) (f:P2->Int) (n:Nat) (S:Nat->Prop):Prop:=
 ∃v m,B<=b/\w.heap[b]?=some (.cells #[v] TD (0,0))/\(v= .map none/\m=[]\/∃g,v= .map (some g)/\B<=g/\mp ou w g m)/\Nz m f/\m.length<=n/\(∀q,0<=f q/\f q<=9223372036854775807)/\(∀x∈m,lD x.1.1/\lD x.1.2)/\
  S=fun k=>k=b\/v= .map (some k)
section
variable {B b n:Nat} {f:P2->Int} {S T:Nat->Prop} {w w':World}
theorem xq.oq (h:xq B w b f n S):In B w S:=by
 obtain⟨v,m,hB,hb,hm,_,_,_,_,rfl⟩:=h
 intro k hk
 rcases hk with rfl|rfl
 ·exact⟨hB,bA hb⟩
 ·rcases hm with⟨e,_⟩|⟨g,e,hg,hM⟩
  ·cases e
  ·cases e
   exact⟨hg,hM.lt⟩
theorem xq.same (h:xq B w b f n S) (he:∀k,S k->w'.heap[k]?=w.heap[k]?):xq B w' b f n S:=by
 obtain⟨v,m,hB,hb,hm,h1,h2,h3,h4,rfl⟩:=h
 refine⟨v,m,hB,(he b (.inl rfl)).trans hb,?_,h1,h2,h3,h4,rfl⟩
 rcases hm with hm|⟨g,rfl,hg,hM⟩
 ·exact .inl hm
 ·exact .inr ⟨g,rfl,hg,hM.same (he g (.inr rfl))⟩
theorem xq.fr (h:xq B w b f n S) (f1:Fr T w w') (d:Sep T S):xq B w' b f n S:=h.same (Dc f1 h.oq d)
theorem xq.below (h:xq B w b f n S) (f1:Below w.heap.size w w'):xq B w' b f n S:=h.same fun k hk=>f1.block k (h.oq k hk).2
theorem xq.is (h:xq B w b f n S):∀q,0<=f q/\f q<=9223372036854775807:=by
 obtain⟨v,m,hB,hb,hm,h1,h2,h3,h4,rfl⟩:=h
 exact h3
end
theorem Zz {B:Nat} {w:World} {m:List (P2×Int)} {v:Value} (hm:v= .map none/\m=[]\/∃g,v= .map (some g)/\B<=g/\mp ou w g m) {p:P2} (hp:lD p.1/\lD p.2):
  (Instr.lookup 207 v (pv p) false).run Tryz.prog w= .ok (.int .i64 ((Mp.get m p).getD 0)) w:=by
 rcases hm with⟨rfl,rfl⟩|⟨g,rfl,hg,hM⟩
 ·have hz:=ou.hz w
  obtain⟨l,hl⟩:=ou.key p hp
  have hc:=ou.law.check w true hl
  have hfd:(Instr.findKey 160 (pv p) []).run Tryz.prog w= .ok none w:=by
   rcases ou.law.find w hl [] (by simp) with h|⟨j,e,_,h,_⟩
   ·exact h.1
   ·simp at h
  simp only[ou] at hz hc
  simp[Instr.lookup,run_underlying Tryz.underlying207,hc,hz,hfd,Result.andThen,Mp.get]
 ·exact hM.look (T:=ou) hp
set_option maxHeartbeats 1000000 in
set_option maxRecDepth 100000 in
theorem Je {B b n:Nat} {f:P2->Int} {S:Nat->Prop} {w:World} (h:xq B w b f n S) {p:P2} (hp:lD p.1/\lD p.2):
  Calls Tryz.prog 119 #[.pointer (some ⟨b,0,none⟩),pv p] w fun e w'=>e= .returned (.int .i64 (f p))/\Below w.heap.size w w':=by
 obtain⟨p1,p2⟩:=p
 have h':=h.below ((Below.refl _ w).alloc (Nat.le_refl _) (.cells #[.int .i64 p1,.int .i64 p2] 160))
 obtain⟨v,m,hB,hb,hm,h1,h2,h3,h4,rfl⟩:=h'
 have hlk:=Zz (w:=(w.alloc (.cells #[.int .i64 p1,.int .i64 p2] 160)).drew) (m:=m) (v:=v) (by
  rcases hm with hm|⟨g,e,hg,hM⟩
  ·exact .inl hm
  ·exact .inr ⟨g,e,hg,hM.drew⟩) hp
 rw[h1.at] at hlk
 have yE:v.cells=#[v]:=by rcases hm with⟨rfl,_⟩|⟨g,rfl,_⟩<;>rfl
 have cb:(w.alloc (.cells #[.int .i64 p1,.int .i64 p2] 160)).cell? ⟨b,0,none⟩=some v:=aj hb 0
 generalize f (p1,p2)=fp at hlk ⊢
 clear h hm h1 h2 h3 h4 hb
 go_enter Tryz.func119,Tryz.ntmps119
 go_wp2
 go_region
 go_wp2
 go_ret
 exact⟨rfl,((Below.refl _ w).alloc (Nat.le_refl _) _).drew⟩
theorem eqSomeP (g:Nat) (w:World):(binOp .eql 207 (.map (some g)) (.map none)).run Tryz.prog w= .ok (.bool false) w:=by kernel_rfl
theorem eqNoneP (w:World):(binOp .eql 207 (.map none) (.map none)).run Tryz.prog w= .ok (.bool true) w:=by kernel_rfl
open Pr Go.Proofs.ae.au in
theorem sum_f {n c k:Int} (hn:0<=n/\n<=9223372036854775807) (hc: -1000000<=c/\c<=1000000) (hk:0<=k/\k<=9223372036854775807) (h1:c*k<=9223372036854775807) (h2: -9223372036854775807<=c*k) (h3:0<=n+c*k) (h4:n+c*k<=9223372036854775807):gu.f 1 n c k=some (n+c*k,true):=by
 have hmx:mx c (wrap64 (-c))=if c<0 then-c else c:=by
  unfold mx wrap64
  split<;>split<;>omega
 have hw:∀x:Int,-9223372036854775808<=x->x<=9223372036854775807->wrap64 x=x:=fun x h h'=>by unfold wrap64;omega
 have hne:(c==(-9223372036854775808))=false:=by
  have:c≠ -9223372036854775808:=by omega
  simpa using this
 unfold gu.f
 rw[hmx]
 by_cases h0:c<0
 ·have hneg: -c*k= -(c*k):=Int.neg_mul c k
  have hck:c*k<=0:=Int.mul_nonpos_of_nonpos_of_nonneg (by omega) hk.1
  rw[if_pos h0,Pf.mR (by omega) (by omega) (by omega),Option.bind_some,show Pf.kT (-c) k=(-(c*k),true) by unfold Pf.kT;rw[if_pos ⟨by omega,hk.1,by rw[hneg];omega⟩,hneg]]
  rw[if_pos rfl,hne,gu.j0,if_neg (by simp),if_pos h0,hw _ (by omega) (by omega)]
  simp
  omega
 ·have hck:0<=c*k:=Int.mul_nonneg (by omega) hk.1
  rw[if_neg h0,Pf.mR (by omega) (by omega) (by omega),Option.bind_some,show Pf.kT c k=(c*k,true) by unfold Pf.kT;rw[if_pos ⟨by omega,hk.1,by omega⟩]]
  rw[if_pos rfl,hne,gu.j0,if_neg (by simp),if_neg h0,Pf.mQ (by omega) (by omega),Option.bind_some,show Pf.kK n (c*k)=(n+c*k,true) by unfold Pf.kK;rw[if_pos ⟨by omega,by omega,by omega⟩]]
theorem CG {B b g n:Nat} {w W:World} {m:List (P2×Int)} {f:P2->Int} {S:Nat->Prop} (hB:B<=b) (hg:B<=g) (hM:mp ou W g m) (hb:W.heap[b]?=some (.cells #[.map (some g)] TD (0,0))) (hN:Nz m f) (hl:m.length<=n) (hf:∀q,0<=f q/\f q<=9223372036854775807) (hF:Fr S w W) (WN:S g\/w.heap.size<=g) (hbS:S b):
  ∃S',xq B W b f n S'/\Fr S w W/\Into w S S':=
 ⟨fun k=>k=b\/Value.map (some g)= .map (some k),⟨_,m,hB,hb,.inr ⟨g,rfl,hg,hM⟩,hN,hl,hf,hM.ok,rfl⟩,hF,fun k hk=>by
  rcases hk with rfl|hk
  ·exact .inl hbS
  ·simp at hk
   subst hk
   exact WN⟩
theorem bump_in {f:P2->Int} {p:P2} {d:Int} (hf:∀q,0<=f q/\f q<=9223372036854775807) (h3:0<=f p+d) (h4:f p+d<=9223372036854775807):∀q,0<=bump f p d q/\bump f p d q<=9223372036854775807:=fun q=>by
 unfold bump
 by_cases e:q=p
 ·rw[if_pos e,e];exact⟨h3,h4⟩
 ·rw[if_neg e];have:=hf q;omega
set_option maxHeartbeats 2000000 in
set_option maxRecDepth 100000 in
theorem cnt_add {B b n:Nat} {f:P2->Int} {S:Nat->Prop} {w:World} (h:xq B w b f n S) (hn:n<=1000000) {p:P2} (hp:lD p.1/\lD p.2) {c k:Int} (hc: -1000000<=c/\c<=1000000) (hk:0<=k/\k<=9223372036854775807) (h1:c*k<=9223372036854775807) (h2: -9223372036854775807<=c*k) (h3:0<=f p+c*k) (h4:f p+c*k<=9223372036854775807):
  Calls Tryz.prog 173 #[.pointer (some ⟨b,0,none⟩),pv p,.int .i64 c,.int .i64 k] w fun e w'=>e= .returned (.int .i64 0)/\∃S',xq B w' b (bump f p (c*k)) (n+1) S'/\Fr S w w'/\Into w S S':=by
 obtain⟨p1,p2⟩:=p
 have hsum:=fun W=>gu.calls 1 (f (p1,p2)) c k _ _ W (sum_f (h.is (p1,p2)) hc hk h1 h2 h3 h4)
 obtain⟨V,hV⟩:∃V,V=w.alloc (.cells #[.int .i64 p1,.int .i64 p2] 160):=⟨_,rfl⟩
 have ji:Below w.heap.size w V:=by rw[hV];exact(Below.refl _ w).alloc (Nat.le_refl _) _
 have hx:V.heap[w.heap.size]?=some (.cells #[.int .i64 p1,.int .i64 p2] 160 (0,0)):=by rw[hV];exact bG w _
 have h':=h.below ji
 obtain⟨v,m,hB,hb,hm,g1,g2,g3,g4,hS⟩:=h'
 have hlk:=Zz (w:=V.drew) (m:=m) (v:=v) (by
  rcases hm with hm|⟨g,e,hg,hM⟩
  ·exact .inl hm
  ·exact .inr ⟨g,e,hg,hM.drew⟩) hp
 rw[g1.at] at hlk
 have yE:v.cells=#[v]:=by rcases hm with⟨rfl,_⟩|⟨g,rfl,_⟩<;>rfl
 have cb:V.cell? ⟨b,0,none⟩=some v:=aj hb 0
 have x0:V.cell? ⟨w.heap.size,0,none⟩=some (.int .i64 p1):=aj hx 0
 have x1:V.cell? ⟨w.heap.size,1,none⟩=some (.int .i64 p2):=aj hx 1
 go_enter Tryz.func173,Tryz.ntmps173
 go_wp2_with fail
 rw[<-hV]
 have hbl:b<V.drew.heap.size:=bA hb
 have hwl:w.heap.size<V.drew.heap.size:=bA hx
 have cbd:V.drew.cell? ⟨b,0,none⟩=some v:=cb
 have x0d:V.drew.cell? ⟨w.heap.size,0,none⟩=some (.int .i64 p1):=x0
 have x1d:V.drew.cell? ⟨w.heap.size,1,none⟩=some (.int .i64 p2):=x1
 obtain⟨fp,hfp⟩:∃fp,fp=f (p1,p2):=⟨_,rfl⟩
 obtain⟨np,hnp⟩:∃np,np=fp+c*k:=⟨_,rfl⟩
 rw[<-hfp] at hsum hlk h3 h4
 rw[<-hnp] at hsum h3 h4
 have hok:ou.ok (p1,p2):=hp
 have HX:=Lib.hid (And.intro hfp (And.intro hnp (And.intro hm (And.intro g1 (And.intro g2 (And.intro g3 (And.intro g4 (And.intro hb (And.intro hB (And.intro ji (And.intro h1 (And.intro h2 hx))))))))))))
 have HS:=Lib.hid hS
 have hes:=eqSomeP
 have hen:=eqNoneP
 clear hV hfp hnp hm g1 g2 g3 g4 hb hx hS h ji h1 h2 x0 x1 cb
 go_region_with (go_at_call 194;refine(hsum _).mono ?_;rintro e w1 ⟨rfl,hB1⟩;have y0:=(hB1.cell (p:=⟨b,0,none⟩) hbl).trans cbd;have HB1:=Lib.hid hB1;clear hB1)
 all_goals
  have hm:=HX.out.2.2.1
  have hb:=HX.out.2.2.2.2.2.2.2.1
  have hB:=HX.out.2.2.2.2.2.2.2.2.1
  have hN2:=Lib.hid HX.out.2.2.2.1
  have g2:=HX.out.2.2.2.2.1
  have HBU:=Lib.hid (bump_in (p:=(p1,p2)) HX.out.2.2.2.2.2.1 (by rw[<-HX.out.1,<-HX.out.2.1];exact h3) (by rw[<-HX.out.1,<-HX.out.2.1];exact h4))
  have hFV:Fr S w w1:=(Fr.dL HX.out.2.2.2.2.2.2.2.2.2.1).drew.below HB1.out
  have HSb:Hid (S b):=Lib.hid (by rw[HS.out];exact .inl rfl)
  rcases hm with⟨rfl,rfl⟩|⟨g,rfl,hg,hM⟩
  ·have hb1:=(HB1.out.block b hbl).trans hb
   have hx1:=(HB1.out.block w.heap.size hwl).trans HX.out.2.2.2.2.2.2.2.2.2.2.2.2
   have hmm:=@run_makeMap Tryz.prog
   have hb4:=dw hb1 (.map #[] 0)
   have c14:(w1.alloc (.map #[] 0)).cell? ⟨b,0,none⟩=some (.map none):=aj hb4 0
   have f14:=aX hb4 0
   have hbw1:=bA hb1
   have hb2:=heap_set hb4 0 (.map (some w1.heap.size))
   have hx2:=dI (dw hx1 (.map #[] 0)) (p:=⟨b,0,none⟩) (show w.heap.size≠b by
    intro e
    rw[<-e,hx1] at hb1
    cases hb1) (.map (some w1.heap.size))
   have hM2:mp ou ((w1.alloc (.map #[] 0)).setCell ⟨b,0,none⟩ (.map (some w1.heap.size))) w1.heap.size []:=(oW w1).set (a:=⟨b,0,none⟩) (show w1.heap.size≠b by omega) _
   have hF2:Fr S w ((w1.alloc (.map #[] 0)).setCell ⟨b,0,none⟩ (.map (some w1.heap.size))):=(hFV.alloc (.map #[] 0)).set (p:=⟨b,0,none⟩) (.inl HSb.out) _
   have WN:S w1.heap.size\/w.heap.size<=w1.heap.size:= .inr hFV.size
   have hg:B<=w1.heap.size:=by omega
   obtain⟨m2,hm2⟩:∃m2:List (P2×Int),m2=[]:=⟨_,rfl⟩
   rw[<-hm2] at hM2 hN2 g2
   obtain⟨g,hge⟩:∃g,g=w1.heap.size:=⟨_,rfl⟩
   rw[<-hge] at hb2 hx2 hM2 hF2 WN hg
   obtain⟨W2,hW2⟩:∃W2,W2=(w1.alloc (.map #[] 0)).setCell ⟨b,0,none⟩ (.map (some g)):=⟨_,rfl⟩
   rw[<-hW2] at hb2 hx2 hM2 hF2
   have hb2':W2.heap[b]?=some (.cells #[.map (some g)] TD (0,0)):=by simpa using hb2
   have HW2:=Lib.hid hW2
   have HGE:=Lib.hid hge
   have HB2:=Lib.hid hb2'
   clear hb hb1 hx1 hFV hm2 hb4 hbw1 hb2 hW2 hge hb2'
   go_wp2_with fail
   rw[<-HGE.out]
   rw[<-HW2.out]
   have hb2:=HB2.out
   have hbg:=iQ hb2 hM2
   obtain⟨w3,hst,sH,BP⟩:=hM2.drew.store (by unfold maxLen;omega) hok np
   have e1:(Instr.mapUpdate 207 (.map (some g)) (.agg #[.int .i64 p1,.int .i64 p2]) (.int .i64 np)).run Tryz.prog W2.drew= .ok () w3:=hst
   have f3:=jI BP
   have hb3:=f3.heap (show W2.drew.heap[b]?=some (.cells #[.map (some g)] TD (0,0)) from hb2) hbg
   have hx3:=f3.heap (show W2.drew.heap[w.heap.size]?=some (.cells #[.int .i64 p1,.int .i64 p2] 160 (0,0)) from hx2) (iQ hx2 hM2)
   have k0:W2.cell? ⟨b,0,none⟩=some (.map (some g)):=aj hb2 0
   have k1:W2.cell? ⟨w.heap.size,0,none⟩=some (.int .i64 p1):=aj hx2 0
   have k2:W2.cell? ⟨w.heap.size,1,none⟩=some (.int .i64 p2):=aj hx2 1
   have j0:w3.cell? ⟨b,0,none⟩=some (.map (some g)):=aj hb3 0
   have j1:w3.cell? ⟨w.heap.size,0,none⟩=some (.int .i64 p1):=aj hx3 0
   have j2:w3.cell? ⟨w.heap.size,1,none⟩=some (.int .i64 p2):=aj hx3 1
   have qR:=hF2.drew.trans f3 (fun i hi=>by rw[show i=g from hi];exact WN)
   have HT:=Lib.hid (And.intro sH (And.intro hb3 qR))
   clear hst sH BP f3 hb3 hx3 hb2 hx2 hM2 qR hF2
   go_region
   clear k0 k1 k2 e1
   by_cases hz:np=0
   ·obtain⟨w4,hd,Cn,uw,hs4⟩:=wJ (T:=ou) w3.drew HT.out.1.drew hok 0
    clear hs4
    have e2:(Builtin.delete_ #[207,160] 0 #[.map (some g),.agg #[.int .i64 p1,.int .i64 p2]]).run Tryz.prog w3.drew= .ok (.tuple #[]) w4:=hd
    have HD:=Lib.hid (And.intro Cn uw)
    have hz2:(np==0)=true:=by simpa using hz
    have HZ:=Lib.hid hz
    clear hd Cn uw hz
    go_wp2_with fail
    go_region
    go_wp2_with fail
    go_ret
    refine⟨rfl,CG hB hg HD.out.1 (HD.out.2.heap (show w3.drew.heap[b]?=some (.cells #[.map (some g)] TD (0,0)) from HT.out.2.1) hbg) ?_ ?_ HBU.out ((HT.out.2.2.drew).trans HD.out.2 (fun i hi=>by rw[show i=g from hi];exact WN)) WN HSb.out⟩
    ·exact hN2.out.del (p1,p2) (by rw[<-HX.out.1,<-HX.out.2.1];exact HZ.out)
    ·have:=yX (m:=Mp.put m2 (p1,p2) np) (p:=(p1,p2))
     have:=jO (m:=m2) (a:=(p1,p2)) (u:=np)
     omega
   ·have hz2:(np==0)=false:=by simpa using hz
    have HZ:=Lib.hid hz
    clear hz
    go_wp2_with fail
    go_ret
    refine⟨rfl,CG hB hg HT.out.1 HT.out.2.1 ?_ ?_ HBU.out HT.out.2.2 WN HSb.out⟩
    ·have:=hN2.out.put (p1,p2) (c:=c*k) (by rw[<-HX.out.1,<-HX.out.2.1];exact HZ.out)
     rw[<-HX.out.1,<-HX.out.2.1] at this
     exact this
    ·have:=jO (m:=m2) (a:=(p1,p2)) (u:=np)
     omega
  ·have hb2:=(HB1.out.block b hbl).trans hb
   have hx2:=(HB1.out.block w.heap.size hwl).trans HX.out.2.2.2.2.2.2.2.2.2.2.2.2
   have hM2:=(show mp ou V.drew g m from hM.drew).same (HB1.out.block g (show g<V.drew.heap.size from hM.lt))
   have WN:S g\/w.heap.size<=g:=by rw[HS.out];exact .inl (.inr rfl)
   obtain⟨m2,hm2⟩:∃m2,m2=m:=⟨_,rfl⟩
   rw[<-hm2] at hM2 hN2 g2
   obtain⟨W2,hW2⟩:∃W2,W2=w1:=⟨_,rfl⟩
   rw[<-hW2] at hb2 hx2 hM2 hFV
   have hF2:=hFV
   clear hb hFV hM hm2
   go_wp2_with fail
   rw[<-hW2]
   clear hW2
   have hbg:=iQ hb2 hM2
   obtain⟨w3,hst,sH,BP⟩:=hM2.drew.store (by unfold maxLen;omega) hok np
   have e1:(Instr.mapUpdate 207 (.map (some g)) (.agg #[.int .i64 p1,.int .i64 p2]) (.int .i64 np)).run Tryz.prog W2.drew= .ok () w3:=hst
   have f3:=jI BP
   have hb3:=f3.heap (show W2.drew.heap[b]?=some (.cells #[.map (some g)] TD (0,0)) from hb2) hbg
   have hx3:=f3.heap (show W2.drew.heap[w.heap.size]?=some (.cells #[.int .i64 p1,.int .i64 p2] 160 (0,0)) from hx2) (iQ hx2 hM2)
   have k0:W2.cell? ⟨b,0,none⟩=some (.map (some g)):=aj hb2 0
   have k1:W2.cell? ⟨w.heap.size,0,none⟩=some (.int .i64 p1):=aj hx2 0
   have k2:W2.cell? ⟨w.heap.size,1,none⟩=some (.int .i64 p2):=aj hx2 1
   have j0:w3.cell? ⟨b,0,none⟩=some (.map (some g)):=aj hb3 0
   have j1:w3.cell? ⟨w.heap.size,0,none⟩=some (.int .i64 p1):=aj hx3 0
   have j2:w3.cell? ⟨w.heap.size,1,none⟩=some (.int .i64 p2):=aj hx3 1
   have qR:=hF2.drew.trans f3 (fun i hi=>by rw[show i=g from hi];exact WN)
   have HT:=Lib.hid (And.intro sH (And.intro hb3 qR))
   clear hst sH BP f3 hb3 hx3 hb2 hx2 hM2 qR hF2
   go_region
   clear k0 k1 k2 e1
   by_cases hz:np=0
   ·obtain⟨w4,hd,Cn,uw,hs4⟩:=wJ (T:=ou) w3.drew HT.out.1.drew hok 0
    clear hs4
    have e2:(Builtin.delete_ #[207,160] 0 #[.map (some g),.agg #[.int .i64 p1,.int .i64 p2]]).run Tryz.prog w3.drew= .ok (.tuple #[]) w4:=hd
    have HD:=Lib.hid (And.intro Cn uw)
    have hz2:(np==0)=true:=by simpa using hz
    have HZ:=Lib.hid hz
    clear hd Cn uw hz
    go_wp2_with fail
    go_region
    go_wp2_with fail
    go_ret
    refine⟨rfl,CG hB hg HD.out.1 (HD.out.2.heap (show w3.drew.heap[b]?=some (.cells #[.map (some g)] TD (0,0)) from HT.out.2.1) hbg) ?_ ?_ HBU.out ((HT.out.2.2.drew).trans HD.out.2 (fun i hi=>by rw[show i=g from hi];exact WN)) WN HSb.out⟩
    ·exact hN2.out.del (p1,p2) (by rw[<-HX.out.1,<-HX.out.2.1];exact HZ.out)
    ·have:=yX (m:=Mp.put m2 (p1,p2) np) (p:=(p1,p2))
     have:=jO (m:=m2) (a:=(p1,p2)) (u:=np)
     omega
   ·have hz2:(np==0)=false:=by simpa using hz
    have HZ:=Lib.hid hz
    clear hz
    go_wp2_with fail
    go_ret
    refine⟨rfl,CG hB hg HT.out.1 HT.out.2.1 ?_ ?_ HBU.out HT.out.2.2 WN HSb.out⟩
    ·have:=hN2.out.put (p1,p2) (c:=c*k) (by rw[<-HX.out.1,<-HX.out.2.1];exact HZ.out)
     rw[<-HX.out.1,<-HX.out.2.1] at this
     exact this
    ·have:=jO (m:=m2) (a:=(p1,p2)) (u:=np)
     omega
end Go.Proofs.YtilpincgjlclpaaGreat.Ob
end
