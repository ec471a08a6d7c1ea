import Derived.Test.YtilpincgjlclpaaGreatB22
set_option linter.unusedVariables false
set_option linter.unusedSimpArgs false
section
namespace Go.Proofs.YtilpincgjlclpaaGreat.Ob
open Go Go.RowKit Go.ChangeMaps Go.MapKept Bs Mp jL Hp
open Tm (It bt qM ma)
theorem lJ.base {B C b:Nat} {o:List J} {w:World} {f v:Value} {R:List It} {pu pe:Nat} (h:lJ C w b o f v R pu pe) (hB:B<=C):lJ B w b o f v R pu pe:=⟨Nat.le_trans hB h.lo,h.blk,jD h.own hB,h.vp⟩
set_option maxHeartbeats 4000000 in
set_option maxRecDepth 100000 in
theorem Qm {B Bt b tb hb kb:Nat} {w:World} {v:Value} {o:List J} {kn H R:List It} {pu po pe re jA hpe n:Nat} {So:Nat->Prop} (h:oM B w b tb hb kb v o kn H R pu po pe re jA hpe n) (hS:Sym Bt w tb o So) (hl:o.length<=1000000) (hk:0<kn.length) (hkn:kn.length+po<=n) (hre:re+1<=n) (hn:n<=100000):
  Calls Tryz.prog 148 #[.pointer (some ⟨b,0,none⟩)] w fun e w'=>e= .returned (.tuple #[])/\∃hb' v' R',oM B w' b tb hb' kb v' o kn kn R' pu po pe (re+1) 0 kn.length n/\w.heap.size<=hb'/\(∀g,v'.ownBlock=some g->w.heap.size<=g)/\Fr (fun k=>k=b) w w':=by
 obtain⟨i0,hi0,hz0,hz1,hz2⟩:=info_parts Zi
 have cb:w.cell? ⟨b,2,none⟩=some (.map (some kb)):=aj h.blk 2
 have hM:=h.Gc
 have hnd:=hM.nodup
 have hkl:=hM.lt
 have HH:=Lib.hid h
 have HS:=Lib.hid hS
 have hb0:=h.bnd.2.1
 clear h hS
 go_enter Tryz.func148,Tryz.ntmps148
 go_wp2_with (at_range;refine oH (T:=ou) _ rfl _ 207 rfl rfl rfl hM ?_;intro w3 hr3 hg3 hs3;clear hs3)
 have HB3:=Lib.hid ((Below.refl w.heap.size w).grown hg3 (Nat.le_refl _) (fun k e=>by cases e))
 have HR3:=Lib.hid hr3
 have HND:=Lib.hid hnd
 clear hr3 hg3 hM hnd cb
 try go_frame
 go_loopw [2] (fun v2 wr=>∃(v:Value) (done todo:List It),v2=v/\Hid (ow ou wr kb w.heap.size kn todo)/\Hid (wr.ownsRow w.heap.size TI 3 v done.length (rc (done.map c3)))/\Hid ((done++todo).Perm kn)/\Hid (Below w.heap.size w wr)) (fun _ wr=>wr.rangeLeft kb w.heap.size)
 case atStart=>exact⟨_,[],kn,rfl,HR3,World.ownsRow_nil _ _ _ _,List.Perm.refl _,HB3⟩
 case round=>
  obtain⟨v,done,todo,rfl,HR,HO,HP,HB⟩:=hrel
  go_wp2_with (at_next;refine qh (T:=ou) _ rfl _ rfl rfl HR.out pv (Value.int .i64) rfl rfl ?_ ?_)
  ·intro ht
   subst ht
   have hP2:=HP.out
   rw[List.append_nil] at hP2
   have hof:=heap_of (q:=b) (o:=o) HO.out (by rw[hP2.length_eq];exact hk) (by rw[hP2.length_eq];omega) (fun x hx=>HH.out.WQ x (hP2.subset hx)) (Pt (T:=none_) (HS.out.below HB.out) hl ((HB.out.cell (World.block_lt_of_cell? _ _ (aj HH.out.blk 0))).trans (aj HH.out.blk 0)) (fun _ h=>h.elim) (fun h=>h))
   have HS2:=Lib.hid hP2
   have hqb:=(HB.out.block b (bA HH.out.blk)).trans HH.out.blk
   have HQ:=Lib.hid hqb
   clear hP2 hqb
   go_wp2_with (go_at_call 181;refine hof.mono ?_;rintro e w5 ⟨rfl,v5,R5,Tk,hp5,ho5,wL⟩;have hq5:=(wL.block b (bA HQ.out)).trans HQ.out;have q1:=(aj hq5 1).trans rfl;have q8:=(aj hq5 8).trans rfl;have qf:∀j,w5.frozen? ⟨b,j,none⟩=false:=fun j=>aX hq5 j;have HX:=Lib.hid (And.intro Tk (And.intro hp5 (And.intro ho5 (And.intro wL hq5))));clear Tk hp5 ho5 wL hq5)
   go_end0
   obtain⟨Tk,hp5,ho5,wL,hq5⟩:=HX.out
   have hbw:b<wr.heap.size:=Nat.lt_of_lt_of_le (bA HH.out.blk) HB.out.size
   have hkb:kb≠b:=fun e=>iQ HH.out.blk HH.out.Gc e.symm
   have hlen:done.length=kn.length:=HS2.out.length_eq
   have hown:=fun g (e:v5.ownBlock=some g)=>(eG Tk.own e).1
   have e1:((re+1:Nat):Int)=(re:Int)+1:=by omega
   have hbn:=HH.out.bnd
   refine⟨rfl,wr.heap.size,v5,R5,⟨HH.out.lo,HH.out.klo,?_,?_,HH.out.WQ,?_,ho5,hp5.trans HS2.out,by omega⟩,HB.out.size,fun g e=>Nat.le_trans HB.out.size (hown g e),?_⟩
   ·have:=heap_set (heap_set hq5 1 (.pointer (some ⟨wr.heap.size,0,none⟩))) 8 (.int .i64 ((re:Int)+1))
    rw[e1]
    simpa using this
   ·exact((HR.out.mp.same (wL.block _ HR.out.mp.lt)).set (a:=⟨b,1,none⟩) hkb _).set (a:=⟨b,8,none⟩) hkb _
   ·rw[<-hlen]
    refine(Tk.same fun k hk=>?_).base (Nat.le_trans HH.out.lo (Nat.le_of_lt hbw))
    have hkb2:k≠b:=by
     rcases hk with rfl|hk
     ·omega
     ·have:=hown k hk;omega
    exact(Below.heap_setCell _ _ _ k hkb2).trans (Below.heap_setCell _ _ _ k hkb2)
   ·exact((Fr.dL (S:=fun k=>k=b) (HB.out.trans (wL.mono HB.out.size))).set (p:=⟨b,1,none⟩) (.inl rfl) _).set (p:=⟨b,8,none⟩) (.inl rfl) _
  ·intro p1 p2 c w4 hx4 hr4 hg4 hs4 hen
   clear hs4
   have Ao:=Ij HO.out hg4 (fun r e=>by cases e;exact tN HO.out HR.out)
   have hlt:done.length<kn.length:=by
    have h1:=HP.out.length_eq
    rw[List.length_append] at h1
    have h2:=List.length_pos_of_mem hx4
    omega
   have wG:=Lib.hid (HB.out.grown hg4 HB.out.size (fun k e=>by cases e;exact Nat.le_refl _))
   have HP4:=Lib.hid (EP HP.out (List.Nodup.sublist (HR.out.sub.map Prod.fst) HND.out) hx4)
   have HL4:=Lib.hid (nE hx4)
   have HR4:=Lib.hid hr4
   clear hx4 hr4 hg4
   obtain⟨A,cc,rfl⟩:=Bs.bU Ao
   go_wp2_with (at_builtin;refine wpList_append_own_at _ rfl _ _ 255 rfl w.heap.size TI i0 (.agg #[.int .i64 0,.int .i64 0,.int .i64 0]) 3 24 Tryz.underlying255 hi0 hz0 hz1 hz2 rfl (by decide) _ _ _ rfl ((Ao.alloc _).alloc _) _ 1 1 (mV ((p1,p2),c)) rfl rfl ?c1 ?c2 ?c3 ?c4 ?c5 ?_)
   case c1=>have h9:=mr (w4.alloc (.cells #[.int .i64 p1,.int .i64 p2] 160)) (mV ((p1,p2),c)) 162;rw[World.size_alloc] at h9;exact h9
   case c2=>intro u hu;simp[mV] at hu;rcases hu with rfl|rfl|rfl<;>rfl
   case c3=>unfold maxLen;omega
   case c4=>omega
   case c5=>have:=wG.out.size;simp;omega
   intro v' w6 hown6 iZ _ AV
   have hne:=tN Ao HR4.out
   have HR6:=Lib.hid (((HR4.out.alloc (.cells #[.int .i64 p1,.int .i64 p2] 160)).alloc (.cells (mV ((p1,p2),c)).toArray 162)).same (iZ.block kb (by have:=HR4.out.mp.lt;simp;omega) (fun e=>by
    have:=(eG Ao e.symm).1
    omega)) (iZ.block w.heap.size (by have:=HR4.out.lt;simp;omega) (fun e=>hne e.symm)))
   have yJ:=Lib.hid (((wG.out.alloc wG.out.size (.cells #[.int .i64 p1,.int .i64 p2] 160)).alloc (by have:=wG.out.size;simp;omega) (.cells (mV ((p1,p2),c)).toArray 162)).grown iZ (by have:=wG.out.size;simp;omega) (fun k e=>(eG Ao e).1))
   have HO6:=Lib.hid hown6
   clear iZ hown6 AV hne
   go_wp2
   go_roundw
   case rel=>exact⟨v',done++[((p1,p2),c)],Mp.del todo (p1,p2),rfl,HR6,Lib.hid (by rw[List.length_append,List.map_append,show List.map c3 [((p1,p2),c)]=[c3 ((p1,p2),c)] from rfl,KD];exact HO6.out),HP4,yJ⟩
   case measure=>rw[ow.left HR6.out,ow.left HR.out];exact HL4.out
end Go.Proofs.YtilpincgjlclpaaGreat.Ob
end
section
namespace Go.Proofs.YtilpincgjlclpaaGreat.Ob
open Go Go.RowKit Go.ChangeMaps Go.MapKept Bs Mp jL Hp
open Tm (It bt qM ma)
theorem VP.ok {o:List J} (hl:o.length<=1000000) {q:P2} (h:VP o q):lD q.1/\lD q.2:=by
 obtain⟨⟨h1,h2⟩,h3,h4⟩:=h
 exact⟨lD.mk (by omega) (by omega),lD.mk (by omega) (by omega)⟩
section
variable {B b tb hb kb:Nat} {w w':World} {v:Value} {o:List J} {kn H R:List It} {pu po pe re jA hpe n:Nat} {S T:Nat->Prop}
theorem oM.known (h:oM B w b tb hb kb v o kn H R pu po pe re jA hpe n) {kn':List It} (hM:mp ou w' kb kn') (hF:Fr (fun k=>k=kb) w w') (hv:∀x∈kn',VP o x.1) (hn:kn'.length<=n):oM B w' b tb hb kb v o kn' H R pu po pe re jA hpe n:=by
 obtain⟨n1,n2,n3,n4,n5,n6⟩:=h.ne
 refine⟨h.lo,h.klo,hF.heap h.blk n2,hM,hv,h.hpr.same fun k hk=>hF.blk k (h.hpr.oq k hk).2 ?_,h.ord,h.per,by have:=h.bnd;omega⟩
 rcases hk with rfl|hk
 ·exact n3
 ·rintro rfl;exact n6 hk
abbrev qcs (tb hb kb pu po pe re:Nat):Array Value:=#[.pointer (some ⟨tb,0,none⟩),.pointer (some ⟨hb,0,none⟩),.map (some kb),.int .i64 0,.int .i64 0,.int .i64 (pu:Int),.int .i64 (po:Int),.int .i64 (pe:Int),.int .i64 (re:Int)]
theorem oM.num (h:oM B w b tb hb kb v o kn H R pu po pe re jA hpe n) {pu' po' pe' re':Nat} {i:Nat} {u:Value} (hc:(qcs tb hb kb pu po pe re).setIfInBounds i u=qcs tb hb kb pu' po' pe' re') (hn:H.length+po'<=n/\pu'<=n/\pe'<=n/\re'<=n):oM B (w.setCell ⟨b,i,none⟩ u) b tb hb kb v o kn H R pu' po' pe' re' jA hpe n:=by
 obtain⟨n1,n2,n3,n4,n5,n6⟩:=h.ne
 refine⟨h.lo,h.klo,?_,h.Gc.set (a:=⟨b,i,none⟩) (fun e=>n2 e.symm) u,h.WQ,h.hpr.same fun k hk=>Below.heap_setCell _ _ _ k ?_,h.ord,h.per,by have:=h.bnd;omega⟩
 ·have:=heap_set h.blk i u
  rw[this]
  exact congrArg (fun x=>some (Obj.cells x TQ (0,0))) hc
 ·rcases hk with rfl|hk
  ·exact fun e=>n1 e.symm
  ·exact fun e=>n4 (by rw[hk];exact congrArg some e)
theorem oM.pushed (h:oM B w b tb hb kb v o kn H R pu po pe re jA hpe n) {v1:Value} {R1:List It} {x:It} (hR:lJ B w' hb o (Al b) v1 R1 (jA+1) (max hpe (R.length+1))) (hP:R1.Perm (x::R)) (ho:hp (bt o) (fun k=>R1.getD k d0) 0 R1.length) (hF:Fr (xB hb v) w w'):oM B w' b tb hb kb v1 o kn (x::H) R1 pu po pe re (jA+1) (max hpe (R.length+1)) (n+1):=by
 obtain⟨n1,n2,n3,n4,n5,n6⟩:=h.ne
 have hl:=h.per.length_eq
 refine⟨h.lo,h.klo,hF.heap h.blk ?_,h.Gc.same (hF.blk kb h.Gc.lt ?_),h.WQ,hR,ho,hP.trans (h.per.cons x),by have:=h.bnd;rw[List.length_cons];omega⟩
 ·rintro(e|e)
  ·exact n1 e
  ·exact n4 e
 ·rintro(e|e)
  ·exact n3 e.symm
  ·exact n6 e
theorem oM.drew (h:oM B w b tb hb kb v o kn H R pu po pe re jA hpe n):oM B w.drew b tb hb kb v o kn H R pu po pe re jA hpe n:=h.same fun _ _=>rfl
end
theorem put_mem {m:List It} {a:P2} {u:Int} {x:It} (h:x∈Mp.put m a u):x=(a,u)\/x∈m:=by
 induction m with
 |nil=>simp[Mp.put] at h;exact .inl h
 |cons y m ih=>
  unfold Mp.put at h
  split at h
  ·rcases List.mem_cons.1 h with h|h
   ·exact .inl h
   ·exact .inr (List.mem_cons_of_mem _ h)
  ·rcases List.mem_cons.1 h with h|h
   ·exact .inr (by rw[h];simp)
   ·exact(ih h).imp id (List.mem_cons_of_mem _)
theorem put_pos {m:List It} {a:P2} {u:Int}:0<(Mp.put m a u).length:=by
 cases m with
 |nil=>simp[Mp.put]
 |cons y m=>unfold Mp.put;split<;>simp
theorem Zu {T:Nat->Prop} {a1 a2 a3:Addr} {v1 v2 v3:Value} {U w1:World} (h:U.cell? a1=some v1/\U.cell? a2=some v2/\U.cell? a3=some v3) (hf:Fr T U w1) (n1:¬T a1.block) (n2:¬T a2.block) (n3:¬T a3.block):w1.cell? a1=some v1/\w1.cell? a2=some v2/\w1.cell? a3=some v3:=
 ⟨hf.cell h.1 n1,hf.cell h.2.1 n2,hf.cell h.2.2 n3⟩
set_option maxHeartbeats 2000000 in
set_option maxRecDepth 100000 in
theorem Kj {B b tb hb kb:Nat} {w:World} {v:Value} {o:List J} {kn H R:List It} {pu po pe re jA hpe n:Nat} (h:oM B w b tb hb kb v o kn H R pu po pe re jA hpe n) {p:P2} (hp:lD p.1/\lD p.2) {c:Int} (hc:c<1):
  Calls Tryz.prog 117 #[.pointer (some ⟨b,0,none⟩),pv p,.int .i64 c] w fun e w'=>e= .returned (.tuple #[])/\oM B w' b tb hb kb v o (Mp.del kn p) H R pu po pe re jA hpe n/\Fr (fun k=>k=kb) w w':=by
 obtain⟨p1,p2⟩:=p
 obtain⟨V,hV⟩:∃V,V=w.alloc (.cells #[.int .i64 p1,.int .i64 p2] 160):=⟨_,rfl⟩
 have ji:Below w.heap.size w V:=by rw[hV];exact(Below.refl _ w).alloc (Nat.le_refl _) _
 have hx:V.heap[w.heap.size]?=some (.cells #[.int .i64 p1,.int .i64 p2] 160 (0,0)):=by rw[hV];exact bG w _
 have h1:=h.below ji
 have hok:ou.ok (p1,p2):=hp
 have hkl:=h.Gc.lt
 obtain⟨w4,hd,Cn,uw,hs4⟩:=wJ (T:=ou) V.drew h1.Gc.drew hok 0
 have e2:(Builtin.delete_ #[207,160] 0 #[.map (some kb),.agg #[.int .i64 p1,.int .i64 p2]]).run Tryz.prog V.drew= .ok (.tuple #[]) w4:=hd
 have cb:V.cell? ⟨b,2,none⟩=some (.map (some kb)):=aj h1.blk 2
 have x0:V.cell? ⟨w.heap.size,0,none⟩=some (.int .i64 p1):=aj hx 0
 have x1:V.cell? ⟨w.heap.size,1,none⟩=some (.int .i64 p2):=aj hx 1
 have cbd:V.drew.cell? ⟨b,2,none⟩=some (.map (some kb)):=cb
 have x0d:V.drew.cell? ⟨w.heap.size,0,none⟩=some (.int .i64 p1):=x0
 have x1d:V.drew.cell? ⟨w.heap.size,1,none⟩=some (.int .i64 p2):=x1
 have hc1:decide (c<1)=true:=decide_eq_true hc
 have HX:=Lib.hid (And.intro h1 (And.intro Cn (And.intro uw ji)))
 clear h1 Cn uw ji hd hs4 hx
 go_enter Tryz.func117,Tryz.ntmps117
 go_wp2_with fail
 rw[<-hV]
 clear hV
 go_region
 go_wp2_with fail
 refine bodyPost_ret (results_none rfl _ _ _) rfl ?_
 obtain⟨h1,Cn,uw,ji⟩:=HX.out
 exact⟨rfl,(oM.known (w:=V.drew) (h1.same fun _ _=>rfl) Cn uw (fun x hx=>h1.WQ x (by unfold Mp.del at hx;exact(List.mem_filter.1 hx).1)) (by have:=h1.bnd;have:=yX (m:=kn) (p:=(p1,p2));omega)),((Fr.dL ji).drew).trans uw (fun i hi=> .inl hi)⟩
def Cy (B b tb hb kb:Nat) (v:Value) (o:List J) (kn H:List It) (pu po pe re n:Nat) (p:P2) (c:Int) (w w':World):Prop:=∃hb' v' R' hpu' hpe',
   oM B w' b tb hb' kb v' o (Mp.put kn p c) (if 16<H.length+1/\2*(Mp.put kn p c).length<H.length+1 then Mp.put kn p c else(p,c)::H) R' (pu+1) po (max pe (H.length+1)) (if 16<H.length+1/\2*(Mp.put kn p c).length<H.length+1 then re+1 else re) hpu' hpe' (n+1)/\
   Fr (yD b hb kb v) w w'/\Into w (yD b hb kb v) (yD b hb' kb v')
set_option maxHeartbeats 4000000 in
set_option maxRecDepth 100000 in
theorem Zw {B Bt b tb hb kb:Nat} {w:World} {v:Value} {o:List J} {kn H R:List It} {pu po pe re jA hpe n:Nat} {So:Nat->Prop} (h:oM B w b tb hb kb v o kn H R pu po pe re jA hpe n) (hS:Sym Bt w tb o So) (hsep:Sep (yD b hb kb v) So) (hl:o.length<=1000000) (hn:n<100000) {p:P2} (hp:VP o p) {c:Int} (hc:1<=c):
  Calls Tryz.prog 117 #[.pointer (some ⟨b,0,none⟩),pv p,.int .i64 c] w fun e w'=>e= .returned (.tuple #[])/\Cy B b tb hb kb v o kn H pu po pe re n p c w w':=by
 obtain⟨p1,p2⟩:=p
 obtain⟨V,hV⟩:∃V,V=w.alloc (.cells #[.int .i64 p1,.int .i64 p2] 160):=⟨_,rfl⟩
 have ji:Below w.heap.size w V:=by rw[hV];exact(Below.refl _ w).alloc (Nat.le_refl _) _
 have hx:V.heap[w.heap.size]?=some (.cells #[.int .i64 p1,.int .i64 p2] 160 (0,0)):=by rw[hV];exact bG w _
 have h1:=(h.below ji).drew
 have hS1:Sym Bt V.drew tb o So:=(hS.below ji).same fun _ _=>rfl
 have hlen:=h.per.length_eq
 have hbd:=h.bnd
 obtain⟨n1,n2,n3,n4,n5,n6⟩:=h.ne
 have hok:ou.ok (p1,p2):=VP.ok hl hp
 have hpsh:=VB h1.hpr (Pt (T:=xB hb v) hS1 hl (aj h1.blk 0) (hsep.sub fun k hk=>by rcases hk with hk|hk;exact .inr (.inl hk);exact .inr (.inr (.inr hk))) (by rintro(e|e);exact n1 e;exact n4 e)) h1.ord (x:=((p1,p2),c)) hp (by omega) (by omega) (by omega)
 have hst:V.drew.cell? ⟨b,1,none⟩=some (.pointer (some ⟨hb,0,none⟩))/\V.drew.cell? ⟨w.heap.size,0,none⟩=some (.int .i64 p1)/\V.drew.cell? ⟨w.heap.size,1,none⟩=some (.int .i64 p2):=⟨aj h1.blk 1,aj hx 0,aj hx 1⟩
 have nb:¬xB hb v b:=by rintro(e|e);exact n1 e;exact n4 e
 have nw:¬xB hb v w.heap.size:=fun hk=>by have:=h.hpr.oq _ hk;omega
 have hc1:decide (c<1)=false:=decide_eq_false (by omega)
 have hbl:=bA h.blk
 have HX:=Lib.hid (And.intro h1 (And.intro hS1 (And.intro ji hx)))
 have HH:=Lib.hid (And.intro h (And.intro hS hsep))
 have HN:=Lib.hid (And.intro n1 (And.intro n2 (And.intro n3 (And.intro n4 (And.intro n5 n6)))))
 clear h1 hS1 ji hx h hS hsep n1 n2 n3 n4 n5 n6
 go_enter Tryz.func117,Tryz.ntmps117
 go_wp2_with fail
 rw[<-hV]
 clear hV
 go_region_held3 (fun w'=>w'.cell? ⟨b,1,none⟩=some (.pointer (some ⟨hb,0,none⟩))/\w'.cell? ⟨w.heap.size,0,none⟩=some (.int .i64 p1)/\w'.cell? ⟨w.heap.size,1,none⟩=some (.int .i64 p2)) (first
  |exact hst
  |exact Zu (T:=xB hb v) (by assumption) (by assumption) nb nw nw) (first
  |(go_at_call 146;refine hpsh.mono ?_;rintro e w1 ⟨rfl,v1,R1,hr1,hp1,ho1,hf1,hi1⟩))
 have h2:=oM.pushed HX.out.1 hr1 hp1 ho1 hf1
 have hx1:=hf1.heap HX.out.2.2.2 nw
 have hbd2:=h2.bnd
 obtain⟨w3,hst3,sH,BP⟩:=h2.Gc.drew.store (by unfold maxLen;omega) hok c
 have e1:(Instr.mapUpdate 207 (.map (some kb)) (.agg #[.int .i64 p1,.int .i64 p2]) (.int .i64 c)).run Tryz.prog w1.drew= .ok () w3:=hst3
 have f3:=jI BP
 have k0:w1.cell? ⟨b,2,none⟩=some (.map (some kb)):=aj h2.blk 2
 have k1:w1.cell? ⟨w.heap.size,0,none⟩=some (.int .i64 p1):=aj hx1 0
 have k2:w1.cell? ⟨w.heap.size,1,none⟩=some (.int .i64 p2):=aj hx1 1
 have k0d:w1.drew.cell? ⟨b,2,none⟩=some (.map (some kb)):=k0
 have k1d:w1.drew.cell? ⟨w.heap.size,0,none⟩=some (.int .i64 p1):=k1
 have k2d:w1.drew.cell? ⟨w.heap.size,1,none⟩=some (.int .i64 p2):=k2
 have hpl:=jO (m:=kn) (a:=(p1,p2)) (u:=c)
 have h3:=oM.known h2.drew sH f3 (fun x hx=>by
  rcases put_mem hx with rfl|hx
  ·exact hp
  ·exact h2.WQ x hx) (by omega)
 have qR:Fr (yD b hb kb v) w w3:=((((Fr.dL (S:=yD b hb kb v) HX.out.2.2.1).drew).trans hf1 (fun k hk=> .inl (by rcases hk with hk|hk;exact .inr (.inl hk);exact .inr (.inr (.inr hk))))).drew).trans f3 (fun k hk=> .inl (.inr (.inr (.inl hk))))
 have hi3:Into w (yD b hb kb v) (yD b hb kb v1):=fun k hk=>by
  rcases hk with hk|hk|hk|hk
  ·exact .inl (.inl hk)
  ·exact .inl (.inr (.inl hk))
  ·exact .inl (.inr (.inr (.inl hk)))
  ·rcases hi1 k (.inr hk) with(h9|h9)|h9
   ·exact .inl (.inr (.inl h9))
   ·exact .inl (.inr (.inr (.inr h9)))
   ·exact .inr (Nat.le_trans HX.out.2.2.1.size h9)
 have HQ:=Lib.hid (And.intro h3 (And.intro qR hi3))
 have q5:w3.cell? ⟨b,5,none⟩=some (.int .i64 (pu:Int)):=aj h3.blk 5
 have q5f:w3.frozen? ⟨b,5,none⟩=false:=aX h3.blk 5
 have hpl1:R1.length=R.length+1:=by have:=hp1.length_eq;simpa using this
 clear h2 h3 qR hi3 hr1 hp1 ho1 hf1 hi1 hx1 sH BP f3 hst3 hpsh hst
 go_wp2_with fail
 go_region
 clear e1 k0 k1 k2 k0d k1d k2d
 go_wp2_with fail
 have e5:((pu+1:Nat):Int)=(pu:Int)+1:=by omega
 have h4:=(HQ.out.1.num (i:=5) (u:= .int .i64 ((pu:Int)+1)) (pu':=pu+1) (po':=po) (pe':=pe) (re':=re) (by simp[qcs]) (by rw[List.length_cons];omega)).drew
 have uw:=(HQ.out.2.1.set (p:=⟨b,5,none⟩) (.inl (.inl rfl)) (.int .i64 ((pu:Int)+1))).drew
 obtain⟨W4,Gm⟩:∃W4,W4=w3.setCell ⟨b,5,none⟩ (.int .i64 ((pu:Int)+1)):=⟨_,rfl⟩
 rw[<-Gm] at h4 uw ⊢
 have hl4:=Lib.hid (MK h4.hpr)
 have b4:=h4.blk
 have b4l:=bA b4
 have q1:W4.cell? ⟨b,1,none⟩=some (.pointer (some ⟨hb,0,none⟩)):=aj b4 1
 have q7:W4.cell? ⟨b,7,none⟩=some (.int .i64 (pe:Int)):=aj b4 7
 have q1d:W4.drew.cell? ⟨b,1,none⟩=some (.pointer (some ⟨hb,0,none⟩)):=q1
 have q7d:W4.drew.cell? ⟨b,7,none⟩=some (.int .i64 (pe:Int)):=q7
 have H4:=Lib.hid (And.intro h4 uw)
 have wG:=Lib.hid b4
 have HLN:=Lib.hid (And.intro hlen hpl1)
 clear h4 uw Gm q5 q5f b4 e5 hlen hpl1
 go_region_with (go_at_call 147;refine hl4.out.mono ?_;rintro e w5 ⟨rfl,wL⟩;have b5:=(wL.block b b4l).trans wG.out;have r7:w5.cell? ⟨b,7,none⟩=some (.int .i64 (pe:Int)):=aj b5 7;have r7f:w5.frozen? ⟨b,7,none⟩=false:=aX b5 7;have H5:=Lib.hid wL;clear wL b5)
 all_goals
  have hR1:R1.length=H.length+1:=by have:=HLN.out;omega
  have hpL:(((p1,p2),c)::H).length=H.length+1:=rfl
  have e7:((max pe (H.length+1):Nat):Int)=max (pe:Int) (R1.length:Int):=by omega
  have h6:=(H4.out.1.below H5.out).num (i:=7) (u:= .int .i64 (max (pe:Int) (R1.length:Int))) (pu':=pu+1) (po':=po) (pe':=max pe (H.length+1)) (re':=re) (by rw[<-e7];simp[qcs]) (by rw[hpL];omega)
  have Cm:=((H4.out.2.below H5.out).set (p:=⟨b,7,none⟩) (.inl (.inl rfl)) (.int .i64 (max (pe:Int) (R1.length:Int))))
  obtain⟨W6,hW6⟩:∃W6,W6=w5.setCell ⟨b,7,none⟩ (.int .i64 (max (pe:Int) (R1.length:Int))):=⟨_,rfl⟩
  rw[<-hW6] at h6 Cm ⊢
  have hl6:=Lib.hid (MK h6.hpr)
  have g1:W6.cell? ⟨b,1,none⟩=some (.pointer (some ⟨hb,0,none⟩)):=aj h6.blk 1
  have H6:=Lib.hid (And.intro h6 Cm)
  have HR1:=Lib.hid hR1
  clear h6 Cm hW6 e7 hR1 hpL r7 r7f q1 q7 q1d q7d
  obtain⟨L,hL⟩:∃L,L=(Mp.put kn (p1,p2) c).length:=⟨_,rfl⟩
  have HL:=Lib.hid hL
  clear hL
  obtain⟨N1,hN1⟩:∃N1,N1=R1.length:=⟨_,rfl⟩
  rw[<-hN1] at hl6
  have HN1:=Lib.hid hN1
  clear hN1
  have hLn:L<=1000000:=by have:=HL.out;omega
  by_cases hA1:16<N1
  ·by_cases hA2:2*L<N1
   ·have d1:decide ((N1:Int)>16)=true:=decide_eq_true (by omega)
    have d2:decide ((N1:Int)>2*(L:Int))=true:=decide_eq_true (by omega)
    go_wp2_with (first
     |(go_at_call 147;refine hl6.out.mono ?_;rintro e w7 ⟨rfl,uu⟩;have h7:=H6.out.1.below uu;have g2:w7.cell? ⟨b,2,none⟩=some (.map (some kb)):=aj h7.blk 2;have g3:(Builtin.len_ #[207] 3 #[.map (some kb)]).run Tryz.prog w7= .ok (.int .i64 (L:Int)) w7:=(by rw[HL.out];exact h7.Gc.len 3);have H7:=Lib.hid (And.intro h7 (H6.out.2.below uu));clear h7 uu)
     |(go_at_call 148;refine(Qm H7.out.1 (HH.out.2.1.fr H7.out.2 HH.out.2.2) hl (by have:=HL.out;have:=put_pos (m:=kn) (a:=(p1,p2)) (u:=c);omega) (by have:=HL.out;have:=HN1.out;have:=HR1.out;omega) (by omega) (by omega)).mono ?_;rintro e w8 ⟨rfl,hb8,v8,R8,h8,hh8,hv8,hf8⟩;have H8:=Lib.hid (And.intro h8 (And.intro hh8 (And.intro hv8 hf8)));clear h8 hh8 hv8 hf8))
    go_end0
    obtain⟨h8,hh8,hv8,hf8⟩:=H8.out
    have hcond:16<H.length+1/\2*(Mp.put kn (p1,p2) c).length<H.length+1:=by have:=HL.out;have:=HN1.out;have:=HR1.out;omega
    refine⟨rfl,?_⟩
    unfold Cy
    rw[if_pos hcond,if_pos hcond]
    refine⟨hb8,v8,R8,_,_,h8,H7.out.2.trans hf8 (fun i hi=> .inl (.inl hi)),fun k hk=>?_⟩
    have hsz:=H7.out.2.size
    rcases hk with hk|hk|hk|hk
    ·exact .inl (.inl hk)
    ·exact .inr (by omega)
    ·exact .inl (.inr (.inr (.inl hk)))
    ·exact .inr (Nat.le_trans hsz (hv8 k hk))
   ·have d1:decide ((N1:Int)>16)=true:=decide_eq_true (by omega)
    have d2:decide ((N1:Int)>2*(L:Int))=false:=decide_eq_false (by omega)
    go_wp2_with (go_at_call 147;refine hl6.out.mono ?_;rintro e w7 ⟨rfl,uu⟩;have h7:=H6.out.1.below uu;have g2:w7.cell? ⟨b,2,none⟩=some (.map (some kb)):=aj h7.blk 2;have g3:(Builtin.len_ #[207] 3 #[.map (some kb)]).run Tryz.prog w7= .ok (.int .i64 (L:Int)) w7:=(by rw[HL.out];exact h7.Gc.len 3);have H7:=Lib.hid (And.intro h7 (H6.out.2.below uu));clear h7 uu)
    go_end0
    have hcond:¬(16<H.length+1/\2*(Mp.put kn (p1,p2) c).length<H.length+1):=by have:=HL.out;have:=HN1.out;have:=HR1.out;omega
    refine⟨rfl,?_⟩
    unfold Cy
    rw[if_neg hcond,if_neg hcond]
    exact⟨hb,v1,R1,_,_,H7.out.1,H7.out.2,HQ.out.2.2⟩
  ·have d1:decide ((N1:Int)>16)=false:=decide_eq_false (by omega)
   go_wp2_with (go_at_call 147;refine hl6.out.mono ?_;rintro e w7 ⟨rfl,uu⟩;have h7:=H6.out.1.below uu;have g2:w7.cell? ⟨b,2,none⟩=some (.map (some kb)):=aj h7.blk 2;have g3:(Builtin.len_ #[207] 3 #[.map (some kb)]).run Tryz.prog w7= .ok (.int .i64 (L:Int)) w7:=(by rw[HL.out];exact h7.Gc.len 3);have H7:=Lib.hid (And.intro h7 (H6.out.2.below uu));clear h7 uu)
   go_end0
   have hcond:¬(16<H.length+1/\2*(Mp.put kn (p1,p2) c).length<H.length+1):=by have:=HL.out;have:=HN1.out;have:=HR1.out;omega
   refine⟨rfl,?_⟩
   unfold Cy
   rw[if_neg hcond,if_neg hcond]
   exact⟨hb,v1,R1,_,_,H7.out.1,H7.out.2,HQ.out.2.2⟩
end Go.Proofs.YtilpincgjlclpaaGreat.Ob
end
section
namespace Go.Proofs.YtilpincgjlclpaaGreat.Ob
open Go Go.RowKit Bs Mp jL Hp
open Tm (It St lI)
def QuS (B:Nat) (w:World) (b tb:Nat) (s:St) (n:Nat) (S:Nat->Prop):Prop:=Qu B w b tb s.o s.kn s.H s.pu s.po s.pe s.re n S
theorem oM.more {B b tb hb kb:Nat} {w:World} {v:Value} {o:List J} {kn H R:List It} {pu po pe re jA hpe n m:Nat} (h:oM B w b tb hb kb v o kn H R pu po pe re jA hpe n) (hn:n<=m):oM B w b tb hb kb v o kn H R pu po pe re jA hpe m:=
 ⟨h.lo,h.klo,h.blk,h.Gc,h.WQ,h.hpr,h.ord,h.per,by have:=h.bnd;omega⟩
theorem Hy {B Bt b tb n:Nat} {w:World} {s:St} {S So:Nat->Prop} (h:QuS B w b tb s n S) (hS:Sym Bt w tb s.o So) (hsep:Sep S So) (hl:s.o.length<=1000000) (hn:n<100000) {p:P2} (hp:VP s.o p) {c:Int}:
  Calls Tryz.prog 117 #[.pointer (some ⟨b,0,none⟩),pv p,.int .i64 c] w fun e w'=>e= .returned (.tuple #[])/\∃S',QuS B w' b tb (lI s p c) (n+1) S'/\Fr S w w'/\Into w S S':=by
 obtain⟨hb,kb,v,R,jA,hpe,h,rfl⟩:=h
 by_cases hc:c<1
 ·refine(Kj h (VP.ok hl hp) hc).mono ?_
  rintro e w' ⟨rfl,h',hf⟩
  refine⟨rfl,yD b hb kb v,⟨hb,kb,v,R,jA,hpe,?_,rfl⟩,hf.mono (fun i hi=> .inr (.inr (.inl hi))),Into.refl _ _⟩
  unfold lI
  rw[if_pos hc]
  exact h'.more (by omega)
 ·refine(Zw h hS hsep hl hn hp (by omega)).mono ?_
  rintro e w' ⟨rfl,hb',v',R',hpu',hpe',h',hf,hi⟩
  refine⟨rfl,_,⟨hb',kb,v',R',hpu',hpe',?_,rfl⟩,hf,hi⟩
  unfold lI
  rw[if_neg hc]
  by_cases hd:16<s.H.length+1/\2*(Mp.put s.kn p c).length<s.H.length+1
  ·rw[if_pos hd] at h' ⊢
   rw[if_pos hd] at h'
   exact h'
  ·rw[if_neg hd] at h' ⊢
   rw[if_neg hd] at h'
   exact h'
end Go.Proofs.YtilpincgjlclpaaGreat.Ob
end
section
namespace Go.Proofs.YtilpincgjlclpaaGreat.Ob
open Go Go.RowKit Go.Shelf Bs Mp jL
open Tm (It)
attribute [local go_sem] Oper.semAt_some
set_option maxRecDepth 100000 in
set_option maxHeartbeats 1000000 in
theorem Vp (F:Fence) (n:Nat) (h1:F.fn 150) (h2:F.fn 151) (hro:F.round=none) (hn:1<=n) (l Bm hb:Nat) (J:Nat->World->Prop) (J1:Nat->It->World->Prop) (Jx Jd:World->Prop)
  (hBm:∀k W,J k W->W.cell? ⟨Bm,0,none⟩=some (.pointer (some ⟨hb,0,none⟩)))
  (hP:∀k W,J k W->CallsIn F (n-1) Tryz.prog 151 #[.pointer (some ⟨hb,0,none⟩)] W fun e W'=>(e= .returned (.tuple #[iv d0,.bool false])/\Jd W')\/(∃x j,j<k/\e= .returned (.tuple #[iv x,.bool true])/\J1 j x W'))
  (hA1:∀k x W o,J1 k x W->J1 k x (W.alloc o)) (hAd:∀W o,Jd W->Jd (W.alloc o))
  (hY:∀k x W,J1 k x W->YieldAt F (n-1) Tryz.prog l #[iv x] W fun e W'=>(e= .returned (.bool true)/\J k W')\/(e= .returned (.bool false)/\Jx W'))
  (k:Nat) (W:World) (h0:J k W):
  CallsIn F n Tryz.prog 150 #[.func (.yield l) #[] #[],.pointer (some ⟨Bm,0,none⟩)] W fun e W'=>(∃v,e= .returned v)/\(Jd W'\/Jx W'):=by
 refine callsIn_of_wp Tryz.func150 rfl h1 ?_ hro
 simp only[Tryz.ntmps150,List.size_toArray,List.length_cons,List.length_nil,Nat.reduceAdd,Nat.reduceSub,Array.replicate_succ,Array.replicate_zero,List.push_toArray,List.append_toArray,List.nil_append,List.cons_append]
 gi_wp2
 try go_frame
 gi_loopg [5] k (fun gk _ wr=>J gk wr)
 case atStart=>exact h0
 case round=>
  have hbm:=hBm _ _ hrel
  have HPo:=Lib.hid (hP _ _ hrel)
  gi_wp2_with (first
   |(gi_at_call 151;refine HPo.out.mono ?_;rintro e w1 (⟨rfl,hd⟩|⟨x,j,hj,rfl,h1j⟩))
   |gi_in)
  ·have HD:=Lib.hid (hAd w1 (.cells #[.int .i64 0,.int .i64 0,.int .i64 0] 162) hd)
   clear hd
   gi_wp2
   refine⟨by simp,?_⟩
   gi_wp2
   refine bodyPost_ret (results_none rfl _ _ _) rfl ?_
   exact⟨⟨_,rfl⟩,.inl HD.out⟩
  ·obtain⟨⟨x1,x2⟩,xc⟩:=x
   obtain⟨fn,tmps,assign,body,hy,hR⟩:=hY j ((x1,x2),xc) (w1.alloc (.cells #[.int .i64 x1,.int .i64 x2,.int .i64 xc] 162)) (hA1 _ _ _ _ h1j)
   clear h1j
   gi_wp2
   refine hR.mono ?_
   rintro e W3 (⟨rfl,hJ4⟩|⟨rfl,hJx⟩)
   ·gi_wp2
    go_roundg j
    case measure=>exact hj
    case rel=>exact hJ4
   ·gi_wp2
    refine bodyPost_ret (results_none rfl _ _ _) rfl ?_
    exact⟨⟨_,rfl⟩,.inr hJx⟩
end Go.Proofs.YtilpincgjlclpaaGreat.Ob
end
