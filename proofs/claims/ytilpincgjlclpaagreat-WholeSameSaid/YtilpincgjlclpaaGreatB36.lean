import Derived.Test.YtilpincgjlclpaaGreatB35
set_option linter.unusedVariables false
set_option linter.unusedSimpArgs false
section
namespace Go.Proofs.YtilpincgjlclpaaGreat.Ob
open Go Go.RowKit Bs Mp jL Hp
open Go.Proofs.ae.au (iV eY xR Kd.C Kd.string Kd.bY)
open Pr (fV.f dN lQ Eo)
theorem alloc6 (w:World) (o0 o1 o2 o3 o4 o5:Obj):Below w.heap.size w ((((((w.alloc o0).alloc o1).alloc o2).alloc o3).alloc o4).alloc o5)/\w.heap.size+6<=((((((w.alloc o0).alloc o1).alloc o2).alloc o3).alloc o4).alloc o5).heap.size/\((((((w.alloc o0).alloc o1).alloc o2).alloc o3).alloc o4).alloc o5).heap[w.heap.size]?=some o0/\((((((w.alloc o0).alloc o1).alloc o2).alloc o3).alloc o4).alloc o5).heap[w.heap.size+1]?=some o1/\((((((w.alloc o0).alloc o1).alloc o2).alloc o3).alloc o4).alloc o5).heap[w.heap.size+2]?=some o2/\((((((w.alloc o0).alloc o1).alloc o2).alloc o3).alloc o4).alloc o5).heap[w.heap.size+3]?=some o3/\((((((w.alloc o0).alloc o1).alloc o2).alloc o3).alloc o4).alloc o5).heap[w.heap.size+4]?=some o4/\((((((w.alloc o0).alloc o1).alloc o2).alloc o3).alloc o4).alloc o5).heap[w.heap.size+5]?=some o5:=by
 obtain⟨h1,h2,h3,h4,h5,h6,h7⟩:=XO w o0 o1 o2 o3 o4
 have h8:=bG (((((w.alloc o0).alloc o1).alloc o2).alloc o3).alloc o4) o5
 have hs:(((((w.alloc o0).alloc o1).alloc o2).alloc o3).alloc o4).heap.size=w.heap.size+5:=by simp
 rw[hs] at h8
 exact⟨h1.alloc (by omega) _,by simp,dw h3 _,dw h4 _,dw h5 _,dw h6 _,dw h7 _,h8⟩
def FD (r:Int) (F:ByteArray) (v:Value) (s6:S6) (n:Int):Value:=if r=0 then uz F v s6 n 0 else uz ByteArray.empty (.slice none 0 0) z6 0 r
def wS (x:ByteArray×Int):dN:=⟨x.1,x.2⟩
theorem Sz:∀{ms:List (ByteArray×Int)} {j:Nat} {x:ByteArray×Int},ms[j]?=some x->(ms.flatMap AP)[j*2]?=some (.string x.1)/\(ms.flatMap AP)[j*2+1]?=some (.int .i64 x.2)
 |[],j,x,h=>by simp at h
 |y::ms,0,x,h=>by simp at h;subst h;exact⟨rfl,rfl⟩
 |y::ms,j+1,x,h=>by
  obtain⟨h1,h2⟩:=Sz (ms:=ms) (j:=j) (x:=x) (by simpa using h)
  rw[List.flatMap_cons,show(j+1)*2=(AP y).length+j*2 by simp[AP];omega,show(AP y).length+j*2+1=(AP y).length+(j*2+1) by omega]
  rw[List.getElem?_append_right (by omega),List.getElem?_append_right (by omega),Nat.add_sub_cancel_left,Nat.add_sub_cancel_left]
  exact⟨h1,h2⟩
theorem OE {w:World} {B:Nat} {A:Option Addr} {n c:Nat} {T:List (ByteArray×Int)} (h:w.ownsRow B TWd 2 (.slice A n c) T.length (T.flatMap AP)) (hl:T.length<=1000000):n=T.length/\T.length<=c/\Kd.C lQ w A (T.map wS).length (T.map wS):=by
 rcases h.2 with⟨e,h0⟩|⟨g,cap,cur,e,hg,hb,hc,hm,hs,ht⟩
 ·cases e
  have:T=[]:=List.eq_nil_of_length_eq_zero h0
  subst this
  exact⟨rfl,Nat.le_refl _,⟨rfl,by simp,fun h=>by simp at h⟩⟩
 ·cases e
  refine⟨rfl,hc,⟨rfl,by rw[List.length_map];omega,fun hp=>⟨_,rfl,fun j p hj=>?_⟩⟩⟩
  rw[List.getElem?_map] at hj
  obtain⟨x,hx,rfl⟩:=Option.map_eq_some_iff.1 hj
  obtain⟨g',e',_,_,_,hcell,_⟩:=gz h (by rw[List.length_map] at hp;exact hp)
  cases e'
  obtain⟨h1,h2⟩:=Sz hx
  have a0:=hcell _ _ h1
  have a1:=hcell _ _ h2
  refine⟨_,rfl,Eo w (wS x),fun i u hi=>?_⟩
  have hadd:∀k:Nat,(⟨g,0,none⟩:Addr).add k=⟨g,k,none⟩:=fun k=>by unfold Addr.add;split<;>simp_all
  match i,hi with
  |0,hi=>
   simp at hi
   subst hi
   rw[hadd]
   exact a0
  |1,hi=>
   simp at hi
   subst hi
   rw[hadd]
   exact a1
set_option maxHeartbeats 8000000 in
set_option maxRecDepth 100000 in
theorem run_run {w:World} {x:GI} {ms:List (ByteArray×ByteArray)} {F:ByteArray} {s6:S6} {r:Int} (hM:∀k,x.MS k->k<w.heap.size) (hp:fV.f x.bu x.mn x.li=some x.r0)
  (hread:x.r0=0->∀W,Below w.heap.size w W->Calls Tryz.prog 18 #[.iface x.Tx x.px,.int .i64 x.li] W fun e w'=>Fr x.MS W w'/\∃A c,e= .returned (.tuple #[.slice A x.Y.length c,.int .i64 x.E])/\x.Y.length<=c/\Kd.C Kd.string w' A x.Y.length x.Y)
  (hn:x.Y.length<=100000) (hs:∀y∈x.Y,y.size<=maxLen) (hTl:x.T.length<=1000000)
  (htab:x.rr=0->∀V A c,x.T.length<=c->Kd.C lQ V A (x.T.map wS).length (x.T.map wS)->Calls Tryz.prog 10 #[.slice A x.T.length c,Gs x.bu x.mn x.li] V fun e w'=>Below V.heap.size V w'/\∃Av lv cv,e= .returned (FD r F (.slice Av lv cv) s6 x.T.length)/\(r=0->w'.ownsRow V.heap.size Cz 2 (.slice Av lv cv) ms.length (ms.flatMap mW))):
  Calls Tryz.prog 33 #[.iface x.Tx x.px,Gs x.bu x.mn x.li] w fun e w'=>Fr x.MS w w'/\(x.rr≠0->e= .returned (uz ByteArray.empty (.slice none 0 0) z6 0 x.rr))/\(x.rr=0->∃Av lv cv,e= .returned (FD r F (.slice Av lv cv) s6 x.T.length)/\(r=0->w'.ownsRow w.heap.size Cz 2 (.slice Av lv cv) ms.length (ms.flatMap mW))):=by
 have Xd:=Lib.hid (fun(W0:World) (h0:JR w x 0 W0)=>NY h0 hM hp hread hn hs)
 have HT:=Lib.hid (And.intro htab hTl)
 clear hp hread hn hs htab hTl
 unfold Gs
 go_enter Tryz.func33,Tryz.ntmps33
 go_wp2_with fail
 refine(Xd.out _ (alloc6 w _ _ _ _ _ _)).mono ?_
 rintro e w1 ⟨rfl,h1,h2⟩
 by_cases hr:x.rr=0
 ·obtain⟨g1,g2,g3,hF,h6,b1,b2,b5,v,b4,ho⟩:=h1 hr
  obtain⟨A2,c2,rfl⟩:=Bs.bU ho
  obtain⟨_,hc2,hC2⟩:=OE ho HT.out.2
  have p0:w1.cell? ⟨w.heap.size+1,0,none⟩=some (.int .i64 x.bu):=aj b1 0
  have p1:w1.cell? ⟨w.heap.size+1,1,none⟩=some (.int .i64 x.mn):=aj b1 1
  have p2:w1.cell? ⟨w.heap.size+1,2,none⟩=some (.int .i64 x.li):=aj b1 2
  have q0:w1.cell? ⟨w.heap.size+1+1+1+1,0,none⟩=some (.slice A2 x.T.length c2):=aj (g:=w.heap.size+1+1+1+1) b4 0
  have htb:=HT.out.1 hr w1 A2 c2 hc2 hC2
  unfold Gs at htb
  have HX:=Lib.hid (And.intro hF (And.intro b2 (And.intro h6 hr)))
  have HTB:=Lib.hid htb
  obtain⟨NT,hNT⟩:∃NT,NT=x.T.length:=⟨_,rfl⟩
  obtain⟨rr,hrr⟩:∃rr,rr=x.rr:=⟨_,rfl⟩
  rw[<-hrr] at hr ⊢
  subst hr
  rw[<-hNT] at q0 HTB
  have HN:=Lib.hid (And.intro hNT hrr)
  clear h1 h2 g1 g2 g3 hF h6 b1 b2 b5 b4 ho hc2 hC2 htb hNT hrr hM
  go_wp2_with fail
  refine HTB.out.mono ?_
  rintro e w2 ⟨hB2,Av,lv,cv,rfl,ho2⟩
  have k2:=(hB2.block _ (bA HX.out.2.1)).trans HX.out.2.1
  obtain⟨z0,z1,z2,z3,z4,z5,z6',z7,z8,z9⟩:=nP (g:=w.heap.size+1+1) k2
  obtain⟨g0,g1,g2,g3,g4,g5,g6,g7,g8,g9⟩:=zT (g:=w.heap.size+1+1) k2
  have K2:=Lib.hid (And.intro hB2 (And.intro k2 ho2))
  clear hB2 k2 ho2
  by_cases hrt:r=0
  ·subst hrt
   obtain⟨s0,s1,s2,s3,s4,s5⟩:=s6
   unfold FD
   rw[if_pos rfl]
   unfold uz lW
   simp only
   go_wp2_with fail
   refine bodyPost_ret (eY rfl (.cell (w.heap.size+1+1) Gb (lW F (.slice Av lv cv) ⟨s0,s1,s2,s3,s4,s5⟩ NT 0) (0,0) _ rfl (mX (s':=⟨s0,s1,s2,s3,s4,s5⟩) (g:=w.heap.size+1+1) K2.out.2.1) Tryz.underlying32 rfl (by kernel_rfl) .nil)) rfl ?_
   obtain⟨hF,b2,h6,hr⟩:=HX.out
   obtain⟨hB2,k2,ho2⟩:=K2.out
   have hf:=pY (S:=fun k=>k=w.heap.size+2) (Fr.refl _ w2) (g:=w.heap.size+2) (.inl rfl) (.string F) (.slice Av lv cv) (.int .i64 s0) (.int .i64 s1) (.int .i64 s2) (.int .i64 s3) (.int .i64 s4) (.int .i64 s5) (.int .i64 NT) (.int .i64 0)
   have hFw:=hF.below hB2
   simp only[forall_const] at ho2
   have ho3:=hf.own ho2 (fun g hg e=>by have:=(eG ho2 hg).1;have e2:g=w.heap.size+2:=e;omega)
   refine⟨hFw.trans hf (fun i hi=> .inr (by rw[show i=w.heap.size+2 from hi];omega)),fun h=>(h hr).elim,fun _=>⟨Av,lv,cv,?_,Bi ho3 (by omega)⟩⟩
   unfold FD
   rw[if_pos rfl,<-HN.out.1]
   rfl
  ·unfold FD
   rw[if_neg hrt]
   unfold uz lW z6
   simp only
   go_wp2_with fail
   refine bodyPost_ret (eY rfl (.cell (w.heap.size+1+1) Gb (lW ByteArray.empty (.slice none 0 0) z6 0 r) (0,0) _ rfl (mX (s':=z6) (g:=w.heap.size+1+1) K2.out.2.1) Tryz.underlying32 rfl (by kernel_rfl) .nil)) rfl ?_
   obtain⟨hF,b2,h6,hr⟩:=HX.out
   obtain⟨hB2,k2,ho2⟩:=K2.out
   have hf:=pY (S:=fun k=>k=w.heap.size+2) (Fr.refl _ w2) (g:=w.heap.size+2) (.inl rfl) (.string ByteArray.empty) (.slice none 0 0) (.int .i64 0) (.int .i64 0) (.int .i64 0) (.int .i64 0) (.int .i64 0) (.int .i64 0) (.int .i64 0) (.int .i64 r)
   refine⟨(hF.below hB2).trans hf (fun i hi=> .inr (by rw[show i=w.heap.size+2 from hi];omega)),fun h=>(h hr).elim,fun _=>⟨Av,lv,cv,?_,fun h=>(hrt h).elim⟩⟩
   unfold FD
   rw[if_neg hrt]
   rfl
 ·obtain⟨_,hF,h6,b2⟩:=h2 hr
  have hrc:=Fs ByteArray.empty none 0 0 z6 0 0 x.rr w1
  rw[if_neg hr] at hrc
  unfold uz lW z6 at hrc
  simp only at hrc
  have HX:=Lib.hid (And.intro hF (And.intro b2 h6))
  have HR:=Lib.hid hrc
  obtain⟨rr,hrr⟩:∃rr,rr=x.rr:=⟨_,rfl⟩
  rw[<-hrr] at hr HR ⊢
  have HN:=Lib.hid hrr
  clear h1 h2 hF h6 b2 hrc hrr hM
  go_wp2_with (go_at_call 41;refine HR.out.mono ?_;clear HR;rintro e w2 ⟨rfl,hB2⟩;have k2:=(hB2.block _ (bA HX.out.2.1)).trans HX.out.2.1;obtain⟨z0,z1,z2,z3,z4,z5,z6',z7,z8,z9⟩:=nP (g:=w.heap.size+1+1) k2;obtain⟨g0,g1,g2,g3,g4,g5,g6,g7,g8,g9⟩:=zT (g:=w.heap.size+1+1) k2;have K2:=Lib.hid (And.intro hB2 k2);clear hB2 k2)
  refine bodyPost_ret (eY rfl (.cell (w.heap.size+1+1) Gb (lW ByteArray.empty (.slice none 0 0) z6 0 rr) (0,0) _ rfl (mX (s':=z6) (g:=w.heap.size+1+1) K2.out.2) Tryz.underlying32 rfl (by kernel_rfl) .nil)) rfl ?_
  obtain⟨hF,b2,h6⟩:=HX.out
  obtain⟨hB2,k2⟩:=K2.out
  have hf:=pY (S:=fun k=>k=w.heap.size+2) (Fr.refl _ w2) (g:=w.heap.size+2) (.inl rfl) (.string ByteArray.empty) (.slice none 0 0) (.int .i64 0) (.int .i64 0) (.int .i64 0) (.int .i64 0) (.int .i64 0) (.int .i64 0) (.int .i64 0) (.int .i64 rr)
  refine⟨(hF.below hB2).trans hf (fun i hi=> .inr (by rw[show i=w.heap.size+2 from hi];omega)),fun _=>?_,fun h=>(hr (by rw[HN.out];exact h)).elim⟩
  rw[<-HN.out]
  rfl
end Go.Proofs.YtilpincgjlclpaaGreat.Ob
end
section
namespace Go.Proofs.YtilpincgjlclpaaGreat.Ob
open Go Go.RowKit Bs Mp jL
open Pr (dN)
open uA (iJ oz)
def lN:List ByteArray->ByteArray->Nat
 |[],_=>0
 |y::Y,s=>(if y=s then 1 else 0)+lN Y s
theorem DU (s:ByteArray):∀(X Y:List ByteArray),lN (X++Y) s=lN X s+lN Y s
 |[],Y=>by simp[lN]
 |x::X,Y=>by rw[List.cons_append,lN,lN,DU s X Y];omega
theorem vg {s:ByteArray}:∀{Y:List ByteArray},lN Y s≠0↔s∈Y
 |[]=>by simp[lN]
 |y::Y=>by
  have ih:=vg (s:=s) (Y:=Y)
  rw[lN,List.mem_cons,<-ih]
  by_cases h:y=s
  ·rw[if_pos h]
   exact⟨fun _=> .inl h.symm,fun _=>by omega⟩
  ·rw[if_neg h]
   exact⟨fun h2=> .inr (by omega),fun h2=>by
    rcases h2 with h2|h2
    ·exact(h h2.symm).elim
    ·omega⟩
theorem yV (s:ByteArray):∀(Y:List ByteArray),lN Y s<=Y.length
 |[]=>by simp[lN]
 |y::Y=>by
  have:=yV s Y
  rw[lN,List.length_cons]
  split<;>omega
structure Tb (Y:List ByteArray) (m:List SM):Prop where
 nd:(m.map Prod.fst).Nodup
 gt:∀s,Mp.get m s=if lN Y s=0 then none else some ((lN Y s:Nat):Int)
theorem Tb.nil:Tb [] []:=⟨by simp,fun s=>rfl⟩
theorem SG {m:List SM} {s:ByteArray}:Mp.get m s=none↔s∉m.map Prod.fst:=by
 rw[get_none]
 constructor
 ·intro h hs
  obtain⟨p,hp,e⟩:=List.mem_map.1 hs
  exact h p hp e
 ·intro h p hp e
  exact h (List.mem_map.2 ⟨p,hp,e⟩)
theorem Tb.keys {Y:List ByteArray} {m:List SM} (h:Tb Y m) (s:ByteArray):s∈m.map Prod.fst↔s∈Y:=by
 have h1:=h.gt s
 rw[<-vg (s:=s) (Y:=Y)]
 have h2:Mp.get m s=none↔s∉m.map Prod.fst:=SG
 by_cases hc:lN Y s=0
 ·rw[if_pos hc] at h1
  exact⟨fun h3=>absurd h3 (h2.1 h1),fun h3=>absurd hc h3⟩
 ·refine⟨fun _=>hc,fun _=>Classical.byContradiction fun h3=>?_⟩
  rw[if_neg hc,h2.2 h3] at h1
  cases h1
theorem put_fst {m:List SM} {a:ByteArray} {u v:Int}:Mp.get m a=some v->(put m a u).map Prod.fst=m.map Prod.fst:=by
 induction m with
 |nil=>intro h;cases h
 |cons q m ih=>
  obtain⟨x,y⟩:=q
  intro h
  rw[Mp.get] at h
  rw[put]
  by_cases e:x=a
  ·rw[if_pos e,e];rfl
  ·rw[if_neg e] at h ⊢
   rw[List.map_cons,List.map_cons,ih h]
theorem Tb.add {Y:List ByteArray} {m:List SM} (h:Tb Y m) (hl:Y.length<=1000000) {y:ByteArray} (hy:y≠ByteArray.empty):(oQ m y 1).2=0/\Tb (Y++[y]) (oQ m y 1).1:=by
 have hc:=yV y Y
 have hv:(Mp.get m y).getD 0=((lN Y y:Nat):Int):=by
  rw[h.gt]
  by_cases h0:lN Y y=0
  ·rw[if_pos h0,h0];rfl
  ·rw[if_neg h0];rfl
 have hA:oQ m y 1=(put m y ((lN Y y:Nat)+1:Int),0):=by
  unfold oQ
  rw[if_neg (by rintro(h9|h9);exact hy h9;omega),hv,if_pos (by omega)]
 rw[hA]
 refine⟨rfl,?_,fun s=>?_⟩
 ·show((put m y _).map Prod.fst).Nodup
  cases hg:Mp.get m y with
  |none=>
   rw[KA hg,List.map_append,List.nodup_append]
   refine⟨h.nd,by simp,fun a ha b hb e=>?_⟩
   simp at hb
   subst hb
   subst e
   exact SG.1 hg ha
  |some v=>rw[put_fst hg];exact h.nd
 ·show Mp.get (put m y _) s=_
  rw[get_put,DU,lN,lN]
  by_cases e:y=s
  ·subst e
   rw[if_pos rfl,if_pos rfl,if_neg (by omega)]
   rfl
  ·rw[if_neg e,if_neg e,h.gt]
   rfl
theorem Tb.all:∀{Y X:List ByteArray} {m:List SM},Tb X m->X.length+Y.length<=1000000->(∀y∈Y,y≠ByteArray.empty)->(fH m Y).2=0/\Tb (X++Y) (fH m Y).1
 |[],X,m,h,_,_=>by rw[List.append_nil];exact⟨rfl,h⟩
 |y::Y,X,m,h,hl,hy=>by
  rw[List.length_cons] at hl
  obtain⟨h1,h2⟩:=h.add (by omega) (hy y (by simp))
  obtain⟨h3,h4⟩:=Tb.all (Y:=Y) h2 (by rw[List.length_append,List.length_singleton];omega) (fun z hz=>hy z (by simp[hz]))
  rw[fH,if_pos h1]
  exact⟨h3,by simpa using h4⟩
def Bq (Y:List ByteArray):List SM:=fz (fH [] Y).1
def lY (Y:List ByteArray):List dN:=(Bq Y).map wS
abbrev NE (Y:List ByteArray):Prop:=∀y∈Y,y≠ByteArray.empty
theorem Ur {Y:List ByteArray} (hl:Y.length<=1000000) (hy:NE Y):(fH [] Y).2=0/\Tb Y (fH [] Y).1:=by
 have:=Tb.nil.all (Y:=Y) (by simpa using hl) hy
 simpa using this
theorem uX (s:ByteArray):(⟨s.data.toList.toArray⟩:ByteArray)=s:=by rw[Array.toArray_toList]
theorem Ql {s t:ByteArray} (h:s.data.toList=t.data.toList):s=t:=by rw[<-uX s,h,uX]
theorem Tb.kl {Y:List ByteArray} {m:List SM} (h:Tb Y m):(m.map Cs).Nodup/\∀t,t∈m.map Cs↔(⟨t.toArray⟩:ByteArray)∈Y:=by
 have e:m.map Cs=(m.map Prod.fst).map fun s=>s.data.toList:=by rw[List.map_map];rfl
 rw[e]
 refine⟨?_,fun t=>?_⟩
 ·rw[List.nodup_iff_pairwise_ne,List.pairwise_map]
  exact(List.nodup_iff_pairwise_ne.1 h.nd).imp fun hne e=>hne (Ql e)
 ·rw[<-h.keys,List.mem_map]
  constructor
  ·rintro⟨s,hs,rfl⟩
   rw[uX]
   exact hs
  ·intro hs
   exact⟨_,hs,rfl⟩
theorem Uq {Y:List ByteArray} (hl:Y.length<=1000000) (hy:NE Y) {L:List SM} (hs:(L.map Cs).Pairwise (· < ·)) (hc:∀x∈L,x.2=((lN Y x.1:Nat):Int)/\x.1∈Y) (hm:∀s∈Y,s∈L.map Prod.fst):Bq Y=L:=by
 have h:=(Ur hl hy).2
 unfold Bq
 generalize (fH [] Y).1=m at h ⊢
 have hnd:(L.map Cs).Nodup:=by
  rw[List.nodup_iff_pairwise_ne]
  exact hs.imp fun h e=>by subst e;exact List.lt_irrefl _ h
 have hk:(m.map Cs).Perm (L.map Cs):=by
  rw[List.perm_ext_iff_of_nodup h.kl.1 hnd]
  intro t
  rw[h.kl.2]
  constructor
  ·intro ht
   obtain⟨x,hx,e⟩:=List.mem_map.1 (hm _ ht)
   refine List.mem_map.2 ⟨x,hx,?_⟩
   show x.1.data.toList=t
   rw[e]
  ·intro ht
   obtain⟨x,hx,rfl⟩:=List.mem_map.1 ht
   show(⟨x.1.data.toList.toArray⟩:ByteArray)∈Y
   rw[uX]
   exact(hc x hx).2
 have hss:(L.map Cs).mergeSort (fun x y=>decide (x<=y))=L.map Cs:=List.mergeSort_of_pairwise (hs.imp fun h=>by simpa using List.le_of_lt h)
 unfold fz
 have:=mergeSort_of_perm hk
 unfold leB at this
 rw[this,hss,List.map_map]
 conv=>rhs;rw[<-List.map_id L]
 refine List.map_congr_left fun x hx=>?_
 obtain⟨h1,h2⟩:=hc x hx
 have hne:=vg.2 h2
 show((⟨x.1.data.toList.toArray⟩:ByteArray),(Mp.get m ⟨x.1.data.toList.toArray⟩).getD 0)=x
 rw[uX,h.gt,if_neg hne,Option.getD_some,<-h1]
def Uo (m:List SM):Nat:=(m.map fun x=>x.1.size).sum
theorem put_szs (m:List SM) (a:ByteArray) (u:Int):Uo (put m a u)<=Uo m+a.size:=by
 induction m with
 |nil=>simp[put,Uo]
 |cons q m ih=>
  obtain⟨x,v⟩:=q
  rw[put]
  unfold Uo at ih ⊢
  by_cases e:x=a
  ·rw[if_pos e,List.map_cons,List.map_cons,List.sum_cons,List.sum_cons,e];simp only;omega
  ·rw[if_neg e,List.map_cons,List.map_cons,List.sum_cons,List.sum_cons];simp only;omega
theorem XM (m:List SM) (s:ByteArray) (n:Int):Uo (oQ m s n).1<=Uo m+s.size:=by
 unfold oQ
 split
 ·exact Nat.le_add_right _ _
 ·split
  ·exact put_szs m s _
  ·exact Nat.le_add_right _ _
theorem BH:∀(Y:List ByteArray) (m:List SM),Uo (fH m Y).1<=Uo m+(Y.map ByteArray.size).sum
 |[],m=>by simp[fH]
 |y::Y,m=>by
  have h1:=XM m y 1
  have h2:=BH Y (oQ m y 1).1
  rw[fH,List.map_cons,List.sum_cons]
  split
  ·omega
  ·simp only;omega
theorem aaA (Y:List ByteArray):(Bq Y).length<=Y.length:=by
 unfold Bq fz
 rw[List.length_map,List.length_mergeSort,List.length_map]
 have:=uW Y []
 simpa using this
theorem aaB (Y:List ByteArray):Uo (Bq Y)<=(Y.map ByteArray.size).sum:=by
 have h1:=BH Y []
 have h0:Uo ([]:List SM)=0:=rfl
 rw[h0] at h1
 refine Nat.le_trans (Nat.le_of_eq ?_) (Nat.le_trans h1 (by omega))
 unfold Bq fz Uo
 rw[List.map_map]
 have hp:=(List.mergeSort_perm ((fH [] Y).1.map Cs) fun x y=>decide (x<=y)).map (fun t:List UInt8=>t.length)
 have:=hp.sum_nat
 rw[List.map_map] at this
 have e1:((fun x:SM=>x.1.size)∘fun t:List UInt8=>((⟨t.toArray⟩:ByteArray),(Mp.get (fH [] Y).1 ⟨t.toArray⟩).getD 0))=fun t=>t.length:=by
  funext t;rfl
 have e2:((fun t:List UInt8=>t.length)∘Cs)=fun x:SM=>x.1.size:=by
  funext x
  show x.1.data.toList.length=x.1.size
  simp
 rw[e1,this,e2]
theorem sum_ge {l:List Nat} (h:∀x∈l,1<=x):l.length<=l.sum:=by
 induction l with
 |nil=>simp
 |cons x l ih=>
  have:=ih (fun y hy=>h y (by simp[hy]))
  have:=h x (by simp)
  rw[List.length_cons,List.sum_cons]
  omega
theorem Df {l:List Nat} {x:Nat} (h:x∈l):x<=l.sum:=by
 induction l with
 |nil=>simp at h
 |cons y l ih=>
  rw[List.sum_cons]
  rcases List.mem_cons.1 h with rfl|h
  ·omega
  ·have:=ih h;omega
theorem ne_size {Y:List ByteArray} (h:NE Y):Y.length<=(Y.map ByteArray.size).sum:=by
 have:=sum_ge (l:=Y.map ByteArray.size) (fun x hx=>by
  obtain⟨y,hy,rfl⟩:=List.mem_map.1 hx
  have:=h y hy
  have h2:y.size≠0:=fun e=>this (by
   apply ByteArray.ext
   exact Array.size_eq_zero_iff.1 e)
  omega)
 rw[List.length_map] at this
 exact this
theorem Br {Y:List ByteArray} (hy:NE Y) (hs:(Y.map ByteArray.size).sum<=300):iJ (lY Y)/\((gB (lY Y)).map List.length).sum<=300/\Y.length<=300/\(Bq Y).length<=300:=by
 have h1:=ne_size hy
 have h2:=aaA Y
 have h3:=aaB Y
 have ht:=(Ur (by omega) hy).2
 refine⟨⟨by unfold lY;rw[List.length_map];omega,fun x hx=>?_⟩,?_,by omega,by omega⟩
 ·unfold lY at hx
  obtain⟨p,hp,rfl⟩:=List.mem_map.1 hx
  refine⟨?_,?_⟩
  ·have:p.1.size<=Uo (Bq Y):=Df (List.mem_map.2 ⟨p,hp,rfl⟩)
   show p.1.size<=300
   omega
  ·unfold Bq fz at hp
   obtain⟨t,_,rfl⟩:=List.mem_map.1 hp
   show oz ((Mp.get (fH [] Y).1 ⟨t.toArray⟩).getD 0)
   rw[ht.gt]
   have:=yV ⟨t.toArray⟩ Y
   unfold oz
   split
   ·rw[Option.getD_none];omega
   ·rw[Option.getD_some];omega
 ·have:((gB (lY Y)).map List.length).sum=Uo (Bq Y):=by
   unfold gB lY Uo
   rw[List.map_map,List.map_map]
   congr 1
  omega
end Go.Proofs.YtilpincgjlclpaaGreat.Ob
end
section
namespace Go.Proofs.YtilpincgjlclpaaGreat.Ob
open Go Go.RowKit Go.Proofs.ae.au Pr Bs Mp jL Hp
open gJ (iW nK)
open Tm (mg)
open uA (iJ)
structure Lnt (l:List dN) (bu mn li:Int):Prop where
 ok:iW (gB l) (gG l)
 oko:OkO (gB l) (kU l bu mn)
 lrn:nK (gB l) (gG l) bu mn [] (mg (kU l bu mn))
 bnd:Tm.Bnd (fG (gI l)) (vV l bu mn)
 mn1:1<=mn
 bu0:0<=bu
 len:(kU l bu mn).length<=100000
 siz:∀x∈pR (kU l bu mn),x.1.size<=300/\x.2.size<=300
theorem tJ (o:List J):pR o=(mg o).map fun x=>(x.f0,x.f1):=by
 unfold pR mg
 rw[List.map_map]
 rfl
theorem lnt {l:List dN} {bu mn li:Int} (hf:iJ l) (hs:((gB l).map List.length).sum<=6000) (h:ic l bu mn li=0):Lnt l bu mn li:=by
 obtain⟨hp,_,_,_,hk⟩:=AR hf hs h
 obtain⟨q1,q2,q3,q4,q5⟩:=ZQ hp
 obtain⟨h3,h4⟩:=Tm.Nv hk q3 (budget:=bu) q1
 rw[wo,tZ] at h4
 have hsz:=gJ.nK.sizes hk h3 (by simp)
 have hb:=gJ.nK.budget h3 (by simpa using q1)
 refine⟨hk,VL hk q3 bu,h3,h4,q3,q1,?_,fun x hx=>?_⟩
 ·have h5:=h4.ro
  have h6:=TY hk
  rw[tZ] at h6
  have h7:=h6.2
  show(vV l bu mn).o.length<=100000
  have:(vV l bu mn).o.length<=fG (gI l):=by
   have:=h5
   unfold vV
   omega
  omega
 ·rw[tJ] at hx
  obtain⟨y,hy,rfl⟩:=List.mem_map.1 hx
  exact hsz y hy
noncomputable def rM (l:List dN) (bu mn:Int):List (ByteArray×ByteArray):=pR (kU l bu mn)
noncomputable def zJ (l:List dN) (bu mn:Int):ByteArray:=⟨(kH (rM l bu mn)).toArray⟩
theorem tab_c {w:World} {A:Option Addr} {c0:Nat} {l:List dN} (hC:Kd.C lQ w A l.length l) (hc0:l.length<=c0) (hf:iJ l) (hs:((gB l).map List.length).sum<=6000) (bu mn li:Int):
  Calls Tryz.prog 10 #[.slice A l.length c0,Gs bu mn li] w fun e w'=>Below w.heap.size w w'/\∃Av lv cv,e= .returned (FD (ic l bu mn li) (zJ l bu mn) (.slice Av lv cv) (rO l bu mn li) l.length)/\(ic l bu mn li=0->w'.ownsRow w.heap.size Cz 2 (.slice Av lv cv) (rM l bu mn).length ((rM l bu mn).flatMap mW)):=by
 classical
 have hl0:∀V,Below w.heap.size w V->Calls Tryz.prog 14 #[.slice A l.length c0,Gs bu mn li] V fun e W'=>∃Av lv cv,e= .returned (.tuple #[.slice Av lv cv,WS (rO l bu mn li),.int .i64 (ic l bu mn li)])/\(ic l bu mn li=0->W'.ownsRow V.heap.size Cz 2 (.slice Av lv cv) (pR (if ic l bu mn li=0 then kU l bu mn else[])).length ((pR (if ic l bu mn li=0 then kU l bu mn else[])).flatMap mW))/\Below V.heap.size V W':=fun V hV=>by
  refine(Kk hC hc0 hf hs bu mn li V hV).mono ?_
  rintro e W' ⟨Av,lv,cv,rfl,h1,_,h3⟩
  refine⟨Av,lv,cv,rfl,fun h=>?_,h3⟩
  rw[if_pos h]
  exact h1 h
 refine(VZ (o:=if ic l bu mn li=0 then kU l bu mn else[]) hl0 (fun h k x hx=>?_) (fun h x hx=>?_) ?_).mono ?_
 ·rw[if_pos h] at hx ⊢
  exact(lnt hf hs h).oko.at_ hx
 ·rw[if_pos h] at hx
  have:=(lnt hf hs h).siz x hx
  omega
 ·split
  ·rename_i h;exact(lnt hf hs h).len
  ·simp
 ·rintro e w' ⟨hB,h1,h2⟩
  refine⟨hB,?_⟩
  by_cases h:ic l bu mn li=0
  ·obtain⟨Av,lv,cv,rfl,ho⟩:=h1 h
   rw[if_pos h] at ho
   refine⟨Av,lv,cv,?_,fun _=>ho⟩
   unfold FD
   rw[if_pos h,if_pos h]
   rfl
  ·refine⟨none,0,0,?_,fun h9=>(h h9).elim⟩
   rw[h2 h]
   unfold FD
   rw[if_neg h]
end Go.Proofs.YtilpincgjlclpaaGreat.Ob
end
section
namespace Go.Proofs.YtilpincgjlclpaaGreat.Ob
open Go Go.RowKit Bs Mp jL
open Pr (dN lQ)
open uA (iJ oz)
open Go.Proofs.ae.au (Kd.C Kd.string)
def Gu (E:Int) (Y:List ByteArray) (bu mn li:Int):Int:=if Gg bu mn li≠0 then Gg bu mn li else if E≠0 then E else ic (lY Y) bu mn li
open Classical in
noncomputable def aal (E:Int) (Y:List ByteArray) (bu mn li:Int):ByteArray:=if Gu E Y bu mn li=0 then zJ (lY Y) bu mn else ByteArray.empty
open Classical in
noncomputable def runS (E:Int) (Y:List ByteArray) (bu mn li:Int):S6:=if Gu E Y bu mn li=0 then rO (lY Y) bu mn li else z6
theorem run_any {T:TypeId} {p:Value} (R:Aj.SRC T p) (rs:List ByteArray) (err:Int) (MS:Nat->Prop) (w:World) (hs:R.St rs err MS w) (bu mn li:Int) (hbig:2*(Pure.fZ rs).length<=100000) (E:Int) (Y:List ByteArray) (hq:Aj.RD li (Pure.fZ rs) err=(E,Y)) (hy:NE Y) (hz:(Y.map ByteArray.size).sum<=300):
  Calls Tryz.prog 33 #[.iface T p,Gs bu mn li] w fun e w'=>Fr MS w w'/\∃Av lv cv n,e= .returned (uz (aal E Y bu mn li) (.slice Av lv cv) (runS E Y bu mn li) n (Gu E Y bu mn li)):=by
 obtain⟨hf,hs6,hY,hT⟩:=Br hy hz
 have heT:=(Ur (by omega) hy).1
 obtain⟨x,hx⟩:∃x:GI,x=⟨T,p,bu,mn,li,MS,Y,Gg bu mn li,E⟩:=⟨_,rfl⟩
 have hTx:x.T=Bq Y:=by rw[hx];rfl
 have hTw:x.T.map wS=lY Y:=by rw[hTx];rfl
 have hrr:x.rr=if Gg bu mn li≠0 then Gg bu mn li else if E≠0 then E else 0:=by
  rw[hx]
  unfold GI.rr GI.eT
  show(if Gg bu mn li≠0 then Gg bu mn li else if E≠0 then E else(fH [] Y).2)=_
  rw[heT]
 have hmain:=run_run (w:=w) (x:=x) (ms:=rM (lY Y) bu mn) (F:=zJ (lY Y) bu mn) (s6:=rO (lY Y) bu mn li) (r:=ic (lY Y) bu mn li)
  (by rw[hx];exact R.lt hs) (by rw[hx];exact EM bu mn li)
  (fun _ W hB=>by
   rw[hx]
   exact Aj.NQ R rs err li MS W E Y (R.keep hs (Fr.dL hB) (fun _ _ h=>h)) hbig hq)
  (by rw[hx];show Y.length<=100000;omega)
  (fun y hm=>by
   rw[hx] at hm
   have:y.size<=(Y.map ByteArray.size).sum:=Df (List.mem_map.2 ⟨y,hm,rfl⟩)
   unfold maxLen
   omega)
  (by rw[hTx];omega)
  (fun _ V A c hc hC=>by
   rw[hx]
   show Calls Tryz.prog 10 #[.slice A (GI.T ⟨T,p,bu,mn,li,MS,Y,Gg bu mn li,E⟩).length c,Gs bu mn li] V _
   have e0:(GI.T ⟨T,p,bu,mn,li,MS,Y,Gg bu mn li,E⟩).length=(lY Y).length:=by rw[<-hTw,hx,List.length_map]
   rw[e0]
   rw[hTw] at hC
   have hc2:(lY Y).length<=c:=by rw[<-e0,<-hx];exact hc
   exact tab_c hC hc2 hf (by omega) bu mn li)
 rw[hx] at hmain
 refine hmain.mono ?_
 rw[<-hx]
 rintro e w' ⟨h1,h2,h3⟩
 refine⟨by rw[hx] at h1;exact h1,?_⟩
 by_cases hr:x.rr=0
 ·obtain⟨Av,lv,cv,rfl,_⟩:=h3 hr
  have hE:Gu E Y bu mn li=ic (lY Y) bu mn li:=by
   rw[hrr] at hr
   unfold Gu
   split at hr
   ·rename_i h9;exact(h9 hr).elim
   ·rename_i h9
    rw[if_neg h9]
    split at hr
    ·rename_i h8;exact(h8 hr).elim
    ·rename_i h8
     rw[if_neg h8]
  unfold FD aal runS
  rw[hE]
  by_cases h0:ic (lY Y) bu mn li=0
  ·rw[if_pos h0,if_pos h0,if_pos h0,h0]
   exact⟨Av,lv,cv,_,rfl⟩
  ·rw[if_neg h0,if_neg h0,if_neg h0]
   exact⟨none,0,0,_,rfl⟩
 ·have h4:=h2 hr
  have hE:Gu E Y bu mn li=x.rr:=by
   rw[hrr] at hr ⊢
   unfold Gu
   split
   ·rfl
   ·split
    ·rfl
    ·rename_i h9 h8
     rw[if_neg h9,if_neg h8] at hr
     exact(hr rfl).elim
  rw[<-hE] at hr
  unfold aal runS
  rw[if_neg hr,if_neg hr,hE]
  exact⟨none,0,0,_,h4⟩
end Go.Proofs.YtilpincgjlclpaaGreat.Ob
end
