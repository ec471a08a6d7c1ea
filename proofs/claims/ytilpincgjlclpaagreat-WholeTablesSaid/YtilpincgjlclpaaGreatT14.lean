import Derived.BigQuiet
import Derived.Test.YtilpincgjlclpaaGreatT12
import Derived.Test.YtilpincgjlclpaaGreatT7
set_option linter.unusedVariables false
set_option linter.unusedSimpArgs false
section
namespace Go.Proofs.YtilpincgjlclpaaGreat.Pr
open Go.RowKit Go.Proofs.ae.au Go.Proofs.ae.aZ Go.Proofs.ae.bE
abbrev UW:=eu
def LM (m:List UW):Prop:=m.length<=100000/\(∀x∈m,x.f0.size<=300/\x.f1.size<=300)/\∀i:Fin m.length,(m[i].f0.size=1\/m[i].f0∈(m.take i).map (fun x=>x.f0++x.f1))/\(m[i].f1.size=1\/m[i].f1∈(m.take i).map (fun x=>x.f0++x.f1))/\m[i].f0++m[i].f1∉(m.take i).map (fun x=>x.f0++x.f1)
instance:DecidableEq ByteArray:=fun a b=>decidable_of_iff (a.data=b.data) ⟨fun h=>ByteArray.ext h,fun h=>h▸rfl⟩
instance (x:ByteArray) (l:List ByteArray):Decidable (x∈l):=@List.instDecidableMemOfLawfulBEq _ instBEqOfDecidableEq _ x l
instance (m:List UW):Decidable (LM m):=by unfold LM;infer_instance
def eH.f (k:Nat) (l0:List UW):Option (Int×Int):=if LM l0 then some (-1,0) else none
theorem KG (l:List UW) (i:Nat) (h:i<l.length):bM l (i:Int)=l[i]:=by
 unfold bM
 rw[Int.toNat_natCast,List.getD_eq_getElem?_getD,List.getElem?_eq_getElem h]
 rfl
theorem wi18 (i:Nat) (h:i<=1000000):wrap64 ((i:Int)+1)=((i+1:Nat):Int):=by unfold wrap64;omega
theorem Od {m:List UW} (hm:m.length<=1000000) (hz:∀x∈m,x.f0.size<=300/\x.f1.size<=300) {s:ByteArray} (hs:s.size=1\/s∈m.map (fun x=>x.f0++x.f1)) (k:Nat) (hk:m.length+1<=k):dK.f k s m=some true:=by
 unfold dK.f
 by_cases h1:s.size=1
 ·rw[if_pos (by omega)]
 ·rw[if_neg (by omega)]
  have hs2:s∈m.map (fun x=>x.f0++x.f1):=hs.resolve_left h1
  have loop:∀d i k,i+d=m.length->d+1<=k->s∈(m.drop i).map (fun x=>x.f0++x.f1)->dK.l0 k s m (i:Int)=some true:=by
   intro d
   induction d with
   |zero=>
    intro i k hi hk h
    rw[List.drop_of_length_le (by omega)] at h
    simp at h
   |succ d ih=>
    intro i k hi hk h
    obtain⟨k,rfl⟩:∃k',k=k'+1:=⟨k-1,by omega⟩
    have hlt:i<m.length:=by omega
    have h3:=hz _ (List.getElem_mem hlt)
    rw[dK.l0,if_pos (by omega),if_pos (by omega),KG m i hlt,if_pos (by omega),wi18 i (by omega)]
    by_cases he:m[i].f0++m[i].f1=s
    ·rw[if_pos (by rw[he])]
    ·rw[if_neg (fun h9=>he (gJ.iG.1 h9))]
     refine ih (i+1) k (by omega) (by omega) ?_
     rw[List.drop_eq_getElem_cons hlt] at h
     rcases List.mem_cons.1 h with h|h
     ·exact(he h.symm).elim
     ·exact h
  exact loop m.length 0 k (by omega) hk (by simpa using hs2)
theorem aai {m:List UW} (h:LM m) (i:Nat) (hi:i<m.length):(∀k,m.length+1<=k->dK.f k m[i].f0 (m.take i)=some true)/\(∀k,m.length+1<=k->dK.f k m[i].f1 (m.take i)=some true)/\∀j (hj:j<i),m[j].f0++m[j].f1≠m[i].f0++m[i].f1:=by
 obtain⟨hl,hz,ha⟩:=h
 obtain⟨t0,t1,t2⟩:=ha ⟨i,hi⟩
 have htl:(m.take i).length=i:=by rw[List.length_take];omega
 have htz:∀x∈m.take i,x.f0.size<=300/\x.f1.size<=300:=fun x hx=>hz x (List.mem_of_mem_take hx)
 refine⟨fun k hk=>Od (by omega) htz t0 k (by omega),fun k hk=>Od (by omega) htz t1 k (by omega),fun j hj e=>t2 (List.mem_map.2 ⟨m[j],?_,e⟩)⟩
 rw[List.mem_take_iff_getElem]
 exact⟨j,by show j<min i m.length;omega,rfl⟩
set_option maxHeartbeats 4000000 in
set_option maxRecDepth 100000 in
theorem eH.calls (k:Nat) (A0:Option Addr) (c0:Nat) (l0:List UW) (r1:Int) (r2:Int) (w:World) (hr0:Kd.C qj w A0 l0.length l0) (hc0:l0.length<=c0) (h:eH.f k l0=some (r1,r2)):
  Calls Tryz.prog 75 #[.slice A0 l0.length c0] w fun e w'=>e= .returned (.tuple #[.int .i64 r1,.int .i64 r2])/\aJ w w':=by
 unfold eH.f at h
 split at h
 ·rename_i hR
  cases h
  have hat:=aai hR
  obtain⟨hlen,hz,_⟩:=hR
  have HA:=Lib.hid hat
  have HZ:=Lib.hid hz
  have HC:=Lib.hid hr0
  obtain⟨i47,YZ,_,_,_⟩:=info_parts Kg
  clear hat hz hr0
  go_enter Tryz.func75,Tryz.ntmps75
  go_wp2_with fail
  go_loopg [4] l0.length (fun gk v4 wr=>∃i:Nat,v4= .int .i64 (i:Int)/\i+gk=l0.length/\Hid (aJ w wr))
  case atStart=>exact⟨0,rfl,by omega,Lib.hid (aJ.refl _)⟩
  case round=>
   obtain⟨i,rfl,hik,HD⟩:=hrel
   cases gk with
   |zero=>
    have hge:¬i<l0.length:=by omega
    go_wp2
    go_ret2
    exact⟨rfl,HD.out⟩
   |succ g1=>
    have hlt:i<l0.length:=by omega
    obtain⟨q,rfl⟩:=HD.out
    obtain⟨s0,s1,s2⟩:=HA.out i hlt
    have hzi:=HZ.out _ (List.getElem_mem hlt)
    obtain⟨ad,rfl,x0,x1⟩:=jm HC.out (i:Int) (by omega) (by omega)
    rw[KG l0 i hlt,Int.toNat_natCast] at x0 x1
    have hcut:=PL (P:=Tryz.prog) 27 47 .i64 Tryz.underlying27 YZ (some ad) l0.length c0 (i:Int) (by omega) (by omega) hc0
    rw[Int.toNat_natCast] at hcut
    have hCt:=Kd.Pb (m:=i) HC.out (by omega)
    obtain⟨T',hT'⟩:∃T',T'=l0.take i:=⟨_,rfl⟩
    have htl:T'.length=i:=by rw[hT',List.length_take];omega
    rw[<-hT'] at hCt s0 s1
    obtain⟨L,hL⟩:∃L,l0[i].f0=L:=⟨_,rfl⟩
    obtain⟨R,hRr⟩:∃R,l0[i].f1=R:=⟨_,rfl⟩
    rw[hL] at x0 s0 hzi
    rw[hRr] at x1 s1 hzi
    have hsL:∀W,Kd.C qj W (some ad) i T'->_:=fun W hc=>dK.calls (l0.length+1) L (some ad) c0 T' true W (by rw[htl];exact hc) (by omega) (s0 _ (Nat.le_refl _))
    have hsR:∀W,Kd.C qj W (some ad) i T'->_:=fun W hc=>dK.calls (l0.length+1) R (some ad) c0 T' true W (by rw[htl];exact hc) (by omega) (s1 _ (Nat.le_refl _))
    rw[htl] at hsL hsR
    rw[htl] at hCt
    have HCT:=Lib.hid hCt
    have Si:=Lib.hid hsL
    have HSR:=Lib.hid hsR
    have HL:=Lib.hid (And.intro hL (And.intro hRr s2))
    have hw:wrap64 ((L.size:Int)+(R.size:Int))=(L.size:Int)+(R.size:Int):=by unfold wrap64;omega
    have hgt:¬65536<(L.size:Int)+(R.size:Int):=by omega
    have hi0:(0:Int)<=(i:Int):=by omega
    clear hsL hsR hCt s0 s1 s2 hL hRr htl YZ hT'
    go_wp2_with fail
    go_quiet (first|(go_at_call 108;with_reducible refine(Si.out _ ?gM).mono ?_;(case gM=>exact Kd.dB HCT.out _);rintro e w' ⟨rfl,⟨nd,rfl⟩⟩;exact⟨rfl,_,Eq.trans (World.drewN_drewN _ _ _) (congrArg (World.drewN _) (Nat.add_assoc _ _ _))⟩)|(go_at_call 108;with_reducible refine(HSR.out _ ?gM).mono ?_;(case gM=>exact Kd.dB HCT.out _);rintro e w' ⟨rfl,⟨nd,rfl⟩⟩;exact⟨rfl,_,Eq.trans (World.drewN_drewN _ _ _) (congrArg (World.drewN _) (Nat.add_assoc _ _ _))⟩))
    have HD1:=Lib.hid (((aJ.refl w).step q).step nq)
    generalize (w.drewN q).drewN nq=W1 at *
    have y0:W1.cell? (ad.add (i*2))=some (.string L):=by obtain⟨q1,rfl⟩:=HD1.out;exact x0
    have y1:W1.cell? ⟨(ad.add (i*2)).block,(ad.add (i*2)).off+1,none⟩=some (.string R):=by obtain⟨q1,rfl⟩:=HD1.out;exact x1
    clear x0 x1
    go_wp2_with fail
    go_quiet (fail)
    go_wp2_with fail
    have HD2:=Lib.hid (HD1.out.step nq)
    generalize W1.drewN nq=W2 at *
    clear y0 y1 HD1
    go_loopg [5] i (fun gk v5 wr=>∃j:Nat,v5= .int .i64 (j:Int)/\j+gk=i/\Hid (aJ w wr))
    case atStart=>exact⟨0,rfl,by omega,HD2⟩
    case round=>
     obtain⟨j,rfl,hjk,HD3⟩:=hrel
     cases gk with
     |zero=>
      have JV:¬j<i:=by omega
      go_wp2
      go_roundg g1
      case measure=>omega
      case rel=>exact⟨i+1,by simp,by omega,HD3⟩
     |succ g2=>
      have hlt2:j<i:=by omega
      have hlt3:j<l0.length:=by omega
      have hzj:=HZ.out _ (List.getElem_mem hlt3)
      obtain⟨ad2,e2,z0,z1⟩:=jm HC.out (j:Int) (by omega) (by omega)
      obtain rfl:ad=ad2:=by injection e2
      obtain⟨ad3,e3,x0,x1⟩:=jm HC.out (i:Int) (by omega) (by omega)
      obtain rfl:ad=ad3:=by injection e3
      rw[KG l0 j hlt3,Int.toNat_natCast] at z0 z1
      rw[KG l0 i hlt,Int.toNat_natCast] at x0 x1
      have hne:=HL.out.2.2 j hlt2
      obtain⟨L2,hL2⟩:∃L2,l0[j].f0=L2:=⟨_,rfl⟩
      obtain⟨R2,hR2⟩:∃R2,l0[j].f1=R2:=⟨_,rfl⟩
      rw[HL.out.1,HL.out.2.1,hL2,hR2] at hne
      rw[HL.out.1] at x0
      rw[HL.out.2.1] at x1
      rw[hL2] at z0 hzj
      rw[hR2] at z1 hzj
      have hq:((L2++R2).toList==(L++R).toList)=false:=by
       rw[beq_eq_false_iff_ne]
       exact fun e=>hne (gJ.iG.1 e)
      have k1:¬9223372036854775807<L.size+R.size:=by omega
      have k2:¬9223372036854775807<L2.size+R2.size:=by omega
      have y0:wr.cell? (ad.add (i*2))=some (.string L):=by obtain⟨q1,rfl⟩:=HD3.out;exact x0
      have y1:wr.cell? ⟨(ad.add (i*2)).block,(ad.add (i*2)).off+1,none⟩=some (.string R):=by obtain⟨q1,rfl⟩:=HD3.out;exact x1
      have u0:wr.cell? (ad.add (j*2))=some (.string L2):=by obtain⟨q1,rfl⟩:=HD3.out;exact z0
      have u1:wr.cell? ⟨(ad.add (j*2)).block,(ad.add (j*2)).off+1,none⟩=some (.string R2):=by obtain⟨q1,rfl⟩:=HD3.out;exact z1
      clear x0 x1 z0 z1 hL2 hR2 hne e2 e3
      go_wp2_with fail
      go_quiet (fail)
      go_wp2_with fail
      go_roundg g2
      case measure=>omega
      case rel=>exact⟨j+1,by simp,by omega,Lib.hid (HD3.out.step _)⟩
 ·cases h
end Go.Proofs.YtilpincgjlclpaaGreat.Pr
end
section
namespace Go.Proofs.YtilpincgjlclpaaGreat.Pr
open Go.RowKit Go.Proofs.ae.au Go.Proofs.ae.aZ Go.Proofs.ae.bE
attribute [local go_sem] bQ min2_int cB min_two max_three min_three max_four min_four
def bZ.l0:Nat->List (eu)->ByteArray->Int->Option (ByteArray×Int)
 |0,_,_,_=>none
 |k+1,x0,x6,x7=>if x7<(x0.length:Int) then(if 0<=x7 then((fu.f ((bM x0 x7).f0)).bind fun t201=>(if x6.size+t201.size<=9223372036854775807 then(if(x6++t201).size+1<=9223372036854775807 then((fu.f ((bM x0 x7).f1)).bind fun t203=>(if((x6++t201)++(⟨#[32]⟩:ByteArray)).size+t203.size<=9223372036854775807 then(if(((x6++t201)++(⟨#[32]⟩:ByteArray))++t203).size+1<=9223372036854775807 then(bZ.l0 k x0 ((((x6++t201)++(⟨#[32]⟩:ByteArray))++t203)++(⟨#[10]⟩:ByteArray)) (wrap64 (x7+1))) else(none)) else(none))) else(none)) else(none))) else(none)) else(some (x6,0))
def bZ.f (k:Nat) (l0:List (eu)):Option (ByteArray×Int):=(eH.f k l0).bind fun Mf=>(if Mf.2=0 then(bZ.l0 k l0 (⟨#[103,108,117,101,112,111,116,32,49,10]⟩:ByteArray) 0) else(some ((⟨#[]⟩:ByteArray),Mf.2)))
set_option maxHeartbeats 8000000 in
set_option maxRecDepth 100000 in
theorem bZ.calls (k:Nat) (A0:Option Addr) (c0:Nat) (l0:List (eu)) (r1:ByteArray) (r2:Int) (w:World) (hr0:Kd.C qj w A0 l0.length l0) (hc0:l0.length<=c0) (h:bZ.f k l0=some (r1,r2)):
  Calls Tryz.prog 43 #[.slice A0 l0.length c0] w fun e w'=>e= .returned (.tuple #[.string r1,.int .i64 r2])/\aJ w w':=by
 have gq:=ai.mk hr0
 have lC:=ai.mk hc0
 clear hr0 hc0
 have H:((eH.f k l0).bind fun Mf=>(if Mf.2=0 then(bZ.l0 k l0 (⟨#[103,108,117,101,112,111,116,32,49,10]⟩:ByteArray) 0) else(some ((⟨#[]⟩:ByteArray),Mf.2))))=some (r1,r2):=h
 clear h
 replace H:=Option.bind_eq_some_iff.mp H
 obtain⟨⟨t198,t199⟩,WZ,H⟩:=H
 replace H:(if t199=0 then(bZ.l0 k l0 (⟨#[103,108,117,101,112,111,116,32,49,10]⟩:ByteArray) 0) else(some ((⟨#[]⟩:ByteArray),t199)))=some (r1,r2):=H
 have A2:=ai.mk WZ
 clear WZ
 by_cases c3:t199=0
 ·rw[if_pos c3] at H
  have iY:(t199==0)=true:=beq_iff_eq.mpr c3
  have qp:(t199 != 0)=false:=bne_eq_false_iff_eq.mpr c3
  clear c3
  have H':=ai.mk H
  clear H
  go_enter Tryz.func43,Tryz.ntmps43
  go_wp2_with (first|(go_at_call 75;(with_reducible refine(eH.calls k _ _ l0 t198 t199 _ ?gM ?gW A2.out).mono ?_);(case gM=>repeat(first|exact gq.out|(with_reducible refine Kd.dD ?_ _)|(with_reducible refine Kd.dB ?_ _)|(with_reducible refine Kd.fA ?_)));(case gW=>exact lC.out);rintro e w' ⟨rfl,⟨nd,rfl⟩⟩;(try first|exact⟨rfl,_,World.drewN_drewN _ _ _⟩|exact⟨rfl,_,Eq.trans (World.drewN_drewN _ _ _) (congrArg (World.drewN _) (Nat.add_assoc _ _ _))⟩)))
  repeat(go_quiet (first|(go_at_call 75;(with_reducible refine(eH.calls k _ _ l0 t198 t199 _ ?gM ?gW A2.out).mono ?_);(case gM=>repeat(first|exact gq.out|(with_reducible refine Kd.dD ?_ _)|(with_reducible refine Kd.dB ?_ _)|(with_reducible refine Kd.fA ?_)));(case gW=>exact lC.out);rintro e w' ⟨rfl,⟨nd,rfl⟩⟩;(try first|exact⟨rfl,_,World.drewN_drewN _ _ _⟩|exact⟨rfl,_,Eq.trans (World.drewN_drewN _ _ _) (congrArg (World.drewN _) (Nat.add_assoc _ _ _))⟩)));try go_wp2_with (first|(go_at_call 75;(with_reducible refine(eH.calls k _ _ l0 t198 t199 _ ?gM ?gW A2.out).mono ?_);(case gM=>repeat(first|exact gq.out|(with_reducible refine Kd.dD ?_ _)|(with_reducible refine Kd.dB ?_ _)|(with_reducible refine Kd.fA ?_)));(case gW=>exact lC.out);rintro e w' ⟨rfl,⟨nd,rfl⟩⟩;(try first|exact⟨rfl,_,World.drewN_drewN _ _ _⟩|exact⟨rfl,_,Eq.trans (World.drewN_drewN _ _ _) (congrArg (World.drewN _) (Nat.add_assoc _ _ _))⟩))))
  go_loopg [6,7] k (fun kq v6 v7 w'=>∃(bB:ByteArray) (gN:Int),v6= .string bB/\v7= .int .i64 gN/\ai (bZ.l0 kq l0 bB gN=some (r1,r2))/\ai (kq<=k)/\aJ w w')
  case atStart=>exact⟨((⟨#[103,108,117,101,112,111,116,32,49,10]⟩:ByteArray)),(0),(by first|rfl|(simp;done)|(simp[*];done)),(by first|rfl|(simp;done)|(simp[*];done)),H',⟨Nat.le_refl _⟩,by repeat(first|exact aJ.refl _|apply aJ.step)⟩
  case round=>
   clear H'
   try clear p2
   try clear c3
   try clear iY
   try clear qp
   obtain⟨bB,gN,rfl,rfl,HA,gH,⟨m1,rfl⟩⟩:=hrel
   cases gk with
   |zero=>exact absurd HA.out (by simp[bZ.l0])
   |succ k1=>
    have H:=HA.out
    clear HA
    simp only[bZ.l0] at H
    by_cases c4:gN<(l0.length:Int)
    ·rw[if_pos c4] at H
     have iw:decide (gN<(l0.length:Int))=true:=decide_eq_true c4
     clear c4
     by_cases c5:0<=gN
     ·rw[if_pos c5] at H
      have iC:decide (0<=gN)=true:=decide_eq_true c5
      clear c5
      replace H:=Option.bind_eq_some_iff.mp H
      obtain⟨t201,A60,H⟩:=H
      replace H:(if bB.size+t201.size<=9223372036854775807 then(if(bB++t201).size+1<=9223372036854775807 then((fu.f ((bM l0 gN).f1)).bind fun t203=>(if((bB++t201)++(⟨#[32]⟩:ByteArray)).size+t203.size<=9223372036854775807 then(if(((bB++t201)++(⟨#[32]⟩:ByteArray))++t203).size+1<=9223372036854775807 then(bZ.l0 k1 l0 ((((bB++t201)++(⟨#[32]⟩:ByteArray))++t203)++(⟨#[10]⟩:ByteArray)) (wrap64 (gN+1))) else(none)) else(none))) else(none)) else(none))=some (r1,r2):=H
      have A6:=ai.mk A60
      clear A60
      by_cases c7:bB.size+t201.size<=9223372036854775807
      ·rw[if_pos c7] at H
       have jU:=eq_true c7
       have qw:decide (bB.size+t201.size<=9223372036854775807)=true:=decide_eq_true c7
       try have c7b2:(9223372036854775807<bB.size+t201.size)=False:=eq_false (Nat.not_lt.2 c7)
       by_cases c8:(bB++t201).size+1<=9223372036854775807
       ·rw[if_pos c8] at H
        have qN:=eq_true c8
        have c8b1:decide ((bB++t201).size+1<=9223372036854775807)=true:=decide_eq_true c8
        try have c8b2:(9223372036854775807<(bB++t201).size+1)=False:=eq_false (Nat.not_lt.2 c8)
        replace H:=Option.bind_eq_some_iff.mp H
        obtain⟨t203,A90,H⟩:=H
        replace H:(if((bB++t201)++(⟨#[32]⟩:ByteArray)).size+t203.size<=9223372036854775807 then(if(((bB++t201)++(⟨#[32]⟩:ByteArray))++t203).size+1<=9223372036854775807 then(bZ.l0 k1 l0 ((((bB++t201)++(⟨#[32]⟩:ByteArray))++t203)++(⟨#[10]⟩:ByteArray)) (wrap64 (gN+1))) else(none)) else(none))=some (r1,r2):=H
        have A9:=ai.mk A90
        clear A90
        by_cases c10:((bB++t201)++(⟨#[32]⟩:ByteArray)).size+t203.size<=9223372036854775807
        ·rw[if_pos c10] at H
         have lU:=eq_true c10
         have GN:decide (((bB++t201)++(⟨#[32]⟩:ByteArray)).size+t203.size<=9223372036854775807)=true:=decide_eq_true c10
         try have c10b2:(9223372036854775807<((bB++t201)++(⟨#[32]⟩:ByteArray)).size+t203.size)=False:=eq_false (Nat.not_lt.2 c10)
         by_cases c11:(((bB++t201)++(⟨#[32]⟩:ByteArray))++t203).size+1<=9223372036854775807
         ·rw[if_pos c11] at H
          have kX:=eq_true c11
          have Sr:decide ((((bB++t201)++(⟨#[32]⟩:ByteArray))++t203).size+1<=9223372036854775807)=true:=decide_eq_true c11
          try have XX:(9223372036854775807<(((bB++t201)++(⟨#[32]⟩:ByteArray))++t203).size+1)=False:=eq_false (Nat.not_lt.2 c11)
          have n8:¬9223372036854775807<bB.size+t201.size+1:=by have:=c8;rw[ByteArray.size_append] at this;omega
          have e1:(⟨#[32]⟩:ByteArray).size=1:=rfl
          have n10:¬9223372036854775807<bB.size+t201.size+1+t203.size:=by have:=c10;rw[ByteArray.size_append,ByteArray.size_append,e1] at this;omega
          have n11:¬9223372036854775807<bB.size+t201.size+1+t203.size+1:=by have:=c11;rw[ByteArray.size_append,ByteArray.size_append,ByteArray.size_append,e1] at this;omega
          have n7:¬9223372036854775807<bB.size+t201.size:=by omega
          have H':=ai.mk H
          clear H
          have p200:0<=(gN:Int):=of_decide_eq_true (by first|(with_reducible assumption)|assumption)
          have q200:gN<(l0.length:Int):=of_decide_eq_true (by first|(with_reducible assumption)|assumption)
          obtain⟨XJ,e200,hx200_0,hx200_1⟩:=jm gq.out gN p200 q200
          cases e200
          replace p200:=eq_true p200
          replace q200:=eq_true q200
          go_wp2_with (first|(go_at_call 76;(with_reducible refine(fu.calls ((bM l0 gN).f0) t201 _ A6.out).mono ?_);rintro e w' ⟨rfl,⟨nd,rfl⟩⟩;(try first|exact⟨rfl,_,World.drewN_drewN _ _ _⟩|exact⟨rfl,_,Eq.trans (World.drewN_drewN _ _ _) (congrArg (World.drewN _) (Nat.add_assoc _ _ _))⟩);have EL:0<=(gN:Int):=of_decide_eq_true (by first|(with_reducible assumption)|assumption);have Ff:gN<(l0.length:Int):=of_decide_eq_true (by first|(with_reducible assumption)|assumption);obtain⟨LY,Yn,Tq,Tt⟩:=jm gq.out gN EL Ff;obtain rfl:XJ=LY:=(by injection Yn);replace EL:=eq_true EL;replace Ff:=eq_true Ff)|(go_at_call 76;(with_reducible refine(fu.calls ((bM l0 gN).f1) t203 _ A9.out).mono ?_);rintro e w' ⟨rfl,⟨nd,rfl⟩⟩;(try first|exact⟨rfl,_,World.drewN_drewN _ _ _⟩|exact⟨rfl,_,Eq.trans (World.drewN_drewN _ _ _) (congrArg (World.drewN _) (Nat.add_assoc _ _ _))⟩)))
          repeat(go_quiet (first|(go_at_call 76;(with_reducible refine(fu.calls ((bM l0 gN).f0) t201 _ A6.out).mono ?_);rintro e w' ⟨rfl,⟨nd,rfl⟩⟩;(try first|exact⟨rfl,_,World.drewN_drewN _ _ _⟩|exact⟨rfl,_,Eq.trans (World.drewN_drewN _ _ _) (congrArg (World.drewN _) (Nat.add_assoc _ _ _))⟩);have EL:0<=(gN:Int):=of_decide_eq_true (by first|(with_reducible assumption)|assumption);have Ff:gN<(l0.length:Int):=of_decide_eq_true (by first|(with_reducible assumption)|assumption);obtain⟨LY,Yn,Tq,Tt⟩:=jm gq.out gN EL Ff;obtain rfl:XJ=LY:=(by injection Yn);replace EL:=eq_true EL;replace Ff:=eq_true Ff)|(go_at_call 76;(with_reducible refine(fu.calls ((bM l0 gN).f1) t203 _ A9.out).mono ?_);rintro e w' ⟨rfl,⟨nd,rfl⟩⟩;(try first|exact⟨rfl,_,World.drewN_drewN _ _ _⟩|exact⟨rfl,_,Eq.trans (World.drewN_drewN _ _ _) (congrArg (World.drewN _) (Nat.add_assoc _ _ _))⟩)));try go_wp2_with (first|(go_at_call 76;(with_reducible refine(fu.calls ((bM l0 gN).f0) t201 _ A6.out).mono ?_);rintro e w' ⟨rfl,⟨nd,rfl⟩⟩;(try first|exact⟨rfl,_,World.drewN_drewN _ _ _⟩|exact⟨rfl,_,Eq.trans (World.drewN_drewN _ _ _) (congrArg (World.drewN _) (Nat.add_assoc _ _ _))⟩);have EL:0<=(gN:Int):=of_decide_eq_true (by first|(with_reducible assumption)|assumption);have Ff:gN<(l0.length:Int):=of_decide_eq_true (by first|(with_reducible assumption)|assumption);obtain⟨LY,Yn,Tq,Tt⟩:=jm gq.out gN EL Ff;obtain rfl:XJ=LY:=(by injection Yn);replace EL:=eq_true EL;replace Ff:=eq_true Ff)|(go_at_call 76;(with_reducible refine(fu.calls ((bM l0 gN).f1) t203 _ A9.out).mono ?_);rintro e w' ⟨rfl,⟨nd,rfl⟩⟩;(try first|exact⟨rfl,_,World.drewN_drewN _ _ _⟩|exact⟨rfl,_,Eq.trans (World.drewN_drewN _ _ _) (congrArg (World.drewN _) (Nat.add_assoc _ _ _))⟩))))
          go_roundg k1
          case measure=>have:=gH.out;omega
          case rel=>exact⟨((((bB++t201)++(⟨#[32]⟩:ByteArray))++t203)++(⟨#[10]⟩:ByteArray)),(wrap64 (gN+1)),(by first|rfl|(simp;done)|(simp[*];done)),(by first|rfl|(simp;done)|(simp[*];done)),H',⟨by have:=gH.out;omega⟩,by repeat(first|exact aJ.refl _|apply aJ.step)⟩
         ·rw[if_neg c11] at H
          exact absurd H (by simp)
        ·rw[if_neg c10] at H
         exact absurd H (by simp)
       ·rw[if_neg c8] at H
        exact absurd H (by simp)
      ·rw[if_neg c7] at H
       exact absurd H (by simp)
     ·rw[if_neg c5] at H
      exact absurd H (by simp)
    ·rw[if_neg c4] at H
     have iw:decide (gN<(l0.length:Int))=false:=decide_eq_false c4
     clear c4
     simp only[Option.some.injEq,Prod.mk.injEq] at H
     obtain⟨rfl,rfl⟩:=H
     go_wp2
     repeat(go_quiet (fail);try go_wp2)
     go_ret2
     exact⟨by first|rfl|(simp;done)|(simp[*];done),by repeat(first|exact aJ.refl _|apply aJ.step)⟩
 ·rw[if_neg c3] at H
  have iY:(t199==0)=false:=beq_eq_false_iff_ne.mpr c3
  have qp:(t199 != 0)=true:=bne_iff_ne.mpr c3
  simp only[Option.some.injEq,Prod.mk.injEq] at H
  obtain⟨rfl,rfl⟩:=H
  go_enter Tryz.func43,Tryz.ntmps43
  go_wp2_with (first|(go_at_call 75;(with_reducible refine(eH.calls k _ _ l0 t198 t199 _ ?gM ?gW A2.out).mono ?_);(case gM=>repeat(first|exact gq.out|(with_reducible refine Kd.dD ?_ _)|(with_reducible refine Kd.dB ?_ _)|(with_reducible refine Kd.fA ?_)));(case gW=>exact lC.out);rintro e w' ⟨rfl,⟨nd,rfl⟩⟩;(try first|exact⟨rfl,_,World.drewN_drewN _ _ _⟩|exact⟨rfl,_,Eq.trans (World.drewN_drewN _ _ _) (congrArg (World.drewN _) (Nat.add_assoc _ _ _))⟩)))
  repeat(go_quiet (first|(go_at_call 75;(with_reducible refine(eH.calls k _ _ l0 t198 t199 _ ?gM ?gW A2.out).mono ?_);(case gM=>repeat(first|exact gq.out|(with_reducible refine Kd.dD ?_ _)|(with_reducible refine Kd.dB ?_ _)|(with_reducible refine Kd.fA ?_)));(case gW=>exact lC.out);rintro e w' ⟨rfl,⟨nd,rfl⟩⟩;(try first|exact⟨rfl,_,World.drewN_drewN _ _ _⟩|exact⟨rfl,_,Eq.trans (World.drewN_drewN _ _ _) (congrArg (World.drewN _) (Nat.add_assoc _ _ _))⟩)));try go_wp2_with (first|(go_at_call 75;(with_reducible refine(eH.calls k _ _ l0 t198 t199 _ ?gM ?gW A2.out).mono ?_);(case gM=>repeat(first|exact gq.out|(with_reducible refine Kd.dD ?_ _)|(with_reducible refine Kd.dB ?_ _)|(with_reducible refine Kd.fA ?_)));(case gW=>exact lC.out);rintro e w' ⟨rfl,⟨nd,rfl⟩⟩;(try first|exact⟨rfl,_,World.drewN_drewN _ _ _⟩|exact⟨rfl,_,Eq.trans (World.drewN_drewN _ _ _) (congrArg (World.drewN _) (Nat.add_assoc _ _ _))⟩))))
  go_ret2
  exact⟨by first|rfl|(simp;done)|(simp[*];done),by repeat(first|exact aJ.refl _|apply aJ.step)⟩
end Go.Proofs.YtilpincgjlclpaaGreat.Pr
end
