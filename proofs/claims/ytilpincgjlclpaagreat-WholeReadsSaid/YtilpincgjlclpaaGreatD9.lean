import Derived.Lib.SlBytesRow
import Derived.Test.YtilpincgjlclpaaGreatB20
import Derived.Test.YtilpincgjlclpaaGreatD2
set_option linter.unusedVariables false
set_option linter.unusedSimpArgs false
namespace Go.Proofs.YtilpincgjlclpaaGreat.Pr
open Go.RowKit Bs Go.Proofs.ae.au Go.Proofs.ae.aZ Go.Proofs.ae.bE
set_option maxHeartbeats 2000000 in
set_option maxRecDepth 100000 in
theorem bI.calls (a0 a1:ByteArray) (r:Bool) (w:World) (h:bI.f a0 a1=some r):
  Calls Tryz.prog 50 #[.string a0,.string a1] w fun e w'=>e= .returned (.bool r)/\∃q,w'=w.drewN q:=by
 unfold bI.f at h
 split at h
 ·rename_i hsz
  cases h
  obtain⟨hs0,hs1⟩:=hsz
  have hl0:a0.data.toList.length=a0.size:=by simp
  have hl1:a1.data.toList.length=a1.size:=by simp
  go_enter Tryz.func50,Tryz.ntmps50
  go_wp2_with fail
  go_loopw [5] (fun v5 wr=>∃i:Nat,v5= .int .i64 i/\i<=a0.size/\i<=a1.size/\dS (a0.data.toList.drop i) (a1.data.toList.drop i)=dS a0.data.toList a1.data.toList/\∃q,wr=w.drewN q) (fun v5 _=>a0.size-(intOf v5).toNat)
  case atStart=>exact⟨0,rfl,Nat.zero_le _,Nat.zero_le _,rfl,0,rfl⟩
  case round=>
   obtain⟨i,rfl,hi0,hi1,hls,q,rfl⟩:=hrel
   have Xj:=Lib.hid hls
   clear hls
   by_cases hlt:i<a0.size/\i<a1.size
   ·obtain⟨h0,h1⟩:=hlt
    have hd0:a0.data.toList.drop i=a0[i]::a0.data.toList.drop (i+1):=List.drop_eq_getElem_cons (by omega)
    have hd1:a1.data.toList.drop i=a1[i]::a1.data.toList.drop (i+1):=List.drop_eq_getElem_cons (by omega)
    have HD0:=Lib.hid hd0
    have HD1:=Lib.hid hd1
    clear hd0 hd1
    by_cases hne:a0[i]=a1[i]
    ·have hb:((a0[i].toNat:Int) != (a1[i].toNat:Int))=false:=by rw[hne];simp
     have UU:=Lib.hid hne
     clear hne
     go_wp2_with fail
     go_region
     go_wp2_with fail
     exact⟨⟨i+1,by go_num,by omega,by omega,by rw[<-Xj.out,HD0.out,HD1.out,dS,if_pos UU.out],_,rfl⟩,by simp[intOf];omega⟩
    ·have hb:((a0[i].toNat:Int) != (a1[i].toNat:Int))=true:=by
      have:a0[i].toNat≠a1[i].toNat:=fun e=>hne (UInt8.toNat_inj.1 e)
      simp
      omega
     have UU:=Lib.hid hne
     clear hne
     go_wp2_with fail
     go_region
     go_wp2_with fail
     go_region
     go_wp2_with fail
     go_ret
     refine⟨?_,_,rfl⟩
     rw[<-Xj.out,HD0.out,HD1.out,dS,if_neg UU.out]
     simp[UInt8.lt_iff_toNat_lt]
   ·have hx:dS (a0.data.toList.drop i) (a1.data.toList.drop i)=decide (a0.size<a1.size):=by
     rcases Nat.lt_or_ge i a0.size with h|h
     ·have hi1':i=a1.size:=by omega
      rw[show a1.data.toList.drop i=[] from List.drop_of_length_le (by omega),show a0.data.toList.drop i=a0.data.toList[i]'(by omega)::a0.data.toList.drop (i+1) from List.drop_eq_getElem_cons (by omega),dS]
      symm
      exact decide_eq_false (by omega)
     ·have hi0':i=a0.size:=by omega
      rw[show a0.data.toList.drop i=[] from List.drop_of_length_le (by omega)]
      rcases Nat.lt_or_ge i a1.size with h2|h2
      ·rw[show a1.data.toList.drop i=a1.data.toList[i]'(by omega)::a1.data.toList.drop (i+1) from List.drop_eq_getElem_cons (by omega),dS]
       symm
       exact decide_eq_true (by omega)
      ·rw[show a1.data.toList.drop i=[] from List.drop_of_length_le (by omega),dS]
       symm
       exact decide_eq_false (by omega)
    have HX:=Lib.hid hx
    clear hx
    go_wp2_with fail
    all_goals go_ret
    all_goals refine⟨?_,_,rfl⟩
    all_goals rw[<-Xj.out,HX.out]
    all_goals rfl
 ·cases h
end Go.Proofs.YtilpincgjlclpaaGreat.Pr
