-- Written by wip/pr.py (over the print of the kit) out of the translation.
import Derived.Test.YtbfjlfbahjmibaaPr0
import Derived.Test.YtbfjlfbahjmibaaPr41
import Derived.Test.YtbfjlfbahjmibaaPr42
namespace Go.Proofs.Ytbfjlfbahjmibaa.Pr
open Go.RowKit Go.Proofs.YtbfjlfbahjmibaaW.PrintWords Go.Proofs.YtbfjlfbahjmibaaW.PrintLast Go.Proofs.YtbfjlfbahjmibaaW.PrintMore
attribute [local go_sem] max2_int min2_int max_two min_two max_three min_three max_four min_four   -- for this text's walks alone
set_option linter.unusedVariables false
set_option linter.unusedSimpArgs false

/-! ### gluepotlaw16_awake: function 20 -/
def gluepotlaw16_awake.f (k : Nat)  : Option (Bool) := (naive_Learn.f k (([(⟨(⟨#[97, 98, 97, 98]⟩ : ByteArray), 1⟩ : S35)] : List (S35))) 9 1).bind fun t363 => ((gluepotref09_Same.f k t363 (([(⟨(⟨#[97]⟩ : ByteArray), (⟨#[98]⟩ : ByteArray)⟩ : S45), (⟨(⟨#[97, 98]⟩ : ByteArray), (⟨#[97, 98]⟩ : ByteArray)⟩ : S45)] : List (S45)))).bind fun t369 => (some t369))
theorem gluepotlaw16_awake.mono : ∀ k, LeO (gluepotlaw16_awake.f k ) (gluepotlaw16_awake.f (k + 1) ) := by
  intro  k
  unfold gluepotlaw16_awake.f
  repeat' first
      | (with_reducible exact gluepotref09_Same.mono _ _ _)
      | (with_reducible exact naive_Learn.mono _ _ _ _)
      | (with_reducible exact LeO.refl _)
      | (with_reducible exact LeO.none _)
      | (with_reducible refine LeO.ite ?_ ?_)
      | (with_reducible refine LeO.bind ?_ (fun _ => ?_))
      | exact gluepotref09_Same.mono _ _ _
      | exact naive_Learn.mono _ _ _ _
      | exact LeO.none _
      | refine LeO.ite ?_ ?_
      | refine LeO.bind ?_ (fun _ => ?_)
set_option maxHeartbeats 8000000 in
set_option maxRecDepth 100000 in
theorem gluepotlaw16_awake.calls (k : Nat)  (r : Bool) (w : World) (h : gluepotlaw16_awake.f k  = some r) :
    Calls Try.prog 20 #[] w fun e w' => e = .returned (.bool r) ∧ Below w.heap.size w w' := by
  have hu35 := Try.underlying35
  have hu45 := Try.underlying45
  have HB := Aside0.mk (Below.refl w.heap.size w)
  have H : ((naive_Learn.f k (([(⟨(⟨#[97, 98, 97, 98]⟩ : ByteArray), 1⟩ : S35)] : List (S35))) 9 1).bind fun t363 => ((gluepotref09_Same.f k t363 (([(⟨(⟨#[97]⟩ : ByteArray), (⟨#[98]⟩ : ByteArray)⟩ : S45), (⟨(⟨#[97, 98]⟩ : ByteArray), (⟨#[97, 98]⟩ : ByteArray)⟩ : S45)] : List (S45)))).bind fun t369 => (some t369))) = some r := h
  clear h
  obtain ⟨y360, hy360⟩ : ∃ y_ : List (S35), y_ = (([(⟨(⟨#[97, 98, 97, 98]⟩ : ByteArray), 1⟩ : S35)] : List (S35))) := ⟨_, rfl⟩
  replace H : ((naive_Learn.f k y360 9 1).bind fun t363 => ((gluepotref09_Same.f k t363 (([(⟨(⟨#[97]⟩ : ByteArray), (⟨#[98]⟩ : ByteArray)⟩ : S45), (⟨(⟨#[97, 98]⟩ : ByteArray), (⟨#[97, 98]⟩ : ByteArray)⟩ : S45)] : List (S45)))).bind fun t369 => (some t369))) = some r := by first | (rw [hy360]; with_reducible exact H) | (have H2_ := (Option.bind_some _ _).symm.trans H; rw [hy360]; with_reducible exact H2_) | (have H2_ := (Option.bind_some _ _).symm.trans H; with_reducible exact H2_) | with_reducible exact H | (rw [hy360]; exact H) | exact H
  have Ny360 := Aside0.mk hy360
  clear hy360
  replace H := Option.bind_eq_some_iff.mp H
  obtain ⟨t363, A10, H⟩ := H
  replace H : ((gluepotref09_Same.f k t363 (([(⟨(⟨#[97]⟩ : ByteArray), (⟨#[98]⟩ : ByteArray)⟩ : S45), (⟨(⟨#[97, 98]⟩ : ByteArray), (⟨#[97, 98]⟩ : ByteArray)⟩ : S45)] : List (S45)))).bind fun t369 => (some t369)) = some r := H
  have A1 := Aside0.mk A10
  clear A10
  obtain ⟨y366, hy366⟩ : ∃ y_ : List (S45), y_ = (([(⟨(⟨#[97]⟩ : ByteArray), (⟨#[98]⟩ : ByteArray)⟩ : S45), (⟨(⟨#[97, 98]⟩ : ByteArray), (⟨#[97, 98]⟩ : ByteArray)⟩ : S45)] : List (S45))) := ⟨_, rfl⟩
  replace H : ((gluepotref09_Same.f k t363 y366).bind fun t369 => (some t369)) = some r := by first | (rw [hy366]; with_reducible exact H) | (have H2_ := (Option.bind_some _ _).symm.trans H; rw [hy366]; with_reducible exact H2_) | (have H2_ := (Option.bind_some _ _).symm.trans H; with_reducible exact H2_) | with_reducible exact H | (rw [hy366]; exact H) | exact H
  have Ny366 := Aside0.mk hy366
  clear hy366
  replace H := Option.bind_eq_some_iff.mp H
  obtain ⟨t369, A20, H⟩ := H
  replace H : (some t369) = some r := H
  have A2 := Aside0.mk A20
  clear A20
  obtain rfl := Option.some.inj H
  go_enter Try.func20, Try.ntmps20
  go_wp2_with (first | ((with_reducible refine gate_dst (N := 2) rfl ?_); refine Kd.R_lit k35 _ 35 ?hg (N := 2) ?hd (xs := ([(⟨(⟨#[97, 98, 97, 98]⟩ : ByteArray), 1⟩ : S35)] : List (S35))) (inner := [.string (⟨#[97, 98, 97, 98]⟩ : ByteArray), .int .i64 1]) (ok := fun _ => True) (okp := fun _ => True) ?hr ?hp (fun _ hk => hk) trivial (Below.refl _ _) (Nat.le_refl _) (by simp) ?_; (case hd => rfl); (case hg => rfl); (case hr => first | (go_simp; done) | (go_simp; rfl)); (case hp => exact (Reps.c2 (show Kd.M k35 _ _ _ (⟨(⟨#[97, 98, 97, 98]⟩ : ByteArray), 1⟩ : S35) [.string (⟨#[97, 98, 97, 98]⟩ : ByteArray), .int .i64 1] from (k35_mkM _ _ _ (⟨(⟨#[97, 98, 97, 98]⟩ : ByteArray), 1⟩ : S35) )) (Reps.none _ _))); intro v361 w3 ho4 hb hg_ hnew_; clear hg_ hnew_; (first | rw [← Ny360.out] at ho4 | (simp only [Int.reduceToNat] at ho4; rw [← Ny360.out] at ho4)); have n0_ := Aside0.mk (Kd.R_lower ho4 (below_size (by repeat (first | (with_reducible first | exact HB.out | apply below_alloc | apply pw_below_drewN | apply below_drew1) | exact HB.out)))); have n1_ := Aside0.mk (below_step (by repeat (first | (with_reducible first | exact HB.out | apply below_alloc | apply pw_below_drewN | apply below_drew1) | exact HB.out)) hb); clear HB; have HO362 := n0_; have HB := n1_; clear n0_ n1_; clear hb ho4; obtain ⟨Ao5, co5, eo5⟩ := Kd.R_slice HO362.out; subst eo5) | ((with_reducible refine gate_callee (f := 22) rfl ?_); refine goesL_ (some 3) rfl rfl Try.func22 (by kernel_rfl) rfl #[.slice Ao5 y360.length co5, .int .i64 9, .int .i64 1] rfl (by (try simp only [List.map_toArray, List.map_cons, List.map_nil]); first | done | rfl | (simp only [List.length_drop, List.length_take]; rfl)) ?_; (with_reducible refine (naive_Learn.calls k _ _ y360 9 1 t363 _ ?side1 ?side2 A1.out).mono ?_); (case side1 => repeat (first | exact (Kd.R_reads' HO362.out).2.2 | (with_reducible refine Kd.C_alloc ?_ _) | (with_reducible refine Kd.C_drewN ?_ _) | (with_reducible refine Kd.C_drew ?_))); (case side2 => exact (Kd.R_reads' HO362.out).2.1); rintro e w6 ⟨v364, rfl, ho0, hb⟩; refine ⟨_, rfl, ?_⟩; have n0_ := Aside0.mk (Kd.R_below (by (with_reducible repeat (first | apply Kd.R_alloc | apply Kd.R_drewN | apply Kd.R_drew)); exact HO362.out) hb); have n1_ := Aside0.mk (Kd.R_lower ho0 (below_size (by repeat (first | (with_reducible first | exact HB.out | apply below_alloc | apply pw_below_drewN | apply below_drew1) | exact HB.out)))); have n2_ := Aside0.mk (below_step (by repeat (first | (with_reducible first | exact HB.out | apply below_alloc | apply pw_below_drewN | apply below_drew1) | exact HB.out)) hb); clear HO362; clear HB; have HO362 := n0_; have HO365 := n1_; have HB := n2_; clear n0_ n1_ n2_; (try clear hb); (try clear hb2); (try clear hk); (try clear hi); (try clear ho0)) | ((with_reducible refine gate_dst (N := 6) rfl ?_); refine Kd.R_lit k45 _ 45 ?hg (N := 6) ?hd (xs := ([(⟨(⟨#[97]⟩ : ByteArray), (⟨#[98]⟩ : ByteArray)⟩ : S45), (⟨(⟨#[97, 98]⟩ : ByteArray), (⟨#[97, 98]⟩ : ByteArray)⟩ : S45)] : List (S45))) (inner := [.string (⟨#[97]⟩ : ByteArray), .string (⟨#[98]⟩ : ByteArray), .string (⟨#[97, 98]⟩ : ByteArray), .string (⟨#[97, 98]⟩ : ByteArray)]) (ok := fun _ => True) (okp := fun _ => True) ?hr ?hp (fun _ hk => hk) trivial (Below.refl _ _) (Nat.le_refl _) (by simp) ?_; (case hd => rfl); (case hg => rfl); (case hr => first | (go_simp; done) | (go_simp; rfl)); (case hp => exact (Reps.c2 (show Kd.M k45 _ _ _ (⟨(⟨#[97]⟩ : ByteArray), (⟨#[98]⟩ : ByteArray)⟩ : S45) [.string (⟨#[97]⟩ : ByteArray), .string (⟨#[98]⟩ : ByteArray)] from (k45_mkM _ _ _ (⟨(⟨#[97]⟩ : ByteArray), (⟨#[98]⟩ : ByteArray)⟩ : S45) )) (Reps.c2 (show Kd.M k45 _ _ _ (⟨(⟨#[97, 98]⟩ : ByteArray), (⟨#[97, 98]⟩ : ByteArray)⟩ : S45) [.string (⟨#[97, 98]⟩ : ByteArray), .string (⟨#[97, 98]⟩ : ByteArray)] from (k45_mkM _ _ _ (⟨(⟨#[97, 98]⟩ : ByteArray), (⟨#[97, 98]⟩ : ByteArray)⟩ : S45) )) (Reps.none _ _)))); intro v367 w7 ho8 hb hg_ hnew_; clear hg_ hnew_; (first | rw [← Ny366.out] at ho8 | (simp only [Int.reduceToNat] at ho8; rw [← Ny366.out] at ho8)); have n0_ := Aside0.mk (Kd.R_below (by (with_reducible repeat (first | apply Kd.R_alloc | apply Kd.R_drewN | apply Kd.R_drew)); exact HO362.out) hb); have n1_ := Aside0.mk (Kd.R_elder' (by (with_reducible repeat (first | apply Kd.R_alloc | apply Kd.R_drewN | apply Kd.R_drew)); exact HO365.out) (Kd.R_base ho8) hb); have n2_ := Aside0.mk (Kd.R_lower (Kd.R_new' ho8 (Kd.R_lt (by (with_reducible repeat (first | apply Kd.R_alloc | apply Kd.R_drewN | apply Kd.R_drew)); exact HO365.out))) (below_size (by repeat (first | (with_reducible first | exact HB.out | apply below_alloc | apply pw_below_drewN | apply below_drew1) | exact HB.out)))); have n3_ := Aside0.mk (below_step (by repeat (first | (with_reducible first | exact HB.out | apply below_alloc | apply pw_below_drewN | apply below_drew1) | exact HB.out)) hb); clear HO362; clear HO365; clear HB; have HO362 := n0_; have HO365 := n1_; have HO368 := n2_; have HB := n3_; clear n0_ n1_ n2_ n3_; clear hb ho8; obtain ⟨Ao9, co9, eo9⟩ := Kd.R_slice HO365.out; subst eo9; obtain ⟨Ao10, co10, eo10⟩ := Kd.R_slice HO368.out; subst eo10) | ((with_reducible refine gate_callee (f := 23) rfl ?_); refine goesL_ (some 7) rfl rfl Try.func23 (by kernel_rfl) rfl #[.slice Ao9 t363.length co9, .slice Ao10 y366.length co10] rfl (by (try simp only [List.map_toArray, List.map_cons, List.map_nil]); first | done | rfl | (simp only [List.length_drop, List.length_take]; rfl)) ?_; (with_reducible refine (gluepotref09_Same.calls k _ _ t363 _ _ y366 t369 _ ?side1 ?side2 ?side3 ?side4 A2.out).mono ?_); (case side1 => repeat (first | exact (Kd.R_reads' HO365.out).2.2 | (with_reducible refine Kd.C_alloc ?_ _) | (with_reducible refine Kd.C_drewN ?_ _) | (with_reducible refine Kd.C_drew ?_))); (case side2 => exact (Kd.R_reads' HO365.out).2.1); (case side3 => repeat (first | exact (Kd.R_reads' HO368.out).2.2 | (with_reducible refine Kd.C_alloc ?_ _) | (with_reducible refine Kd.C_drewN ?_ _) | (with_reducible refine Kd.C_drew ?_))); (case side4 => exact (Kd.R_reads' HO368.out).2.1); rintro e w' ⟨rfl, ⟨nd, rfl⟩⟩; refine ⟨_, rfl, ?_⟩))
  go_ret
  exact ⟨by first | rfl | (simp [errW_none, errW_some] <;> rfl) | (simp [*, errW_none, errW_some] <;> rfl), by repeat (first | (with_reducible first | exact HB.out | apply below_alloc | apply pw_below_drewN | apply below_drew1) | exact HB.out)⟩

end Go.Proofs.Ytbfjlfbahjmibaa.Pr
