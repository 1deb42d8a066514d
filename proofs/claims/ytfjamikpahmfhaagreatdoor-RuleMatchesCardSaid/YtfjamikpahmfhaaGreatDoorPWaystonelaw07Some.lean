/- Printed by a program of the session out of the translation: what each function answers (.f), and that a call of it answers so (.calls). -/
import Derived.Test.YtfjamikpahmfhaaGreatDoorPKinds
namespace Go.Proofs.YtfjamikpahmfhaaGreatDoor.P
open Go.RowKit Go.Proofs.YtfjamikpahmfhaaGreatDoorW.PrintWords Go.Proofs.YtfjamikpahmfhaaGreatDoorW.PrintLast Go.Proofs.YtfjamikpahmfhaaGreatDoorW.PrintMore
attribute [local go_sem] max2_int min2_int max_two min_two max_three min_three max_four min_four   -- for this text's walks alone
set_option linter.unusedVariables false
set_option linter.unusedSimpArgs false

/-! ### waystonelaw07_some: function 54 -/
def waystonelaw07_some.f  : Option ((List (S27))) := some (([(⟨1, 0, 5, 0, (⟨0, 99⟩ : S25), 2⟩ : S27), (⟨2, 0, 9, 1, (⟨50, 59⟩ : S25), 0⟩ : S27), (⟨3, 0, 1, 3, (⟨70, 79⟩ : S25), 0⟩ : S27), (⟨4, 0, 5, 0, (⟨0, 9⟩ : S25), 1⟩ : S27)] : List (S27)))
set_option maxHeartbeats 8000000 in
set_option maxRecDepth 100000 in
theorem waystonelaw07_some.calls  (r : List (S27)) (w : World) (h : waystonelaw07_some.f  = some r) :
    Calls Tryz.prog 54 #[] w fun e w' => ∃ v0_ : Value, e = .returned (v0_) ∧ Kd.R k27 27 w' w.heap.size (fun _ => True) v0_ r ∧ Below w.heap.size w w' := by
  have hu25 := Tryz.underlying25
  have hu27 := Tryz.underlying27
  have HB := Aside0.mk (Below.refl w.heap.size w)
  have H : (some (([(⟨1, 0, 5, 0, (⟨0, 99⟩ : S25), 2⟩ : S27), (⟨2, 0, 9, 1, (⟨50, 59⟩ : S25), 0⟩ : S27), (⟨3, 0, 1, 3, (⟨70, 79⟩ : S25), 0⟩ : S27), (⟨4, 0, 5, 0, (⟨0, 9⟩ : S25), 1⟩ : S27)] : List (S27)))) = some r := h
  clear h
  obtain ⟨y132, hy132⟩ : ∃ y_ : List (S27), y_ = (([(⟨1, 0, 5, 0, (⟨0, 99⟩ : S25), 2⟩ : S27), (⟨2, 0, 9, 1, (⟨50, 59⟩ : S25), 0⟩ : S27), (⟨3, 0, 1, 3, (⟨70, 79⟩ : S25), 0⟩ : S27), (⟨4, 0, 5, 0, (⟨0, 9⟩ : S25), 1⟩ : S27)] : List (S27))) := ⟨_, rfl⟩
  replace H : (some y132) = some r := by first | (rw [hy132]; with_reducible exact H) | (have H2_ := (Option.bind_some _ _).symm.trans H; rw [hy132]; with_reducible exact H2_) | (have H2_ := (Option.bind_some _ _).symm.trans H; with_reducible exact H2_) | with_reducible exact H | (rw [hy132]; exact H) | exact H
  have Ny132 := Aside0.mk hy132
  clear hy132
  obtain rfl := Option.some.inj H
  go_enter Tryz.func54, Tryz.ntmps54
  go_wp2_with (first | ((with_reducible refine gate_dst (N := 9) rfl ?_); refine Kd.R_lit k27 _ 27 ?hg (N := 9) ?hd (xs := ([(⟨1, 0, 5, 0, (⟨0, 99⟩ : S25), 2⟩ : S27), (⟨2, 0, 9, 1, (⟨50, 59⟩ : S25), 0⟩ : S27), (⟨3, 0, 1, 3, (⟨70, 79⟩ : S25), 0⟩ : S27), (⟨4, 0, 5, 0, (⟨0, 9⟩ : S25), 1⟩ : S27)] : List (S27))) (inner := [.int .i64 1, .int .i64 0, .int .i64 5, .int .i64 0, .int .u32 0, .int .u32 99, .int .i64 2, .int .i64 2, .int .i64 0, .int .i64 9, .int .i64 1, .int .u32 50, .int .u32 59, .int .i64 0, .int .i64 3, .int .i64 0, .int .i64 1, .int .i64 3, .int .u32 70, .int .u32 79, .int .i64 0, .int .i64 4, .int .i64 0, .int .i64 5, .int .i64 0, .int .u32 0, .int .u32 9, .int .i64 1]) (ok := fun _ => True) (okp := fun _ => True) ?hr ?hp (fun _ hk => hk) trivial (Below.refl _ _) (Nat.le_refl _) (by simp) ?_; (case hd => rfl); (case hg => rfl); (case hr => first | (go_simp; done) | (go_simp; rfl)); (case hp => exact (Reps.c7 (show Kd.M k27 _ _ _ (⟨1, 0, 5, 0, (⟨0, 99⟩ : S25), 2⟩ : S27) [.int .i64 1, .int .i64 0, .int .i64 5, .int .i64 0, .int .u32 0, .int .u32 99, .int .i64 2] from (k27_mkM _ _ _ (⟨1, 0, 5, 0, (⟨0, 99⟩ : S25), 2⟩ : S27) )) (Reps.c7 (show Kd.M k27 _ _ _ (⟨2, 0, 9, 1, (⟨50, 59⟩ : S25), 0⟩ : S27) [.int .i64 2, .int .i64 0, .int .i64 9, .int .i64 1, .int .u32 50, .int .u32 59, .int .i64 0] from (k27_mkM _ _ _ (⟨2, 0, 9, 1, (⟨50, 59⟩ : S25), 0⟩ : S27) )) (Reps.c7 (show Kd.M k27 _ _ _ (⟨3, 0, 1, 3, (⟨70, 79⟩ : S25), 0⟩ : S27) [.int .i64 3, .int .i64 0, .int .i64 1, .int .i64 3, .int .u32 70, .int .u32 79, .int .i64 0] from (k27_mkM _ _ _ (⟨3, 0, 1, 3, (⟨70, 79⟩ : S25), 0⟩ : S27) )) (Reps.c7 (show Kd.M k27 _ _ _ (⟨4, 0, 5, 0, (⟨0, 9⟩ : S25), 1⟩ : S27) [.int .i64 4, .int .i64 0, .int .i64 5, .int .i64 0, .int .u32 0, .int .u32 9, .int .i64 1] from (k27_mkM _ _ _ (⟨4, 0, 5, 0, (⟨0, 9⟩ : S25), 1⟩ : S27) )) (Reps.none _ _)))))); intro v133 w1 ho2 hb hg_ hnew_; clear hg_ hnew_; (first | rw [← Ny132.out] at ho2 | (simp only [Int.reduceToNat] at ho2; rw [← Ny132.out] at ho2)); have n0_ := Aside0.mk (Kd.R_lower ho2 (below_size (by repeat (first | (with_reducible first | exact HB.out | apply below_alloc | apply pw_below_drewN | apply below_drew1) | exact HB.out)))); have n1_ := Aside0.mk (below_step (by repeat (first | (with_reducible first | exact HB.out | apply below_alloc | apply pw_below_drewN | apply below_drew1) | exact HB.out)) hb); clear HB; have HO134 := n0_; have HB := n1_; clear n0_ n1_; clear hb ho2))
  go_ret
  exact ⟨_, by first | rfl | (simp [errW_none, errW_some] <;> rfl) | (simp [*, errW_none, errW_some] <;> rfl), by (with_reducible repeat (first | apply Kd.R_alloc | apply Kd.R_drewN | apply Kd.R_drew)); exact HO134.out, by repeat (first | (with_reducible first | exact HB.out | apply below_alloc | apply pw_below_drewN | apply below_drew1) | exact HB.out)⟩

end Go.Proofs.YtfjamikpahmfhaaGreatDoor.P
