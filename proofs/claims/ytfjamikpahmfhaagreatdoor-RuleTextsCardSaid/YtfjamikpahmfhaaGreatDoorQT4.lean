/- Texts of the session's and of the print's, put together by a program. -/
import Derived.Test.YtfjamikpahmfhaaGreatDoorQT3
import Derived.Deep.Slices
import Derived.ChangeSame
import Derived.Test.YtfjamikpahmfhaaGreatDoorCards
import Derived.Test.YtfjamikpahmfhaaGreatDoorTie
import Derived.WalkKit
import Derived.ProofKit
import Derived.OpenShut
import Derived.Deep.DeepHandedRow
import Derived.Deep.DeepWitnessRowRef
import Derived.Lib.LaidTab
import Derived.Lib.LaidU8
import Derived.Stop.LaidErr
import Derived.LaidMore
import Derived.HandedShaped
import Derived.Shelf.LaysM
import Derived.ChangeMaps5
set_option linter.unusedVariables false
set_option linter.unusedSimpArgs false
section
open List renaming map_toArray → mA_, map_cons → mC_, map_nil → mN_, length_drop → lD_, length_take → lT_, setIfInBounds_toArray → sI_, set_cons_zero → z0_, set_cons_succ → z1_
namespace Go.Proofs.YtfjamikpahmfhaaGreatDoor.P
open Go.RowKit Go.Proofs.YtfjamikpahmfhaaGreatDoorW.PrintWords Go.Proofs.YtfjamikpahmfhaaGreatDoorW.PrintLast Go.Proofs.YtfjamikpahmfhaaGreatDoorW.PrintMore
attribute [local go_sem] max2_int min2_int max_two min_two max_three min_three max_four min_four
set_option linter.unusedVariables false
set_option linter.unusedSimpArgs false
def waystonelaw07_alive.f (k : Nat)  : Option (Bool) := (waystonelaw07_some.f).bind fun t147 => ((rule_Match.f t147 0 5).bind fun bt150 => ((waystonelaw07_some.f).bind fun t159 => ((rule_Match.f t159 0 55).bind fun bt162 => ((waystonelaw07_some.f).bind fun t171 => ((rule_Match.f t171 1 55).bind fun bt174 => ((rule_Parse.f (⟨#[55, 32, 48, 32, 49, 48, 32, 102, 111, 114, 119, 97, 114, 100, 32, 49, 48, 46, 48, 46, 48, 46, 48, 45, 49, 48, 46, 50, 53, 53, 46, 50, 53, 53, 46, 50, 53, 53, 32, 51]⟩ : ByteArray)).bind fun bt183 => ((waystonelaw07_some.f).bind fun t192 => ((rule_All.f k t192).bind fun t195 => (if t195 = true then (if bt150.2.2.2.2.2.2.2 = true then (if bt150.1 = 1 then (if bt162.2.2.2.2.2.2.2 = true then (if bt162.1 = 2 then (if bt174.2.2.2.2.2.2.2 = true then (none) else ((waystonelaw07_some.f).bind fun t196 => ((rule_Denies.f t196 0 75).bind fun t199 => (if t199 = true then ((waystonelaw07_some.f).bind fun t200 => ((rule_Denies.f t200 0 5).bind fun t203 => (if t203 = true then (none) else (if bt183.2.2.2.2.2.2.2 = 0 then (if bt183.2.2.2.2.2.2.1 = 3 then ((rule_Text.f bt183.1 bt183.2.1 bt183.2.2.1 bt183.2.2.2.1 bt183.2.2.2.2.1 bt183.2.2.2.2.2.1 bt183.2.2.2.2.2.2.1).bind fun t204 => (some (t204.toList == ([55, 32, 48, 32, 49, 48, 32, 102, 111, 114, 119, 97, 114, 100, 32, 49, 48, 46, 48, 46, 48, 46, 48, 45, 49, 48, 46, 50, 53, 53, 46, 50, 53, 53, 46, 50, 53, 53, 32, 51] : List UInt8)))) else (none)) else (none))))) else (none))))) else (none)) else (none)) else (none)) else (none)) else (none))))))))))
theorem waystonelaw07_alive.mono : ∀ k, LeO (waystonelaw07_alive.f k ) (waystonelaw07_alive.f (k + 1) ) := by
 intro  k
 unfold waystonelaw07_alive.f
 repeat' first
   | (with_reducible exact rule_All.mono _ _)
   | (with_reducible exact LeO.refl _)
   | (with_reducible exact LeO.none _)
   | (with_reducible refine LeO.ite ?_ ?_)
   | (with_reducible refine LeO.bind ?_ (fun _ => ?_))
   | exact rule_All.mono _ _
   | exact LeO.none _
   | refine LeO.ite ?_ ?_
   | refine LeO.bind ?_ (fun _ => ?_)
set_option maxHeartbeats 8000000 in
set_option maxRecDepth 100000 in
theorem waystonelaw07_alive.calls (k : Nat)  (r : Bool) (w : World) (HLd : Laid w) (h : waystonelaw07_alive.f k  = some r) :
  Calls Tryz.prog 13 #[] w fun e w' => e = .returned (.bool r) ∧ Below w.heap.size w w' := by
 have hu27 := Tryz.underlying27
 have HB := Aside0.mk (Below.refl w.heap.size w)
 have H : ((waystonelaw07_some.f).bind fun t147 => ((rule_Match.f t147 0 5).bind fun bt150 => ((waystonelaw07_some.f).bind fun t159 => ((rule_Match.f t159 0 55).bind fun bt162 => ((waystonelaw07_some.f).bind fun t171 => ((rule_Match.f t171 1 55).bind fun bt174 => ((rule_Parse.f (⟨#[55, 32, 48, 32, 49, 48, 32, 102, 111, 114, 119, 97, 114, 100, 32, 49, 48, 46, 48, 46, 48, 46, 48, 45, 49, 48, 46, 50, 53, 53, 46, 50, 53, 53, 46, 50, 53, 53, 32, 51]⟩ : ByteArray)).bind fun bt183 => ((waystonelaw07_some.f).bind fun t192 => ((rule_All.f k t192).bind fun t195 => (if t195 = true then (if bt150.2.2.2.2.2.2.2 = true then (if bt150.1 = 1 then (if bt162.2.2.2.2.2.2.2 = true then (if bt162.1 = 2 then (if bt174.2.2.2.2.2.2.2 = true then (none) else ((waystonelaw07_some.f).bind fun t196 => ((rule_Denies.f t196 0 75).bind fun t199 => (if t199 = true then ((waystonelaw07_some.f).bind fun t200 => ((rule_Denies.f t200 0 5).bind fun t203 => (if t203 = true then (none) else (if bt183.2.2.2.2.2.2.2 = 0 then (if bt183.2.2.2.2.2.2.1 = 3 then ((rule_Text.f bt183.1 bt183.2.1 bt183.2.2.1 bt183.2.2.2.1 bt183.2.2.2.2.1 bt183.2.2.2.2.2.1 bt183.2.2.2.2.2.2.1).bind fun t204 => (some (t204.toList == ([55, 32, 48, 32, 49, 48, 32, 102, 111, 114, 119, 97, 114, 100, 32, 49, 48, 46, 48, 46, 48, 46, 48, 45, 49, 48, 46, 50, 53, 53, 46, 50, 53, 53, 46, 50, 53, 53, 32, 51] : List UInt8)))) else (none)) else (none))))) else (none))))) else (none)) else (none)) else (none)) else (none)) else (none))))))))))) = some r := h
 clear h
 replace H := Option.bind_eq_some_iff.mp H
 obtain ⟨t147, A10, H⟩ := H
 try dsimp only at H
 have A1 := Aside0.mk A10
 clear A10
 replace H := Option.bind_eq_some_iff.mp H
 obtain ⟨⟨t150, t151, t152, t153, t154, t155, t156, t157⟩, A20, H⟩ := H
 try dsimp only at H
 have A2 := Aside0.mk A20
 clear A20
 replace H := Option.bind_eq_some_iff.mp H
 obtain ⟨t159, A30, H⟩ := H
 try dsimp only at H
 have A3 := Aside0.mk A30
 clear A30
 replace H := Option.bind_eq_some_iff.mp H
 obtain ⟨⟨t162, t163, t164, t165, t166, t167, t168, t169⟩, A40, H⟩ := H
 try dsimp only at H
 have A4 := Aside0.mk A40
 clear A40
 replace H := Option.bind_eq_some_iff.mp H
 obtain ⟨t171, A50, H⟩ := H
 try dsimp only at H
 have A5 := Aside0.mk A50
 clear A50
 replace H := Option.bind_eq_some_iff.mp H
 obtain ⟨⟨t174, t175, t176, t177, t178, t179, t180, t181⟩, A60, H⟩ := H
 try dsimp only at H
 have A6 := Aside0.mk A60
 clear A60
 replace H := Option.bind_eq_some_iff.mp H
 obtain ⟨⟨t183, t184, t185, t186, t187, t188, t189, t190⟩, A70, H⟩ := H
 try dsimp only at H
 have A7 := Aside0.mk A70
 clear A70
 replace H := Option.bind_eq_some_iff.mp H
 obtain ⟨t192, A80, H⟩ := H
 try dsimp only at H
 have A8 := Aside0.mk A80
 clear A80
 replace H := Option.bind_eq_some_iff.mp H
 obtain ⟨t195, A90, H⟩ := H
 try dsimp only at H
 have A9 := Aside0.mk A90
 clear A90
 by_cases c10 : t195 = true
 ·subst c10
  rw [if_pos rfl] at H
  by_cases c11 : t157 = true
  ·subst c11
   rw [if_pos rfl] at H
   by_cases c12 : t150 = 1
   ·rw [if_pos c12] at H
    have c12b0 : (t150 == 1) = true := beq_iff_eq.mpr c12
    have c12b1 : (t150 != 1) = false := bne_eq_false_iff_eq.mpr c12
    clear c12
    by_cases c13 : t169 = true
    ·subst c13
     rw [if_pos rfl] at H
     by_cases c14 : t162 = 2
     ·rw [if_pos c14] at H
      have c14b0 : (t162 == 2) = true := beq_iff_eq.mpr c14
      have c14b1 : (t162 != 2) = false := bne_eq_false_iff_eq.mpr c14
      clear c14
      by_cases c15 : t181 = true
      ·subst c15
       rw [if_pos rfl] at H
       exact absurd H (by simp)
      ·replace c15 := Bool.eq_false_iff.mpr c15
       subst c15
       rw [if_neg (show ¬ (false = true) by decide)] at H
       replace H := Option.bind_eq_some_iff.mp H
       obtain ⟨t196, A160, H⟩ := H
       try dsimp only at H
       have A16 := Aside0.mk A160
       clear A160
       replace H := Option.bind_eq_some_iff.mp H
       obtain ⟨t199, A170, H⟩ := H
       try dsimp only at H
       have A17 := Aside0.mk A170
       clear A170
       by_cases c18 : t199 = true
       ·subst c18
        rw [if_pos rfl] at H
        replace H := Option.bind_eq_some_iff.mp H
        obtain ⟨t200, A190, H⟩ := H
        try dsimp only at H
        have A19 := Aside0.mk A190
        clear A190
        replace H := Option.bind_eq_some_iff.mp H
        obtain ⟨t203, A200, H⟩ := H
        try dsimp only at H
        have A20 := Aside0.mk A200
        clear A200
        by_cases c21 : t203 = true
        ·subst c21
         rw [if_pos rfl] at H
         exact absurd H (by simp)
        ·replace c21 := Bool.eq_false_iff.mpr c21
         subst c21
         rw [if_neg (show ¬ (false = true) by decide)] at H
         by_cases c22 : t190 = 0
         ·rw [if_pos c22] at H
          have c22b0 : (t190 == 0) = true := beq_iff_eq.mpr c22
          have c22b1 : (t190 != 0) = false := bne_eq_false_iff_eq.mpr c22
          clear c22
          by_cases c23 : t189 = 3
          ·rw [if_pos c23] at H
           have c23b0 : (t189 == 3) = true := beq_iff_eq.mpr c23
           have c23b1 : (t189 != 3) = false := bne_eq_false_iff_eq.mpr c23
           clear c23
           replace H := Option.bind_eq_some_iff.mp H
           obtain ⟨t204, A240, H⟩ := H
           try dsimp only at H
           have A24 := Aside0.mk A240
           clear A240
           obtain rfl := Option.some.inj H
           go_enter Tryz.func13, Tryz.ntmps13
           go_wp2_with (first | ((with_reducible refine gate_callee (f := 54) rfl ?_); refine goesL_ (some 10) rfl rfl Tryz.func54 (by kernel_rfl) rfl #[] rfl (by (try simp only [mA_, mC_, mN_]); first|done|rfl|(simp only [lD_, lT_]; rfl)) ?_; (with_reducible refine (waystonelaw07_some.calls  t147 _ A1.out).mono ?_); rintro e w25 ⟨v148, rfl, ho0, hb⟩; refine ⟨_, rfl, ?_⟩; have n0_ := Aside0.mk (Kd.R_lower ho0 (below_size (gB HB.out))); have n1_ := Aside0.mk (below_step (gB HB.out) hb); clear HB; have HO149 := n0_; have HB := n1_; clear n0_ n1_; (try clear hb); (try clear hb2); (try clear hk); (try clear hi); (try clear ho0); obtain ⟨Ao26, co26, eo26⟩ := Kd.R_slice HO149.out; subst eo26) | ((with_reducible refine gate_callee (f := 19) rfl ?_); refine goesL_ (some 11) rfl rfl Tryz.func19 (by kernel_rfl) rfl #[.slice Ao26 t147.length co26, .int .i64 0, .int .u32 5] rfl (by (try simp only [mA_, mC_, mN_]); first|done|rfl|(simp only [lD_, lT_]; rfl)) ?_; (with_reducible refine (rule_Match.calls _ _ t147 0 5 t150 t151 t152 t153 t154 t155 t156 true _ ?side1 ?side2 A2.out).mono ?_); (case side1 => repeat (first | exact (Kd.R_reads' HO149.out).2.2 | (with_reducible refine Kd.C_alloc ?_ _) | (with_reducible refine Kd.C_drewN ?_ _) | (with_reducible refine Kd.C_drew ?_))); (case side2 => exact (Kd.R_reads' HO149.out).2.1); rintro e w27 ⟨rfl, hb⟩; refine ⟨_, rfl, ?_⟩; have n0_ := Aside0.mk (Kd.R_below (gR HO149.out) hb); have n1_ := Aside0.mk (below_step (gB HB.out) hb); clear HO149; clear HB; have HO149 := n0_; have HB := n1_; clear n0_ n1_; (try clear hb); (try clear hb2); (try clear hk); (try clear hi)) | ((with_reducible refine gate_dst (N := 1) rfl ?_); refine box_event ?hg (N := 1) ?hd (cs := #[.int .i64 0, .int .i64 0, .int .i64 0, .int .i64 0, .int .u32 0, .int .u32 0, .int .i64 0]) (t := 27) ?hr ?_; (case hd => rfl); (case hg => rfl); (case hr => first | (go_simp; done) | (go_simp; rfl)); intro gb158 hg w28 hbox hb; have n0_ := Aside0.mk (Kd.R_below (Kd.R_elderB (gR HO149.out) gb158 (Nat.le_of_eq hg.symm)) hb); have n1_ := Aside0.mk (below_step (gB HB.out) hb); have n2_ := Aside0.mk (hbox); have n3_ := Aside0.mk ((by rw [hg]; exact (below_size (gB HB.out)) : w.heap.size ≤ gb158)); have n4_ := Aside0.mk ((by rw [hg]; exact (below_size (gB HB.out)) : w.heap.size ≤ gb158)); clear HO149; clear HB; have HO149 := n0_; have HB := n1_; have BK158 := n2_; have GW158 := n3_; have GE158 := n4_; clear n0_ n1_ n2_ n3_ n4_; clear hb hbox hg; have hcz29_0 : w28.cell? ⟨gb158, 0, none⟩ = some (.int .i64 0) := (blk_cell BK158.out 0).trans rfl; have hcz29_1 : w28.cell? ⟨gb158, 1, none⟩ = some (.int .i64 0) := (blk_cell BK158.out 1).trans rfl; have hcz29_2 : w28.cell? ⟨gb158, 2, none⟩ = some (.int .i64 0) := (blk_cell BK158.out 2).trans rfl; have hcz29_3 : w28.cell? ⟨gb158, 3, none⟩ = some (.int .i64 0) := (blk_cell BK158.out 3).trans rfl; have hcz29_4 : w28.cell? ⟨gb158, 4, none⟩ = some (.int .u32 0) := (blk_cell BK158.out 4).trans rfl; have hcz29_5 : w28.cell? ⟨gb158, 5, none⟩ = some (.int .u32 0) := (blk_cell BK158.out 5).trans rfl; have hcz29_6 : w28.cell? ⟨gb158, 6, none⟩ = some (.int .i64 0) := (blk_cell BK158.out 6).trans rfl; have hfz29_0 := blk_frozen BK158.out 0; have hfz29_1 := blk_frozen BK158.out 1; have hfz29_2 := blk_frozen BK158.out 2; have hfz29_3 := blk_frozen BK158.out 3; have hfz29_4 := blk_frozen BK158.out 4; have hfz29_5 := blk_frozen BK158.out 5; have hfz29_6 := blk_frozen BK158.out 6) | ((with_reducible refine gate_callee (f := 54) rfl ?_); refine goesL_ (some 15) rfl rfl Tryz.func54 (by kernel_rfl) rfl #[] rfl (by (try simp only [mA_, mC_, mN_]); first|done|rfl|(simp only [lD_, lT_]; rfl)) ?_; (with_reducible refine (waystonelaw07_some.calls  t159 _ A3.out).mono ?_); rintro e w30 ⟨v160, rfl, ho0, hb⟩; refine ⟨_, rfl, ?_⟩; have n0_ := Aside0.mk (Kd.R_elder' (by (with_reducible repeat (first | apply Kd.R_alloc | apply Kd.R_drewN | apply Kd.R_drew)); exact (Kd.R_mono (Kd.R_far (p := ⟨gb158, 6, none⟩) (Kd.R_far (p := ⟨gb158, 5, none⟩) (Kd.R_far (p := ⟨gb158, 4, none⟩) (Kd.R_far (p := ⟨gb158, 3, none⟩) (Kd.R_far (p := ⟨gb158, 2, none⟩) (Kd.R_far (p := ⟨gb158, 1, none⟩) (Kd.R_far (p := ⟨gb158, 0, none⟩) (Kd.R_mono HO149.out (fun k_ hk => (⟨hk, hk.2⟩ : _ ∧ k_ ≠ gb158))) (fun _ hk => hk.2) (.int .i64 t150)) (fun _ hk => hk.2) (.int .i64 t151)) (fun _ hk => hk.2) (.int .i64 t152)) (fun _ hk => hk.2) (.int .i64 t153)) (fun _ hk => hk.2) (.int .u32 t154)) (fun _ hk => hk.2) (.int .u32 t155)) (fun _ hk => hk.2) (.int .i64 t156)) (fun _ h_ => h_.1))) (Kd.R_base ho0) hb); have n1_ := Aside0.mk (Kd.R_lower (Kd.R_newB (Kd.R_new' ho0 (Kd.R_lt (by (with_reducible repeat (first | apply Kd.R_alloc | apply Kd.R_drewN | apply Kd.R_drew)); exact (Kd.R_mono (Kd.R_far (p := ⟨gb158, 6, none⟩) (Kd.R_far (p := ⟨gb158, 5, none⟩) (Kd.R_far (p := ⟨gb158, 4, none⟩) (Kd.R_far (p := ⟨gb158, 3, none⟩) (Kd.R_far (p := ⟨gb158, 2, none⟩) (Kd.R_far (p := ⟨gb158, 1, none⟩) (Kd.R_far (p := ⟨gb158, 0, none⟩) (Kd.R_mono HO149.out (fun k_ hk => (⟨hk, hk.2⟩ : _ ∧ k_ ≠ gb158))) (fun _ hk => hk.2) (.int .i64 t150)) (fun _ hk => hk.2) (.int .i64 t151)) (fun _ hk => hk.2) (.int .i64 t152)) (fun _ hk => hk.2) (.int .i64 t153)) (fun _ hk => hk.2) (.int .u32 t154)) (fun _ hk => hk.2) (.int .u32 t155)) (fun _ hk => hk.2) (.int .i64 t156)) (fun _ h_ => h_.1))))) (g := gb158) (o := .cells #[.int .i64 t150, .int .i64 t151, .int .i64 t152, .int .i64 t153, .int .u32 t154, .int .u32 t155, .int .i64 t156] 27 (0, 0)) (by (with_reducible repeat (first | refine blk_drewN ?_ _ | refine blk_drew ?_ | refine blk_alloc ?_ _)); refine blk_put (cs := #[.int .i64 t150, .int .i64 t151, .int .i64 t152, .int .i64 t153, .int .u32 t154, .int .u32 t155, .int .i64 0]) ?_ 6 _ rfl; (with_reducible repeat (first | refine blk_drewN ?_ _ | refine blk_drew ?_ | refine blk_alloc ?_ _)); refine blk_put (cs := #[.int .i64 t150, .int .i64 t151, .int .i64 t152, .int .i64 t153, .int .u32 t154, .int .u32 0, .int .i64 0]) ?_ 5 _ rfl; (with_reducible repeat (first | refine blk_drewN ?_ _ | refine blk_drew ?_ | refine blk_alloc ?_ _)); refine blk_put (cs := #[.int .i64 t150, .int .i64 t151, .int .i64 t152, .int .i64 t153, .int .u32 0, .int .u32 0, .int .i64 0]) ?_ 4 _ rfl; (with_reducible repeat (first | refine blk_drewN ?_ _ | refine blk_drew ?_ | refine blk_alloc ?_ _)); refine blk_put (cs := #[.int .i64 t150, .int .i64 t151, .int .i64 t152, .int .i64 0, .int .u32 0, .int .u32 0, .int .i64 0]) ?_ 3 _ rfl; (with_reducible repeat (first | refine blk_drewN ?_ _ | refine blk_drew ?_ | refine blk_alloc ?_ _)); refine blk_put (cs := #[.int .i64 t150, .int .i64 t151, .int .i64 0, .int .i64 0, .int .u32 0, .int .u32 0, .int .i64 0]) ?_ 2 _ rfl; (with_reducible repeat (first | refine blk_drewN ?_ _ | refine blk_drew ?_ | refine blk_alloc ?_ _)); refine blk_put (cs := #[.int .i64 t150, .int .i64 0, .int .i64 0, .int .i64 0, .int .u32 0, .int .u32 0, .int .i64 0]) ?_ 1 _ rfl; (with_reducible repeat (first | refine blk_drewN ?_ _ | refine blk_drew ?_ | refine blk_alloc ?_ _)); refine blk_put (cs := #[.int .i64 0, .int .i64 0, .int .i64 0, .int .i64 0, .int .u32 0, .int .u32 0, .int .i64 0]) ?_ 0 _ rfl; (with_reducible repeat (first | refine blk_drewN ?_ _ | refine blk_drew ?_ | refine blk_alloc ?_ _)); exact BK158.out)) (below_size (by repeat first|(with_reducible first|exact HB.out|apply ba|apply bd|apply b1|refine bs ?_ GE158.out)|exact HB.out))); have n2_ := Aside0.mk (blk_below (g := gb158) (o := .cells #[.int .i64 t150, .int .i64 t151, .int .i64 t152, .int .i64 t153, .int .u32 t154, .int .u32 t155, .int .i64 t156] 27 (0, 0)) (by (with_reducible repeat (first | refine blk_drewN ?_ _ | refine blk_drew ?_ | refine blk_alloc ?_ _)); refine blk_put (cs := #[.int .i64 t150, .int .i64 t151, .int .i64 t152, .int .i64 t153, .int .u32 t154, .int .u32 t155, .int .i64 0]) ?_ 6 _ rfl; (with_reducible repeat (first | refine blk_drewN ?_ _ | refine blk_drew ?_ | refine blk_alloc ?_ _)); refine blk_put (cs := #[.int .i64 t150, .int .i64 t151, .int .i64 t152, .int .i64 t153, .int .u32 t154, .int .u32 0, .int .i64 0]) ?_ 5 _ rfl; (with_reducible repeat (first | refine blk_drewN ?_ _ | refine blk_drew ?_ | refine blk_alloc ?_ _)); refine blk_put (cs := #[.int .i64 t150, .int .i64 t151, .int .i64 t152, .int .i64 t153, .int .u32 0, .int .u32 0, .int .i64 0]) ?_ 4 _ rfl; (with_reducible repeat (first | refine blk_drewN ?_ _ | refine blk_drew ?_ | refine blk_alloc ?_ _)); refine blk_put (cs := #[.int .i64 t150, .int .i64 t151, .int .i64 t152, .int .i64 0, .int .u32 0, .int .u32 0, .int .i64 0]) ?_ 3 _ rfl; (with_reducible repeat (first | refine blk_drewN ?_ _ | refine blk_drew ?_ | refine blk_alloc ?_ _)); refine blk_put (cs := #[.int .i64 t150, .int .i64 t151, .int .i64 0, .int .i64 0, .int .u32 0, .int .u32 0, .int .i64 0]) ?_ 2 _ rfl; (with_reducible repeat (first | refine blk_drewN ?_ _ | refine blk_drew ?_ | refine blk_alloc ?_ _)); refine blk_put (cs := #[.int .i64 t150, .int .i64 0, .int .i64 0, .int .i64 0, .int .u32 0, .int .u32 0, .int .i64 0]) ?_ 1 _ rfl; (with_reducible repeat (first | refine blk_drewN ?_ _ | refine blk_drew ?_ | refine blk_alloc ?_ _)); refine blk_put (cs := #[.int .i64 0, .int .i64 0, .int .i64 0, .int .i64 0, .int .u32 0, .int .u32 0, .int .i64 0]) ?_ 0 _ rfl; (with_reducible repeat (first | refine blk_drewN ?_ _ | refine blk_drew ?_ | refine blk_alloc ?_ _)); exact BK158.out) hb); have n3_ := Aside0.mk (below_step (by repeat first|(with_reducible first|exact HB.out|apply ba|apply bd|apply b1|refine bs ?_ GE158.out)|exact HB.out) hb); clear HO149; clear BK158; clear HB; have HO149 := n0_; have HO161 := n1_; have BK158 := n2_; have HB := n3_; clear n0_ n1_ n2_ n3_; (try clear hb); (try clear hb2); (try clear hk); (try clear hi); (try clear ho0); obtain ⟨Ao31, co31, eo31⟩ := Kd.R_slice HO161.out; subst eo31) | ((with_reducible refine gate_callee (f := 19) rfl ?_); refine goesL_ (some 16) rfl rfl Tryz.func19 (by kernel_rfl) rfl #[.slice Ao31 t159.length co31, .int .i64 0, .int .u32 55] rfl (by (try simp only [mA_, mC_, mN_]); first|done|rfl|(simp only [lD_, lT_]; rfl)) ?_; (with_reducible refine (rule_Match.calls _ _ t159 0 55 t162 t163 t164 t165 t166 t167 t168 true _ ?side1 ?side2 A4.out).mono ?_); (case side1 => repeat (first | exact (Kd.R_reads' HO161.out).2.2 | (with_reducible refine Kd.C_alloc ?_ _) | (with_reducible refine Kd.C_drewN ?_ _) | (with_reducible refine Kd.C_drew ?_))); (case side2 => exact (Kd.R_reads' HO161.out).2.1); rintro e w32 ⟨rfl, hb⟩; refine ⟨_, rfl, ?_⟩; have n0_ := Aside0.mk (Kd.R_below (gR HO149.out) hb); have n1_ := Aside0.mk (Kd.R_below (gR HO161.out) hb); have n2_ := Aside0.mk (blk_below (g := gb158) (o := .cells #[.int .i64 t150, .int .i64 t151, .int .i64 t152, .int .i64 t153, .int .u32 t154, .int .u32 t155, .int .i64 t156] 27 (0, 0)) (gK BK158.out) hb); have n3_ := Aside0.mk (below_step (by repeat first|(with_reducible first|exact HB.out|apply ba|apply bd|apply b1|refine bs ?_ GE158.out)|exact HB.out) hb); clear HO149; clear HO161; clear BK158; clear HB; have HO149 := n0_; have HO161 := n1_; have BK158 := n2_; have HB := n3_; clear n0_ n1_ n2_ n3_; (try clear hb); (try clear hb2); (try clear hk); (try clear hi)) | ((with_reducible refine gate_dst (N := 3) rfl ?_); refine box_event ?hg (N := 3) ?hd (cs := #[.int .i64 0, .int .i64 0, .int .i64 0, .int .i64 0, .int .u32 0, .int .u32 0, .int .i64 0]) (t := 27) ?hr ?_; (case hd => rfl); (case hg => rfl); (case hr => first | (go_simp; done) | (go_simp; rfl)); intro gb170 hg w33 hbox hb; have n0_ := Aside0.mk (Kd.R_below (Kd.R_elderB (gR HO149.out) gb170 (Nat.le_of_eq hg.symm)) hb); have n1_ := Aside0.mk (Kd.R_below (Kd.R_elderB (gR HO161.out) gb170 (Nat.le_of_eq hg.symm)) hb); have n2_ := Aside0.mk (blk_below (g := gb158) (o := .cells #[.int .i64 t150, .int .i64 t151, .int .i64 t152, .int .i64 t153, .int .u32 t154, .int .u32 t155, .int .i64 t156] 27 (0, 0)) (gK BK158.out) hb); have n3_ := Aside0.mk (below_step (by repeat first|(with_reducible first|exact HB.out|apply ba|apply bd|apply b1|refine bs ?_ GE158.out)|exact HB.out) hb); have n4_ := Aside0.mk (hbox); have n5_ := Aside0.mk ((by rw [hg]; exact (below_size (by repeat first|(with_reducible first|exact HB.out|apply ba|apply bd|apply b1|refine bs ?_ GE158.out)|exact HB.out)) : w.heap.size ≤ gb170)); have n6_ := Aside0.mk ((by rw [hg]; exact (below_size (by repeat first|(with_reducible first|exact HB.out|apply ba|apply bd|apply b1|refine bs ?_ GE158.out)|exact HB.out)) : w.heap.size ≤ gb170)); have n7_ := Aside0.mk ((by rw [hg]; exact Nat.ne_of_lt (blk_lt (g := gb158) (o := .cells #[.int .i64 t150, .int .i64 t151, .int .i64 t152, .int .i64 t153, .int .u32 t154, .int .u32 t155, .int .i64 t156] 27 (0, 0)) (gK BK158.out)) : gb158 ≠ gb170)); have n8_ := Aside0.mk ((by rw [hg]; exact Nat.ne_of_gt (blk_lt (g := gb158) (o := .cells #[.int .i64 t150, .int .i64 t151, .int .i64 t152, .int .i64 t153, .int .u32 t154, .int .u32 t155, .int .i64 t156] 27 (0, 0)) (gK BK158.out)) : gb170 ≠ gb158)); clear HO149; clear HO161; clear BK158; clear HB; have HO149 := n0_; have HO161 := n1_; have BK158 := n2_; have HB := n3_; have BK170 := n4_; have GW170 := n5_; have GE170 := n6_; have NB158_170 := n7_; have NB170_158 := n8_; clear n0_ n1_ n2_ n3_ n4_ n5_ n6_ n7_ n8_; clear hb hbox hg; have hnb34 := NB170_158.out; have hnc34 := NB158_170.out; have hcz35_0 : w33.cell? ⟨gb170, 0, none⟩ = some (.int .i64 0) := (blk_cell BK170.out 0).trans rfl; have hcz35_1 : w33.cell? ⟨gb170, 1, none⟩ = some (.int .i64 0) := (blk_cell BK170.out 1).trans rfl; have hcz35_2 : w33.cell? ⟨gb170, 2, none⟩ = some (.int .i64 0) := (blk_cell BK170.out 2).trans rfl; have hcz35_3 : w33.cell? ⟨gb170, 3, none⟩ = some (.int .i64 0) := (blk_cell BK170.out 3).trans rfl; have hcz35_4 : w33.cell? ⟨gb170, 4, none⟩ = some (.int .u32 0) := (blk_cell BK170.out 4).trans rfl; have hcz35_5 : w33.cell? ⟨gb170, 5, none⟩ = some (.int .u32 0) := (blk_cell BK170.out 5).trans rfl; have hcz35_6 : w33.cell? ⟨gb170, 6, none⟩ = some (.int .i64 0) := (blk_cell BK170.out 6).trans rfl; have hfz35_0 := blk_frozen BK170.out 0; have hfz35_1 := blk_frozen BK170.out 1; have hfz35_2 := blk_frozen BK170.out 2; have hfz35_3 := blk_frozen BK170.out 3; have hfz35_4 := blk_frozen BK170.out 4; have hfz35_5 := blk_frozen BK170.out 5; have hfz35_6 := blk_frozen BK170.out 6) | ((with_reducible refine gate_callee (f := 54) rfl ?_); refine goesL_ (some 20) rfl rfl Tryz.func54 (by kernel_rfl) rfl #[] rfl (by (try simp only [mA_, mC_, mN_]); first|done|rfl|(simp only [lD_, lT_]; rfl)) ?_; (with_reducible refine (waystonelaw07_some.calls  t171 _ A5.out).mono ?_); rintro e w36 ⟨v172, rfl, ho0, hb⟩; refine ⟨_, rfl, ?_⟩; have n0_ := Aside0.mk (Kd.R_elder' (by (with_reducible repeat (first | apply Kd.R_alloc | apply Kd.R_drewN | apply Kd.R_drew)); exact (Kd.R_mono (Kd.R_far (p := ⟨gb170, 6, none⟩) (Kd.R_far (p := ⟨gb170, 5, none⟩) (Kd.R_far (p := ⟨gb170, 4, none⟩) (Kd.R_far (p := ⟨gb170, 3, none⟩) (Kd.R_far (p := ⟨gb170, 2, none⟩) (Kd.R_far (p := ⟨gb170, 1, none⟩) (Kd.R_far (p := ⟨gb170, 0, none⟩) (Kd.R_mono HO149.out (fun k_ hk => (⟨hk, hk.2⟩ : _ ∧ k_ ≠ gb170))) (fun _ hk => hk.2) (.int .i64 t162)) (fun _ hk => hk.2) (.int .i64 t163)) (fun _ hk => hk.2) (.int .i64 t164)) (fun _ hk => hk.2) (.int .i64 t165)) (fun _ hk => hk.2) (.int .u32 t166)) (fun _ hk => hk.2) (.int .u32 t167)) (fun _ hk => hk.2) (.int .i64 t168)) (fun _ h_ => h_.1))) (Kd.R_base ho0) hb); have n1_ := Aside0.mk (Kd.R_elder' (by (with_reducible repeat (first | apply Kd.R_alloc | apply Kd.R_drewN | apply Kd.R_drew)); exact (Kd.R_mono (Kd.R_far (p := ⟨gb170, 6, none⟩) (Kd.R_far (p := ⟨gb170, 5, none⟩) (Kd.R_far (p := ⟨gb170, 4, none⟩) (Kd.R_far (p := ⟨gb170, 3, none⟩) (Kd.R_far (p := ⟨gb170, 2, none⟩) (Kd.R_far (p := ⟨gb170, 1, none⟩) (Kd.R_far (p := ⟨gb170, 0, none⟩) (Kd.R_mono HO161.out (fun k_ hk => (⟨hk, hk.2⟩ : _ ∧ k_ ≠ gb170))) (fun _ hk => hk.2) (.int .i64 t162)) (fun _ hk => hk.2) (.int .i64 t163)) (fun _ hk => hk.2) (.int .i64 t164)) (fun _ hk => hk.2) (.int .i64 t165)) (fun _ hk => hk.2) (.int .u32 t166)) (fun _ hk => hk.2) (.int .u32 t167)) (fun _ hk => hk.2) (.int .i64 t168)) (fun _ h_ => h_.1))) (Kd.R_base ho0) hb); have n2_ := Aside0.mk (Kd.R_lower (Kd.R_newB (Kd.R_newB (Kd.R_new' (Kd.R_new' ho0 (Kd.R_lt (by (with_reducible repeat (first | apply Kd.R_alloc | apply Kd.R_drewN | apply Kd.R_drew)); exact (Kd.R_mono (Kd.R_far (p := ⟨gb170, 6, none⟩) (Kd.R_far (p := ⟨gb170, 5, none⟩) (Kd.R_far (p := ⟨gb170, 4, none⟩) (Kd.R_far (p := ⟨gb170, 3, none⟩) (Kd.R_far (p := ⟨gb170, 2, none⟩) (Kd.R_far (p := ⟨gb170, 1, none⟩) (Kd.R_far (p := ⟨gb170, 0, none⟩) (Kd.R_mono HO149.out (fun k_ hk => (⟨hk, hk.2⟩ : _ ∧ k_ ≠ gb170))) (fun _ hk => hk.2) (.int .i64 t162)) (fun _ hk => hk.2) (.int .i64 t163)) (fun _ hk => hk.2) (.int .i64 t164)) (fun _ hk => hk.2) (.int .i64 t165)) (fun _ hk => hk.2) (.int .u32 t166)) (fun _ hk => hk.2) (.int .u32 t167)) (fun _ hk => hk.2) (.int .i64 t168)) (fun _ h_ => h_.1))))) (Kd.R_lt (by (with_reducible repeat (first | apply Kd.R_alloc | apply Kd.R_drewN | apply Kd.R_drew)); exact (Kd.R_mono (Kd.R_far (p := ⟨gb170, 6, none⟩) (Kd.R_far (p := ⟨gb170, 5, none⟩) (Kd.R_far (p := ⟨gb170, 4, none⟩) (Kd.R_far (p := ⟨gb170, 3, none⟩) (Kd.R_far (p := ⟨gb170, 2, none⟩) (Kd.R_far (p := ⟨gb170, 1, none⟩) (Kd.R_far (p := ⟨gb170, 0, none⟩) (Kd.R_mono HO161.out (fun k_ hk => (⟨hk, hk.2⟩ : _ ∧ k_ ≠ gb170))) (fun _ hk => hk.2) (.int .i64 t162)) (fun _ hk => hk.2) (.int .i64 t163)) (fun _ hk => hk.2) (.int .i64 t164)) (fun _ hk => hk.2) (.int .i64 t165)) (fun _ hk => hk.2) (.int .u32 t166)) (fun _ hk => hk.2) (.int .u32 t167)) (fun _ hk => hk.2) (.int .i64 t168)) (fun _ h_ => h_.1))))) (g := gb158) (o := .cells #[.int .i64 t150, .int .i64 t151, .int .i64 t152, .int .i64 t153, .int .u32 t154, .int .u32 t155, .int .i64 t156] 27 (0, 0)) (by (with_reducible repeat (first | refine blk_drewN ?_ _ | refine blk_drew ?_ | refine blk_alloc ?_ _)); refine blk_far ?_ NB158_170.out _; (with_reducible repeat (first | refine blk_drewN ?_ _ | refine blk_drew ?_ | refine blk_alloc ?_ _)); refine blk_far ?_ NB158_170.out _; (with_reducible repeat (first | refine blk_drewN ?_ _ | refine blk_drew ?_ | refine blk_alloc ?_ _)); refine blk_far ?_ NB158_170.out _; (with_reducible repeat (first | refine blk_drewN ?_ _ | refine blk_drew ?_ | refine blk_alloc ?_ _)); refine blk_far ?_ NB158_170.out _; (with_reducible repeat (first | refine blk_drewN ?_ _ | refine blk_drew ?_ | refine blk_alloc ?_ _)); refine blk_far ?_ NB158_170.out _; (with_reducible repeat (first | refine blk_drewN ?_ _ | refine blk_drew ?_ | refine blk_alloc ?_ _)); refine blk_far ?_ NB158_170.out _; (with_reducible repeat (first | refine blk_drewN ?_ _ | refine blk_drew ?_ | refine blk_alloc ?_ _)); refine blk_far ?_ NB158_170.out _; (with_reducible repeat (first | refine blk_drewN ?_ _ | refine blk_drew ?_ | refine blk_alloc ?_ _)); exact BK158.out)) (g := gb170) (o := .cells #[.int .i64 t162, .int .i64 t163, .int .i64 t164, .int .i64 t165, .int .u32 t166, .int .u32 t167, .int .i64 t168] 27 (0, 0)) (by (with_reducible repeat (first | refine blk_drewN ?_ _ | refine blk_drew ?_ | refine blk_alloc ?_ _)); refine blk_put (cs := #[.int .i64 t162, .int .i64 t163, .int .i64 t164, .int .i64 t165, .int .u32 t166, .int .u32 t167, .int .i64 0]) ?_ 6 _ rfl; (with_reducible repeat (first | refine blk_drewN ?_ _ | refine blk_drew ?_ | refine blk_alloc ?_ _)); refine blk_put (cs := #[.int .i64 t162, .int .i64 t163, .int .i64 t164, .int .i64 t165, .int .u32 t166, .int .u32 0, .int .i64 0]) ?_ 5 _ rfl; (with_reducible repeat (first | refine blk_drewN ?_ _ | refine blk_drew ?_ | refine blk_alloc ?_ _)); refine blk_put (cs := #[.int .i64 t162, .int .i64 t163, .int .i64 t164, .int .i64 t165, .int .u32 0, .int .u32 0, .int .i64 0]) ?_ 4 _ rfl; (with_reducible repeat (first | refine blk_drewN ?_ _ | refine blk_drew ?_ | refine blk_alloc ?_ _)); refine blk_put (cs := #[.int .i64 t162, .int .i64 t163, .int .i64 t164, .int .i64 0, .int .u32 0, .int .u32 0, .int .i64 0]) ?_ 3 _ rfl; (with_reducible repeat (first | refine blk_drewN ?_ _ | refine blk_drew ?_ | refine blk_alloc ?_ _)); refine blk_put (cs := #[.int .i64 t162, .int .i64 t163, .int .i64 0, .int .i64 0, .int .u32 0, .int .u32 0, .int .i64 0]) ?_ 2 _ rfl; (with_reducible repeat (first | refine blk_drewN ?_ _ | refine blk_drew ?_ | refine blk_alloc ?_ _)); refine blk_put (cs := #[.int .i64 t162, .int .i64 0, .int .i64 0, .int .i64 0, .int .u32 0, .int .u32 0, .int .i64 0]) ?_ 1 _ rfl; (with_reducible repeat (first | refine blk_drewN ?_ _ | refine blk_drew ?_ | refine blk_alloc ?_ _)); refine blk_put (cs := #[.int .i64 0, .int .i64 0, .int .i64 0, .int .i64 0, .int .u32 0, .int .u32 0, .int .i64 0]) ?_ 0 _ rfl; (with_reducible repeat (first | refine blk_drewN ?_ _ | refine blk_drew ?_ | refine blk_alloc ?_ _)); exact BK170.out)) (below_size (by repeat first|(with_reducible first|exact HB.out|apply ba|apply bd|apply b1|refine bs ?_ GE158.out|refine bs ?_ GE170.out)|exact HB.out))); have n3_ := Aside0.mk (blk_below (g := gb158) (o := .cells #[.int .i64 t150, .int .i64 t151, .int .i64 t152, .int .i64 t153, .int .u32 t154, .int .u32 t155, .int .i64 t156] 27 (0, 0)) (by (with_reducible repeat (first | refine blk_drewN ?_ _ | refine blk_drew ?_ | refine blk_alloc ?_ _)); refine blk_far ?_ NB158_170.out _; (with_reducible repeat (first | refine blk_drewN ?_ _ | refine blk_drew ?_ | refine blk_alloc ?_ _)); refine blk_far ?_ NB158_170.out _; (with_reducible repeat (first | refine blk_drewN ?_ _ | refine blk_drew ?_ | refine blk_alloc ?_ _)); refine blk_far ?_ NB158_170.out _; (with_reducible repeat (first | refine blk_drewN ?_ _ | refine blk_drew ?_ | refine blk_alloc ?_ _)); refine blk_far ?_ NB158_170.out _; (with_reducible repeat (first | refine blk_drewN ?_ _ | refine blk_drew ?_ | refine blk_alloc ?_ _)); refine blk_far ?_ NB158_170.out _; (with_reducible repeat (first | refine blk_drewN ?_ _ | refine blk_drew ?_ | refine blk_alloc ?_ _)); refine blk_far ?_ NB158_170.out _; (with_reducible repeat (first | refine blk_drewN ?_ _ | refine blk_drew ?_ | refine blk_alloc ?_ _)); refine blk_far ?_ NB158_170.out _; (with_reducible repeat (first | refine blk_drewN ?_ _ | refine blk_drew ?_ | refine blk_alloc ?_ _)); exact BK158.out) hb); have n4_ := Aside0.mk (blk_below (g := gb170) (o := .cells #[.int .i64 t162, .int .i64 t163, .int .i64 t164, .int .i64 t165, .int .u32 t166, .int .u32 t167, .int .i64 t168] 27 (0, 0)) (by (with_reducible repeat (first | refine blk_drewN ?_ _ | refine blk_drew ?_ | refine blk_alloc ?_ _)); refine blk_put (cs := #[.int .i64 t162, .int .i64 t163, .int .i64 t164, .int .i64 t165, .int .u32 t166, .int .u32 t167, .int .i64 0]) ?_ 6 _ rfl; (with_reducible repeat (first | refine blk_drewN ?_ _ | refine blk_drew ?_ | refine blk_alloc ?_ _)); refine blk_put (cs := #[.int .i64 t162, .int .i64 t163, .int .i64 t164, .int .i64 t165, .int .u32 t166, .int .u32 0, .int .i64 0]) ?_ 5 _ rfl; (with_reducible repeat (first | refine blk_drewN ?_ _ | refine blk_drew ?_ | refine blk_alloc ?_ _)); refine blk_put (cs := #[.int .i64 t162, .int .i64 t163, .int .i64 t164, .int .i64 t165, .int .u32 0, .int .u32 0, .int .i64 0]) ?_ 4 _ rfl; (with_reducible repeat (first | refine blk_drewN ?_ _ | refine blk_drew ?_ | refine blk_alloc ?_ _)); refine blk_put (cs := #[.int .i64 t162, .int .i64 t163, .int .i64 t164, .int .i64 0, .int .u32 0, .int .u32 0, .int .i64 0]) ?_ 3 _ rfl; (with_reducible repeat (first | refine blk_drewN ?_ _ | refine blk_drew ?_ | refine blk_alloc ?_ _)); refine blk_put (cs := #[.int .i64 t162, .int .i64 t163, .int .i64 0, .int .i64 0, .int .u32 0, .int .u32 0, .int .i64 0]) ?_ 2 _ rfl; (with_reducible repeat (first | refine blk_drewN ?_ _ | refine blk_drew ?_ | refine blk_alloc ?_ _)); refine blk_put (cs := #[.int .i64 t162, .int .i64 0, .int .i64 0, .int .i64 0, .int .u32 0, .int .u32 0, .int .i64 0]) ?_ 1 _ rfl; (with_reducible repeat (first | refine blk_drewN ?_ _ | refine blk_drew ?_ | refine blk_alloc ?_ _)); refine blk_put (cs := #[.int .i64 0, .int .i64 0, .int .i64 0, .int .i64 0, .int .u32 0, .int .u32 0, .int .i64 0]) ?_ 0 _ rfl; (with_reducible repeat (first | refine blk_drewN ?_ _ | refine blk_drew ?_ | refine blk_alloc ?_ _)); exact BK170.out) hb); have n5_ := Aside0.mk (below_step (by repeat first|(with_reducible first|exact HB.out|apply ba|apply bd|apply b1|refine bs ?_ GE158.out|refine bs ?_ GE170.out)|exact HB.out) hb); clear HO149; clear HO161; clear BK158; clear BK170; clear HB; have HO149 := n0_; have HO161 := n1_; have HO173 := n2_; have BK158 := n3_; have BK170 := n4_; have HB := n5_; clear n0_ n1_ n2_ n3_ n4_ n5_; (try clear hb); (try clear hb2); (try clear hk); (try clear hi); (try clear ho0); obtain ⟨Ao37, co37, eo37⟩ := Kd.R_slice HO173.out; subst eo37) | ((with_reducible refine gate_callee (f := 19) rfl ?_); refine goesL_ (some 21) rfl rfl Tryz.func19 (by kernel_rfl) rfl #[.slice Ao37 t171.length co37, .int .i64 1, .int .u32 55] rfl (by (try simp only [mA_, mC_, mN_]); first|done|rfl|(simp only [lD_, lT_]; rfl)) ?_; (with_reducible refine (rule_Match.calls _ _ t171 1 55 t174 t175 t176 t177 t178 t179 t180 false _ ?side1 ?side2 A6.out).mono ?_); (case side1 => repeat (first | exact (Kd.R_reads' HO173.out).2.2 | (with_reducible refine Kd.C_alloc ?_ _) | (with_reducible refine Kd.C_drewN ?_ _) | (with_reducible refine Kd.C_drew ?_))); (case side2 => exact (Kd.R_reads' HO173.out).2.1); rintro e w38 ⟨rfl, hb⟩; refine ⟨_, rfl, ?_⟩; have n0_ := Aside0.mk (Kd.R_below (gR HO149.out) hb); have n1_ := Aside0.mk (Kd.R_below (gR HO161.out) hb); have n2_ := Aside0.mk (Kd.R_below (gR HO173.out) hb); have n3_ := Aside0.mk (blk_below (g := gb158) (o := .cells #[.int .i64 t150, .int .i64 t151, .int .i64 t152, .int .i64 t153, .int .u32 t154, .int .u32 t155, .int .i64 t156] 27 (0, 0)) (gK BK158.out) hb); have n4_ := Aside0.mk (blk_below (g := gb170) (o := .cells #[.int .i64 t162, .int .i64 t163, .int .i64 t164, .int .i64 t165, .int .u32 t166, .int .u32 t167, .int .i64 t168] 27 (0, 0)) (gK BK170.out) hb); have n5_ := Aside0.mk (below_step (by repeat first|(with_reducible first|exact HB.out|apply ba|apply bd|apply b1|refine bs ?_ GE158.out|refine bs ?_ GE170.out)|exact HB.out) hb); clear HO149; clear HO161; clear HO173; clear BK158; clear BK170; clear HB; have HO149 := n0_; have HO161 := n1_; have HO173 := n2_; have BK158 := n3_; have BK170 := n4_; have HB := n5_; clear n0_ n1_ n2_ n3_ n4_ n5_; (try clear hb); (try clear hb2); (try clear hk); (try clear hi)) | ((with_reducible refine gate_dst (N := 5) rfl ?_); refine box_event ?hg (N := 5) ?hd (cs := #[.int .i64 0, .int .i64 0, .int .i64 0, .int .i64 0, .int .u32 0, .int .u32 0, .int .i64 0]) (t := 27) ?hr ?_; (case hd => rfl); (case hg => rfl); (case hr => first | (go_simp; done) | (go_simp; rfl)); intro gb182 hg w39 hbox hb; have n0_ := Aside0.mk (Kd.R_below (Kd.R_elderB (gR HO149.out) gb182 (Nat.le_of_eq hg.symm)) hb); have n1_ := Aside0.mk (Kd.R_below (Kd.R_elderB (gR HO161.out) gb182 (Nat.le_of_eq hg.symm)) hb); have n2_ := Aside0.mk (Kd.R_below (Kd.R_elderB (gR HO173.out) gb182 (Nat.le_of_eq hg.symm)) hb); have n3_ := Aside0.mk (blk_below (g := gb158) (o := .cells #[.int .i64 t150, .int .i64 t151, .int .i64 t152, .int .i64 t153, .int .u32 t154, .int .u32 t155, .int .i64 t156] 27 (0, 0)) (gK BK158.out) hb); have n4_ := Aside0.mk (blk_below (g := gb170) (o := .cells #[.int .i64 t162, .int .i64 t163, .int .i64 t164, .int .i64 t165, .int .u32 t166, .int .u32 t167, .int .i64 t168] 27 (0, 0)) (gK BK170.out) hb); have n5_ := Aside0.mk (below_step (by repeat first|(with_reducible first|exact HB.out|apply ba|apply bd|apply b1|refine bs ?_ GE158.out|refine bs ?_ GE170.out)|exact HB.out) hb); have n6_ := Aside0.mk (hbox); have n7_ := Aside0.mk ((by rw [hg]; exact (below_size (by repeat first|(with_reducible first|exact HB.out|apply ba|apply bd|apply b1|refine bs ?_ GE158.out|refine bs ?_ GE170.out)|exact HB.out)) : w.heap.size ≤ gb182)); have n8_ := Aside0.mk ((by rw [hg]; exact (below_size (by repeat first|(with_reducible first|exact HB.out|apply ba|apply bd|apply b1|refine bs ?_ GE158.out|refine bs ?_ GE170.out)|exact HB.out)) : w.heap.size ≤ gb182)); have n9_ := Aside0.mk ((by rw [hg]; exact Nat.ne_of_lt (blk_lt (g := gb158) (o := .cells #[.int .i64 t150, .int .i64 t151, .int .i64 t152, .int .i64 t153, .int .u32 t154, .int .u32 t155, .int .i64 t156] 27 (0, 0)) (gK BK158.out)) : gb158 ≠ gb182)); have n10_ := Aside0.mk ((by rw [hg]; exact Nat.ne_of_gt (blk_lt (g := gb158) (o := .cells #[.int .i64 t150, .int .i64 t151, .int .i64 t152, .int .i64 t153, .int .u32 t154, .int .u32 t155, .int .i64 t156] 27 (0, 0)) (gK BK158.out)) : gb182 ≠ gb158)); have n11_ := Aside0.mk ((by rw [hg]; exact Nat.ne_of_lt (blk_lt (g := gb170) (o := .cells #[.int .i64 t162, .int .i64 t163, .int .i64 t164, .int .i64 t165, .int .u32 t166, .int .u32 t167, .int .i64 t168] 27 (0, 0)) (gK BK170.out)) : gb170 ≠ gb182)); have n12_ := Aside0.mk ((by rw [hg]; exact Nat.ne_of_gt (blk_lt (g := gb170) (o := .cells #[.int .i64 t162, .int .i64 t163, .int .i64 t164, .int .i64 t165, .int .u32 t166, .int .u32 t167, .int .i64 t168] 27 (0, 0)) (gK BK170.out)) : gb182 ≠ gb170)); clear HO149; clear HO161; clear HO173; clear BK158; clear BK170; clear HB; have HO149 := n0_; have HO161 := n1_; have HO173 := n2_; have BK158 := n3_; have BK170 := n4_; have HB := n5_; have BK182 := n6_; have GW182 := n7_; have GE182 := n8_; have NB158_182 := n9_; have NB182_158 := n10_; have NB170_182 := n11_; have NB182_170 := n12_; clear n0_ n1_ n2_ n3_ n4_ n5_ n6_ n7_ n8_ n9_ n10_ n11_ n12_; clear hb hbox hg; have hnb40 := NB182_158.out; have hnc40 := NB158_182.out; have hnb41 := NB182_170.out; have hnc41 := NB170_182.out; have hcz42_0 : w39.cell? ⟨gb182, 0, none⟩ = some (.int .i64 0) := (blk_cell BK182.out 0).trans rfl; have hcz42_1 : w39.cell? ⟨gb182, 1, none⟩ = some (.int .i64 0) := (blk_cell BK182.out 1).trans rfl; have hcz42_2 : w39.cell? ⟨gb182, 2, none⟩ = some (.int .i64 0) := (blk_cell BK182.out 2).trans rfl; have hcz42_3 : w39.cell? ⟨gb182, 3, none⟩ = some (.int .i64 0) := (blk_cell BK182.out 3).trans rfl; have hcz42_4 : w39.cell? ⟨gb182, 4, none⟩ = some (.int .u32 0) := (blk_cell BK182.out 4).trans rfl; have hcz42_5 : w39.cell? ⟨gb182, 5, none⟩ = some (.int .u32 0) := (blk_cell BK182.out 5).trans rfl; have hcz42_6 : w39.cell? ⟨gb182, 6, none⟩ = some (.int .i64 0) := (blk_cell BK182.out 6).trans rfl; have hfz42_0 := blk_frozen BK182.out 0; have hfz42_1 := blk_frozen BK182.out 1; have hfz42_2 := blk_frozen BK182.out 2; have hfz42_3 := blk_frozen BK182.out 3; have hfz42_4 := blk_frozen BK182.out 4; have hfz42_5 := blk_frozen BK182.out 5; have hfz42_6 := blk_frozen BK182.out 6) | ((with_reducible refine gate_callee (f := 14) rfl ?_); refine goesL_ (some 25) rfl rfl Tryz.func14 (by kernel_rfl) rfl #[.string (⟨#[55, 32, 48, 32, 49, 48, 32, 102, 111, 114, 119, 97, 114, 100, 32, 49, 48, 46, 48, 46, 48, 46, 48, 45, 49, 48, 46, 50, 53, 53, 46, 50, 53, 53, 46, 50, 53, 53, 32, 51]⟩ : ByteArray)] rfl (by (try simp only [mA_, mC_, mN_]); first|done|rfl|(simp only [lD_, lT_]; rfl)) ?_; (with_reducible refine (rule_Parse.calls (⟨#[55, 32, 48, 32, 49, 48, 32, 102, 111, 114, 119, 97, 114, 100, 32, 49, 48, 46, 48, 46, 48, 46, 48, 45, 49, 48, 46, 50, 53, 53, 46, 50, 53, 53, 46, 50, 53, 53, 32, 51]⟩ : ByteArray) t183 t184 t185 t186 t187 t188 t189 t190 _ ?side1 A7.out).mono ?_); (case side1 => exact HLd.below (by repeat first|(with_reducible first|exact HB.out|apply ba|apply bd|apply b1|refine bs ?_ GE158.out|refine bs ?_ GE170.out|refine bs ?_ GE182.out)|exact HB.out)); rintro e w43 ⟨rfl, hb⟩; refine ⟨_, rfl, ?_⟩; have n0_ := Aside0.mk (Kd.R_below (by (with_reducible repeat (first | apply Kd.R_alloc | apply Kd.R_drewN | apply Kd.R_drew)); exact (Kd.R_mono (Kd.R_far (p := ⟨gb182, 6, none⟩) (Kd.R_far (p := ⟨gb182, 5, none⟩) (Kd.R_far (p := ⟨gb182, 4, none⟩) (Kd.R_far (p := ⟨gb182, 3, none⟩) (Kd.R_far (p := ⟨gb182, 2, none⟩) (Kd.R_far (p := ⟨gb182, 1, none⟩) (Kd.R_far (p := ⟨gb182, 0, none⟩) (Kd.R_mono HO149.out (fun k_ hk => (⟨hk, hk.2⟩ : _ ∧ k_ ≠ gb182))) (fun _ hk => hk.2) (.int .i64 t174)) (fun _ hk => hk.2) (.int .i64 t175)) (fun _ hk => hk.2) (.int .i64 t176)) (fun _ hk => hk.2) (.int .i64 t177)) (fun _ hk => hk.2) (.int .u32 t178)) (fun _ hk => hk.2) (.int .u32 t179)) (fun _ hk => hk.2) (.int .i64 t180)) (fun _ h_ => h_.1))) hb); have n1_ := Aside0.mk (Kd.R_below (by (with_reducible repeat (first | apply Kd.R_alloc | apply Kd.R_drewN | apply Kd.R_drew)); exact (Kd.R_mono (Kd.R_far (p := ⟨gb182, 6, none⟩) (Kd.R_far (p := ⟨gb182, 5, none⟩) (Kd.R_far (p := ⟨gb182, 4, none⟩) (Kd.R_far (p := ⟨gb182, 3, none⟩) (Kd.R_far (p := ⟨gb182, 2, none⟩) (Kd.R_far (p := ⟨gb182, 1, none⟩) (Kd.R_far (p := ⟨gb182, 0, none⟩) (Kd.R_mono HO161.out (fun k_ hk => (⟨hk, hk.2⟩ : _ ∧ k_ ≠ gb182))) (fun _ hk => hk.2) (.int .i64 t174)) (fun _ hk => hk.2) (.int .i64 t175)) (fun _ hk => hk.2) (.int .i64 t176)) (fun _ hk => hk.2) (.int .i64 t177)) (fun _ hk => hk.2) (.int .u32 t178)) (fun _ hk => hk.2) (.int .u32 t179)) (fun _ hk => hk.2) (.int .i64 t180)) (fun _ h_ => h_.1))) hb); have n2_ := Aside0.mk (Kd.R_below (by (with_reducible repeat (first | apply Kd.R_alloc | apply Kd.R_drewN | apply Kd.R_drew)); exact (Kd.R_mono (Kd.R_far (p := ⟨gb182, 6, none⟩) (Kd.R_far (p := ⟨gb182, 5, none⟩) (Kd.R_far (p := ⟨gb182, 4, none⟩) (Kd.R_far (p := ⟨gb182, 3, none⟩) (Kd.R_far (p := ⟨gb182, 2, none⟩) (Kd.R_far (p := ⟨gb182, 1, none⟩) (Kd.R_far (p := ⟨gb182, 0, none⟩) (Kd.R_mono HO173.out (fun k_ hk => (⟨hk, hk.2⟩ : _ ∧ k_ ≠ gb182))) (fun _ hk => hk.2) (.int .i64 t174)) (fun _ hk => hk.2) (.int .i64 t175)) (fun _ hk => hk.2) (.int .i64 t176)) (fun _ hk => hk.2) (.int .i64 t177)) (fun _ hk => hk.2) (.int .u32 t178)) (fun _ hk => hk.2) (.int .u32 t179)) (fun _ hk => hk.2) (.int .i64 t180)) (fun _ h_ => h_.1))) hb); have n3_ := Aside0.mk (blk_below (g := gb158) (o := .cells #[.int .i64 t150, .int .i64 t151, .int .i64 t152, .int .i64 t153, .int .u32 t154, .int .u32 t155, .int .i64 t156] 27 (0, 0)) (by (with_reducible repeat (first | refine blk_drewN ?_ _ | refine blk_drew ?_ | refine blk_alloc ?_ _)); refine blk_far ?_ NB158_182.out _; (with_reducible repeat (first | refine blk_drewN ?_ _ | refine blk_drew ?_ | refine blk_alloc ?_ _)); refine blk_far ?_ NB158_182.out _; (with_reducible repeat (first | refine blk_drewN ?_ _ | refine blk_drew ?_ | refine blk_alloc ?_ _)); refine blk_far ?_ NB158_182.out _; (with_reducible repeat (first | refine blk_drewN ?_ _ | refine blk_drew ?_ | refine blk_alloc ?_ _)); refine blk_far ?_ NB158_182.out _; (with_reducible repeat (first | refine blk_drewN ?_ _ | refine blk_drew ?_ | refine blk_alloc ?_ _)); refine blk_far ?_ NB158_182.out _; (with_reducible repeat (first | refine blk_drewN ?_ _ | refine blk_drew ?_ | refine blk_alloc ?_ _)); refine blk_far ?_ NB158_182.out _; (with_reducible repeat (first | refine blk_drewN ?_ _ | refine blk_drew ?_ | refine blk_alloc ?_ _)); refine blk_far ?_ NB158_182.out _; (with_reducible repeat (first | refine blk_drewN ?_ _ | refine blk_drew ?_ | refine blk_alloc ?_ _)); exact BK158.out) hb); have n4_ := Aside0.mk (blk_below (g := gb170) (o := .cells #[.int .i64 t162, .int .i64 t163, .int .i64 t164, .int .i64 t165, .int .u32 t166, .int .u32 t167, .int .i64 t168] 27 (0, 0)) (by (with_reducible repeat (first | refine blk_drewN ?_ _ | refine blk_drew ?_ | refine blk_alloc ?_ _)); refine blk_far ?_ NB170_182.out _; (with_reducible repeat (first | refine blk_drewN ?_ _ | refine blk_drew ?_ | refine blk_alloc ?_ _)); refine blk_far ?_ NB170_182.out _; (with_reducible repeat (first | refine blk_drewN ?_ _ | refine blk_drew ?_ | refine blk_alloc ?_ _)); refine blk_far ?_ NB170_182.out _; (with_reducible repeat (first | refine blk_drewN ?_ _ | refine blk_drew ?_ | refine blk_alloc ?_ _)); refine blk_far ?_ NB170_182.out _; (with_reducible repeat (first | refine blk_drewN ?_ _ | refine blk_drew ?_ | refine blk_alloc ?_ _)); refine blk_far ?_ NB170_182.out _; (with_reducible repeat (first | refine blk_drewN ?_ _ | refine blk_drew ?_ | refine blk_alloc ?_ _)); refine blk_far ?_ NB170_182.out _; (with_reducible repeat (first | refine blk_drewN ?_ _ | refine blk_drew ?_ | refine blk_alloc ?_ _)); refine blk_far ?_ NB170_182.out _; (with_reducible repeat (first | refine blk_drewN ?_ _ | refine blk_drew ?_ | refine blk_alloc ?_ _)); exact BK170.out) hb); have n5_ := Aside0.mk (blk_below (g := gb182) (o := .cells #[.int .i64 t174, .int .i64 t175, .int .i64 t176, .int .i64 t177, .int .u32 t178, .int .u32 t179, .int .i64 t180] 27 (0, 0)) (by (with_reducible repeat (first | refine blk_drewN ?_ _ | refine blk_drew ?_ | refine blk_alloc ?_ _)); refine blk_put (cs := #[.int .i64 t174, .int .i64 t175, .int .i64 t176, .int .i64 t177, .int .u32 t178, .int .u32 t179, .int .i64 0]) ?_ 6 _ rfl; (with_reducible repeat (first | refine blk_drewN ?_ _ | refine blk_drew ?_ | refine blk_alloc ?_ _)); refine blk_put (cs := #[.int .i64 t174, .int .i64 t175, .int .i64 t176, .int .i64 t177, .int .u32 t178, .int .u32 0, .int .i64 0]) ?_ 5 _ rfl; (with_reducible repeat (first | refine blk_drewN ?_ _ | refine blk_drew ?_ | refine blk_alloc ?_ _)); refine blk_put (cs := #[.int .i64 t174, .int .i64 t175, .int .i64 t176, .int .i64 t177, .int .u32 0, .int .u32 0, .int .i64 0]) ?_ 4 _ rfl; (with_reducible repeat (first | refine blk_drewN ?_ _ | refine blk_drew ?_ | refine blk_alloc ?_ _)); refine blk_put (cs := #[.int .i64 t174, .int .i64 t175, .int .i64 t176, .int .i64 0, .int .u32 0, .int .u32 0, .int .i64 0]) ?_ 3 _ rfl; (with_reducible repeat (first | refine blk_drewN ?_ _ | refine blk_drew ?_ | refine blk_alloc ?_ _)); refine blk_put (cs := #[.int .i64 t174, .int .i64 t175, .int .i64 0, .int .i64 0, .int .u32 0, .int .u32 0, .int .i64 0]) ?_ 2 _ rfl; (with_reducible repeat (first | refine blk_drewN ?_ _ | refine blk_drew ?_ | refine blk_alloc ?_ _)); refine blk_put (cs := #[.int .i64 t174, .int .i64 0, .int .i64 0, .int .i64 0, .int .u32 0, .int .u32 0, .int .i64 0]) ?_ 1 _ rfl; (with_reducible repeat (first | refine blk_drewN ?_ _ | refine blk_drew ?_ | refine blk_alloc ?_ _)); refine blk_put (cs := #[.int .i64 0, .int .i64 0, .int .i64 0, .int .i64 0, .int .u32 0, .int .u32 0, .int .i64 0]) ?_ 0 _ rfl; (with_reducible repeat (first | refine blk_drewN ?_ _ | refine blk_drew ?_ | refine blk_alloc ?_ _)); exact BK182.out) hb); have n6_ := Aside0.mk (below_step (by repeat first|(with_reducible first|exact HB.out|apply ba|apply bd|apply b1|refine bs ?_ GE158.out|refine bs ?_ GE170.out|refine bs ?_ GE182.out)|exact HB.out) hb); clear HO149; clear HO161; clear HO173; clear BK158; clear BK170; clear BK182; clear HB; have HO149 := n0_; have HO161 := n1_; have HO173 := n2_; have BK158 := n3_; have BK170 := n4_; have BK182 := n5_; have HB := n6_; clear n0_ n1_ n2_ n3_ n4_ n5_ n6_; (try clear hb); (try clear hb2); (try clear hk); (try clear hi)) | ((with_reducible refine gate_dst (N := 7) rfl ?_); refine box_event ?hg (N := 7) ?hd (cs := #[.int .i64 0, .int .i64 0, .int .i64 0, .int .i64 0, .int .u32 0, .int .u32 0, .int .i64 0]) (t := 27) ?hr ?_; (case hd => rfl); (case hg => rfl); (case hr => first | (go_simp; done) | (go_simp; rfl)); intro gb191 hg w44 hbox hb; have n0_ := Aside0.mk (Kd.R_below (Kd.R_elderB (gR HO149.out) gb191 (Nat.le_of_eq hg.symm)) hb); have n1_ := Aside0.mk (Kd.R_below (Kd.R_elderB (gR HO161.out) gb191 (Nat.le_of_eq hg.symm)) hb); have n2_ := Aside0.mk (Kd.R_below (Kd.R_elderB (gR HO173.out) gb191 (Nat.le_of_eq hg.symm)) hb); have n3_ := Aside0.mk (blk_below (g := gb158) (o := .cells #[.int .i64 t150, .int .i64 t151, .int .i64 t152, .int .i64 t153, .int .u32 t154, .int .u32 t155, .int .i64 t156] 27 (0, 0)) (gK BK158.out) hb); have n4_ := Aside0.mk (blk_below (g := gb170) (o := .cells #[.int .i64 t162, .int .i64 t163, .int .i64 t164, .int .i64 t165, .int .u32 t166, .int .u32 t167, .int .i64 t168] 27 (0, 0)) (gK BK170.out) hb); have n5_ := Aside0.mk (blk_below (g := gb182) (o := .cells #[.int .i64 t174, .int .i64 t175, .int .i64 t176, .int .i64 t177, .int .u32 t178, .int .u32 t179, .int .i64 t180] 27 (0, 0)) (gK BK182.out) hb); have n6_ := Aside0.mk (below_step (by repeat first|(with_reducible first|exact HB.out|apply ba|apply bd|apply b1|refine bs ?_ GE158.out|refine bs ?_ GE170.out|refine bs ?_ GE182.out)|exact HB.out) hb); have n7_ := Aside0.mk (hbox); have n8_ := Aside0.mk ((by rw [hg]; exact (below_size (by repeat first|(with_reducible first|exact HB.out|apply ba|apply bd|apply b1|refine bs ?_ GE158.out|refine bs ?_ GE170.out|refine bs ?_ GE182.out)|exact HB.out)) : w.heap.size ≤ gb191)); have n9_ := Aside0.mk ((by rw [hg]; exact (below_size (by repeat first|(with_reducible first|exact HB.out|apply ba|apply bd|apply b1|refine bs ?_ GE158.out|refine bs ?_ GE170.out|refine bs ?_ GE182.out)|exact HB.out)) : w.heap.size ≤ gb191)); have n10_ := Aside0.mk ((by rw [hg]; exact Nat.ne_of_lt (blk_lt (g := gb158) (o := .cells #[.int .i64 t150, .int .i64 t151, .int .i64 t152, .int .i64 t153, .int .u32 t154, .int .u32 t155, .int .i64 t156] 27 (0, 0)) (gK BK158.out)) : gb158 ≠ gb191)); have n11_ := Aside0.mk ((by rw [hg]; exact Nat.ne_of_gt (blk_lt (g := gb158) (o := .cells #[.int .i64 t150, .int .i64 t151, .int .i64 t152, .int .i64 t153, .int .u32 t154, .int .u32 t155, .int .i64 t156] 27 (0, 0)) (gK BK158.out)) : gb191 ≠ gb158)); have n12_ := Aside0.mk ((by rw [hg]; exact Nat.ne_of_lt (blk_lt (g := gb170) (o := .cells #[.int .i64 t162, .int .i64 t163, .int .i64 t164, .int .i64 t165, .int .u32 t166, .int .u32 t167, .int .i64 t168] 27 (0, 0)) (gK BK170.out)) : gb170 ≠ gb191)); have n13_ := Aside0.mk ((by rw [hg]; exact Nat.ne_of_gt (blk_lt (g := gb170) (o := .cells #[.int .i64 t162, .int .i64 t163, .int .i64 t164, .int .i64 t165, .int .u32 t166, .int .u32 t167, .int .i64 t168] 27 (0, 0)) (gK BK170.out)) : gb191 ≠ gb170)); have n14_ := Aside0.mk ((by rw [hg]; exact Nat.ne_of_lt (blk_lt (g := gb182) (o := .cells #[.int .i64 t174, .int .i64 t175, .int .i64 t176, .int .i64 t177, .int .u32 t178, .int .u32 t179, .int .i64 t180] 27 (0, 0)) (gK BK182.out)) : gb182 ≠ gb191)); have n15_ := Aside0.mk ((by rw [hg]; exact Nat.ne_of_gt (blk_lt (g := gb182) (o := .cells #[.int .i64 t174, .int .i64 t175, .int .i64 t176, .int .i64 t177, .int .u32 t178, .int .u32 t179, .int .i64 t180] 27 (0, 0)) (gK BK182.out)) : gb191 ≠ gb182)); clear HO149; clear HO161; clear HO173; clear BK158; clear BK170; clear BK182; clear HB; have HO149 := n0_; have HO161 := n1_; have HO173 := n2_; have BK158 := n3_; have BK170 := n4_; have BK182 := n5_; have HB := n6_; have BK191 := n7_; have GW191 := n8_; have GE191 := n9_; have NB158_191 := n10_; have NB191_158 := n11_; have NB170_191 := n12_; have NB191_170 := n13_; have NB182_191 := n14_; have NB191_182 := n15_; clear n0_ n1_ n2_ n3_ n4_ n5_ n6_ n7_ n8_ n9_ n10_ n11_ n12_ n13_ n14_ n15_; clear hb hbox hg; have hnb45 := NB191_158.out; have hnc45 := NB158_191.out; have hnb46 := NB191_170.out; have hnc46 := NB170_191.out; have hnb47 := NB191_182.out; have hnc47 := NB182_191.out; have hcz48_0 : w44.cell? ⟨gb191, 0, none⟩ = some (.int .i64 0) := (blk_cell BK191.out 0).trans rfl; have hcz48_1 : w44.cell? ⟨gb191, 1, none⟩ = some (.int .i64 0) := (blk_cell BK191.out 1).trans rfl; have hcz48_2 : w44.cell? ⟨gb191, 2, none⟩ = some (.int .i64 0) := (blk_cell BK191.out 2).trans rfl; have hcz48_3 : w44.cell? ⟨gb191, 3, none⟩ = some (.int .i64 0) := (blk_cell BK191.out 3).trans rfl; have hcz48_4 : w44.cell? ⟨gb191, 4, none⟩ = some (.int .u32 0) := (blk_cell BK191.out 4).trans rfl; have hcz48_5 : w44.cell? ⟨gb191, 5, none⟩ = some (.int .u32 0) := (blk_cell BK191.out 5).trans rfl; have hcz48_6 : w44.cell? ⟨gb191, 6, none⟩ = some (.int .i64 0) := (blk_cell BK191.out 6).trans rfl; have hfz48_0 := blk_frozen BK191.out 0; have hfz48_1 := blk_frozen BK191.out 1; have hfz48_2 := blk_frozen BK191.out 2; have hfz48_3 := blk_frozen BK191.out 3; have hfz48_4 := blk_frozen BK191.out 4; have hfz48_5 := blk_frozen BK191.out 5; have hfz48_6 := blk_frozen BK191.out 6) | ((with_reducible refine gate_callee (f := 54) rfl ?_); refine goesL_ (some 28) rfl rfl Tryz.func54 (by kernel_rfl) rfl #[] rfl (by (try simp only [mA_, mC_, mN_]); first|done|rfl|(simp only [lD_, lT_]; rfl)) ?_; (with_reducible refine (waystonelaw07_some.calls  t192 _ A8.out).mono ?_); rintro e w49 ⟨v193, rfl, ho0, hb⟩; refine ⟨_, rfl, ?_⟩; have n0_ := Aside0.mk (Kd.R_elder' (by (with_reducible repeat (first | apply Kd.R_alloc | apply Kd.R_drewN | apply Kd.R_drew)); exact (Kd.R_mono (Kd.R_far (p := ⟨gb191, 6, none⟩) (Kd.R_far (p := ⟨gb191, 5, none⟩) (Kd.R_far (p := ⟨gb191, 4, none⟩) (Kd.R_far (p := ⟨gb191, 3, none⟩) (Kd.R_far (p := ⟨gb191, 2, none⟩) (Kd.R_far (p := ⟨gb191, 1, none⟩) (Kd.R_far (p := ⟨gb191, 0, none⟩) (Kd.R_mono HO149.out (fun k_ hk => (⟨hk, hk.2⟩ : _ ∧ k_ ≠ gb191))) (fun _ hk => hk.2) (.int .i64 t183)) (fun _ hk => hk.2) (.int .i64 t184)) (fun _ hk => hk.2) (.int .i64 t185)) (fun _ hk => hk.2) (.int .i64 t186)) (fun _ hk => hk.2) (.int .u32 t187)) (fun _ hk => hk.2) (.int .u32 t188)) (fun _ hk => hk.2) (.int .i64 t189)) (fun _ h_ => h_.1))) (Kd.R_base ho0) hb); have n1_ := Aside0.mk (Kd.R_elder' (by (with_reducible repeat (first | apply Kd.R_alloc | apply Kd.R_drewN | apply Kd.R_drew)); exact (Kd.R_mono (Kd.R_far (p := ⟨gb191, 6, none⟩) (Kd.R_far (p := ⟨gb191, 5, none⟩) (Kd.R_far (p := ⟨gb191, 4, none⟩) (Kd.R_far (p := ⟨gb191, 3, none⟩) (Kd.R_far (p := ⟨gb191, 2, none⟩) (Kd.R_far (p := ⟨gb191, 1, none⟩) (Kd.R_far (p := ⟨gb191, 0, none⟩) (Kd.R_mono HO161.out (fun k_ hk => (⟨hk, hk.2⟩ : _ ∧ k_ ≠ gb191))) (fun _ hk => hk.2) (.int .i64 t183)) (fun _ hk => hk.2) (.int .i64 t184)) (fun _ hk => hk.2) (.int .i64 t185)) (fun _ hk => hk.2) (.int .i64 t186)) (fun _ hk => hk.2) (.int .u32 t187)) (fun _ hk => hk.2) (.int .u32 t188)) (fun _ hk => hk.2) (.int .i64 t189)) (fun _ h_ => h_.1))) (Kd.R_base ho0) hb); have n2_ := Aside0.mk (Kd.R_elder' (by (with_reducible repeat (first | apply Kd.R_alloc | apply Kd.R_drewN | apply Kd.R_drew)); exact (Kd.R_mono (Kd.R_far (p := ⟨gb191, 6, none⟩) (Kd.R_far (p := ⟨gb191, 5, none⟩) (Kd.R_far (p := ⟨gb191, 4, none⟩) (Kd.R_far (p := ⟨gb191, 3, none⟩) (Kd.R_far (p := ⟨gb191, 2, none⟩) (Kd.R_far (p := ⟨gb191, 1, none⟩) (Kd.R_far (p := ⟨gb191, 0, none⟩) (Kd.R_mono HO173.out (fun k_ hk => (⟨hk, hk.2⟩ : _ ∧ k_ ≠ gb191))) (fun _ hk => hk.2) (.int .i64 t183)) (fun _ hk => hk.2) (.int .i64 t184)) (fun _ hk => hk.2) (.int .i64 t185)) (fun _ hk => hk.2) (.int .i64 t186)) (fun _ hk => hk.2) (.int .u32 t187)) (fun _ hk => hk.2) (.int .u32 t188)) (fun _ hk => hk.2) (.int .i64 t189)) (fun _ h_ => h_.1))) (Kd.R_base ho0) hb); have n3_ := Aside0.mk (Kd.R_lower (Kd.R_newB (Kd.R_newB (Kd.R_newB (Kd.R_newB (Kd.R_new' (Kd.R_new' (Kd.R_new' ho0 (Kd.R_lt (by (with_reducible repeat (first | apply Kd.R_alloc | apply Kd.R_drewN | apply Kd.R_drew)); exact (Kd.R_mono (Kd.R_far (p := ⟨gb191, 6, none⟩) (Kd.R_far (p := ⟨gb191, 5, none⟩) (Kd.R_far (p := ⟨gb191, 4, none⟩) (Kd.R_far (p := ⟨gb191, 3, none⟩) (Kd.R_far (p := ⟨gb191, 2, none⟩) (Kd.R_far (p := ⟨gb191, 1, none⟩) (Kd.R_far (p := ⟨gb191, 0, none⟩) (Kd.R_mono HO149.out (fun k_ hk => (⟨hk, hk.2⟩ : _ ∧ k_ ≠ gb191))) (fun _ hk => hk.2) (.int .i64 t183)) (fun _ hk => hk.2) (.int .i64 t184)) (fun _ hk => hk.2) (.int .i64 t185)) (fun _ hk => hk.2) (.int .i64 t186)) (fun _ hk => hk.2) (.int .u32 t187)) (fun _ hk => hk.2) (.int .u32 t188)) (fun _ hk => hk.2) (.int .i64 t189)) (fun _ h_ => h_.1))))) (Kd.R_lt (by (with_reducible repeat (first | apply Kd.R_alloc | apply Kd.R_drewN | apply Kd.R_drew)); exact (Kd.R_mono (Kd.R_far (p := ⟨gb191, 6, none⟩) (Kd.R_far (p := ⟨gb191, 5, none⟩) (Kd.R_far (p := ⟨gb191, 4, none⟩) (Kd.R_far (p := ⟨gb191, 3, none⟩) (Kd.R_far (p := ⟨gb191, 2, none⟩) (Kd.R_far (p := ⟨gb191, 1, none⟩) (Kd.R_far (p := ⟨gb191, 0, none⟩) (Kd.R_mono HO161.out (fun k_ hk => (⟨hk, hk.2⟩ : _ ∧ k_ ≠ gb191))) (fun _ hk => hk.2) (.int .i64 t183)) (fun _ hk => hk.2) (.int .i64 t184)) (fun _ hk => hk.2) (.int .i64 t185)) (fun _ hk => hk.2) (.int .i64 t186)) (fun _ hk => hk.2) (.int .u32 t187)) (fun _ hk => hk.2) (.int .u32 t188)) (fun _ hk => hk.2) (.int .i64 t189)) (fun _ h_ => h_.1))))) (Kd.R_lt (by (with_reducible repeat (first | apply Kd.R_alloc | apply Kd.R_drewN | apply Kd.R_drew)); exact (Kd.R_mono (Kd.R_far (p := ⟨gb191, 6, none⟩) (Kd.R_far (p := ⟨gb191, 5, none⟩) (Kd.R_far (p := ⟨gb191, 4, none⟩) (Kd.R_far (p := ⟨gb191, 3, none⟩) (Kd.R_far (p := ⟨gb191, 2, none⟩) (Kd.R_far (p := ⟨gb191, 1, none⟩) (Kd.R_far (p := ⟨gb191, 0, none⟩) (Kd.R_mono HO173.out (fun k_ hk => (⟨hk, hk.2⟩ : _ ∧ k_ ≠ gb191))) (fun _ hk => hk.2) (.int .i64 t183)) (fun _ hk => hk.2) (.int .i64 t184)) (fun _ hk => hk.2) (.int .i64 t185)) (fun _ hk => hk.2) (.int .i64 t186)) (fun _ hk => hk.2) (.int .u32 t187)) (fun _ hk => hk.2) (.int .u32 t188)) (fun _ hk => hk.2) (.int .i64 t189)) (fun _ h_ => h_.1))))) (g := gb158) (o := .cells #[.int .i64 t150, .int .i64 t151, .int .i64 t152, .int .i64 t153, .int .u32 t154, .int .u32 t155, .int .i64 t156] 27 (0, 0)) (by (with_reducible repeat (first | refine blk_drewN ?_ _ | refine blk_drew ?_ | refine blk_alloc ?_ _)); refine blk_far ?_ NB158_191.out _; (with_reducible repeat (first | refine blk_drewN ?_ _ | refine blk_drew ?_ | refine blk_alloc ?_ _)); refine blk_far ?_ NB158_191.out _; (with_reducible repeat (first | refine blk_drewN ?_ _ | refine blk_drew ?_ | refine blk_alloc ?_ _)); refine blk_far ?_ NB158_191.out _; (with_reducible repeat (first | refine blk_drewN ?_ _ | refine blk_drew ?_ | refine blk_alloc ?_ _)); refine blk_far ?_ NB158_191.out _; (with_reducible repeat (first | refine blk_drewN ?_ _ | refine blk_drew ?_ | refine blk_alloc ?_ _)); refine blk_far ?_ NB158_191.out _; (with_reducible repeat (first | refine blk_drewN ?_ _ | refine blk_drew ?_ | refine blk_alloc ?_ _)); refine blk_far ?_ NB158_191.out _; (with_reducible repeat (first | refine blk_drewN ?_ _ | refine blk_drew ?_ | refine blk_alloc ?_ _)); refine blk_far ?_ NB158_191.out _; (with_reducible repeat (first | refine blk_drewN ?_ _ | refine blk_drew ?_ | refine blk_alloc ?_ _)); exact BK158.out)) (g := gb170) (o := .cells #[.int .i64 t162, .int .i64 t163, .int .i64 t164, .int .i64 t165, .int .u32 t166, .int .u32 t167, .int .i64 t168] 27 (0, 0)) (by (with_reducible repeat (first | refine blk_drewN ?_ _ | refine blk_drew ?_ | refine blk_alloc ?_ _)); refine blk_far ?_ NB170_191.out _; (with_reducible repeat (first | refine blk_drewN ?_ _ | refine blk_drew ?_ | refine blk_alloc ?_ _)); refine blk_far ?_ NB170_191.out _; (with_reducible repeat (first | refine blk_drewN ?_ _ | refine blk_drew ?_ | refine blk_alloc ?_ _)); refine blk_far ?_ NB170_191.out _; (with_reducible repeat (first | refine blk_drewN ?_ _ | refine blk_drew ?_ | refine blk_alloc ?_ _)); refine blk_far ?_ NB170_191.out _; (with_reducible repeat (first | refine blk_drewN ?_ _ | refine blk_drew ?_ | refine blk_alloc ?_ _)); refine blk_far ?_ NB170_191.out _; (with_reducible repeat (first | refine blk_drewN ?_ _ | refine blk_drew ?_ | refine blk_alloc ?_ _)); refine blk_far ?_ NB170_191.out _; (with_reducible repeat (first | refine blk_drewN ?_ _ | refine blk_drew ?_ | refine blk_alloc ?_ _)); refine blk_far ?_ NB170_191.out _; (with_reducible repeat (first | refine blk_drewN ?_ _ | refine blk_drew ?_ | refine blk_alloc ?_ _)); exact BK170.out)) (g := gb182) (o := .cells #[.int .i64 t174, .int .i64 t175, .int .i64 t176, .int .i64 t177, .int .u32 t178, .int .u32 t179, .int .i64 t180] 27 (0, 0)) (by (with_reducible repeat (first | refine blk_drewN ?_ _ | refine blk_drew ?_ | refine blk_alloc ?_ _)); refine blk_far ?_ NB182_191.out _; (with_reducible repeat (first | refine blk_drewN ?_ _ | refine blk_drew ?_ | refine blk_alloc ?_ _)); refine blk_far ?_ NB182_191.out _; (with_reducible repeat (first | refine blk_drewN ?_ _ | refine blk_drew ?_ | refine blk_alloc ?_ _)); refine blk_far ?_ NB182_191.out _; (with_reducible repeat (first | refine blk_drewN ?_ _ | refine blk_drew ?_ | refine blk_alloc ?_ _)); refine blk_far ?_ NB182_191.out _; (with_reducible repeat (first | refine blk_drewN ?_ _ | refine blk_drew ?_ | refine blk_alloc ?_ _)); refine blk_far ?_ NB182_191.out _; (with_reducible repeat (first | refine blk_drewN ?_ _ | refine blk_drew ?_ | refine blk_alloc ?_ _)); refine blk_far ?_ NB182_191.out _; (with_reducible repeat (first | refine blk_drewN ?_ _ | refine blk_drew ?_ | refine blk_alloc ?_ _)); refine blk_far ?_ NB182_191.out _; (with_reducible repeat (first | refine blk_drewN ?_ _ | refine blk_drew ?_ | refine blk_alloc ?_ _)); exact BK182.out)) (g := gb191) (o := .cells #[.int .i64 t183, .int .i64 t184, .int .i64 t185, .int .i64 t186, .int .u32 t187, .int .u32 t188, .int .i64 t189] 27 (0, 0)) (by (with_reducible repeat (first | refine blk_drewN ?_ _ | refine blk_drew ?_ | refine blk_alloc ?_ _)); refine blk_put (cs := #[.int .i64 t183, .int .i64 t184, .int .i64 t185, .int .i64 t186, .int .u32 t187, .int .u32 t188, .int .i64 0]) ?_ 6 _ rfl; (with_reducible repeat (first | refine blk_drewN ?_ _ | refine blk_drew ?_ | refine blk_alloc ?_ _)); refine blk_put (cs := #[.int .i64 t183, .int .i64 t184, .int .i64 t185, .int .i64 t186, .int .u32 t187, .int .u32 0, .int .i64 0]) ?_ 5 _ rfl; (with_reducible repeat (first | refine blk_drewN ?_ _ | refine blk_drew ?_ | refine blk_alloc ?_ _)); refine blk_put (cs := #[.int .i64 t183, .int .i64 t184, .int .i64 t185, .int .i64 t186, .int .u32 0, .int .u32 0, .int .i64 0]) ?_ 4 _ rfl; (with_reducible repeat (first | refine blk_drewN ?_ _ | refine blk_drew ?_ | refine blk_alloc ?_ _)); refine blk_put (cs := #[.int .i64 t183, .int .i64 t184, .int .i64 t185, .int .i64 0, .int .u32 0, .int .u32 0, .int .i64 0]) ?_ 3 _ rfl; (with_reducible repeat (first | refine blk_drewN ?_ _ | refine blk_drew ?_ | refine blk_alloc ?_ _)); refine blk_put (cs := #[.int .i64 t183, .int .i64 t184, .int .i64 0, .int .i64 0, .int .u32 0, .int .u32 0, .int .i64 0]) ?_ 2 _ rfl; (with_reducible repeat (first | refine blk_drewN ?_ _ | refine blk_drew ?_ | refine blk_alloc ?_ _)); refine blk_put (cs := #[.int .i64 t183, .int .i64 0, .int .i64 0, .int .i64 0, .int .u32 0, .int .u32 0, .int .i64 0]) ?_ 1 _ rfl; (with_reducible repeat (first | refine blk_drewN ?_ _ | refine blk_drew ?_ | refine blk_alloc ?_ _)); refine blk_put (cs := #[.int .i64 0, .int .i64 0, .int .i64 0, .int .i64 0, .int .u32 0, .int .u32 0, .int .i64 0]) ?_ 0 _ rfl; (with_reducible repeat (first | refine blk_drewN ?_ _ | refine blk_drew ?_ | refine blk_alloc ?_ _)); exact BK191.out)) (below_size (by repeat first|(with_reducible first|exact HB.out|apply ba|apply bd|apply b1|refine bs ?_ GE158.out|refine bs ?_ GE170.out|refine bs ?_ GE182.out|refine bs ?_ GE191.out)|exact HB.out))); have n4_ := Aside0.mk (blk_below (g := gb158) (o := .cells #[.int .i64 t150, .int .i64 t151, .int .i64 t152, .int .i64 t153, .int .u32 t154, .int .u32 t155, .int .i64 t156] 27 (0, 0)) (by (with_reducible repeat (first | refine blk_drewN ?_ _ | refine blk_drew ?_ | refine blk_alloc ?_ _)); refine blk_far ?_ NB158_191.out _; (with_reducible repeat (first | refine blk_drewN ?_ _ | refine blk_drew ?_ | refine blk_alloc ?_ _)); refine blk_far ?_ NB158_191.out _; (with_reducible repeat (first | refine blk_drewN ?_ _ | refine blk_drew ?_ | refine blk_alloc ?_ _)); refine blk_far ?_ NB158_191.out _; (with_reducible repeat (first | refine blk_drewN ?_ _ | refine blk_drew ?_ | refine blk_alloc ?_ _)); refine blk_far ?_ NB158_191.out _; (with_reducible repeat (first | refine blk_drewN ?_ _ | refine blk_drew ?_ | refine blk_alloc ?_ _)); refine blk_far ?_ NB158_191.out _; (with_reducible repeat (first | refine blk_drewN ?_ _ | refine blk_drew ?_ | refine blk_alloc ?_ _)); refine blk_far ?_ NB158_191.out _; (with_reducible repeat (first | refine blk_drewN ?_ _ | refine blk_drew ?_ | refine blk_alloc ?_ _)); refine blk_far ?_ NB158_191.out _; (with_reducible repeat (first | refine blk_drewN ?_ _ | refine blk_drew ?_ | refine blk_alloc ?_ _)); exact BK158.out) hb); have n5_ := Aside0.mk (blk_below (g := gb170) (o := .cells #[.int .i64 t162, .int .i64 t163, .int .i64 t164, .int .i64 t165, .int .u32 t166, .int .u32 t167, .int .i64 t168] 27 (0, 0)) (by (with_reducible repeat (first | refine blk_drewN ?_ _ | refine blk_drew ?_ | refine blk_alloc ?_ _)); refine blk_far ?_ NB170_191.out _; (with_reducible repeat (first | refine blk_drewN ?_ _ | refine blk_drew ?_ | refine blk_alloc ?_ _)); refine blk_far ?_ NB170_191.out _; (with_reducible repeat (first | refine blk_drewN ?_ _ | refine blk_drew ?_ | refine blk_alloc ?_ _)); refine blk_far ?_ NB170_191.out _; (with_reducible repeat (first | refine blk_drewN ?_ _ | refine blk_drew ?_ | refine blk_alloc ?_ _)); refine blk_far ?_ NB170_191.out _; (with_reducible repeat (first | refine blk_drewN ?_ _ | refine blk_drew ?_ | refine blk_alloc ?_ _)); refine blk_far ?_ NB170_191.out _; (with_reducible repeat (first | refine blk_drewN ?_ _ | refine blk_drew ?_ | refine blk_alloc ?_ _)); refine blk_far ?_ NB170_191.out _; (with_reducible repeat (first | refine blk_drewN ?_ _ | refine blk_drew ?_ | refine blk_alloc ?_ _)); refine blk_far ?_ NB170_191.out _; (with_reducible repeat (first | refine blk_drewN ?_ _ | refine blk_drew ?_ | refine blk_alloc ?_ _)); exact BK170.out) hb); have n6_ := Aside0.mk (blk_below (g := gb182) (o := .cells #[.int .i64 t174, .int .i64 t175, .int .i64 t176, .int .i64 t177, .int .u32 t178, .int .u32 t179, .int .i64 t180] 27 (0, 0)) (by (with_reducible repeat (first | refine blk_drewN ?_ _ | refine blk_drew ?_ | refine blk_alloc ?_ _)); refine blk_far ?_ NB182_191.out _; (with_reducible repeat (first | refine blk_drewN ?_ _ | refine blk_drew ?_ | refine blk_alloc ?_ _)); refine blk_far ?_ NB182_191.out _; (with_reducible repeat (first | refine blk_drewN ?_ _ | refine blk_drew ?_ | refine blk_alloc ?_ _)); refine blk_far ?_ NB182_191.out _; (with_reducible repeat (first | refine blk_drewN ?_ _ | refine blk_drew ?_ | refine blk_alloc ?_ _)); refine blk_far ?_ NB182_191.out _; (with_reducible repeat (first | refine blk_drewN ?_ _ | refine blk_drew ?_ | refine blk_alloc ?_ _)); refine blk_far ?_ NB182_191.out _; (with_reducible repeat (first | refine blk_drewN ?_ _ | refine blk_drew ?_ | refine blk_alloc ?_ _)); refine blk_far ?_ NB182_191.out _; (with_reducible repeat (first | refine blk_drewN ?_ _ | refine blk_drew ?_ | refine blk_alloc ?_ _)); refine blk_far ?_ NB182_191.out _; (with_reducible repeat (first | refine blk_drewN ?_ _ | refine blk_drew ?_ | refine blk_alloc ?_ _)); exact BK182.out) hb); have n7_ := Aside0.mk (blk_below (g := gb191) (o := .cells #[.int .i64 t183, .int .i64 t184, .int .i64 t185, .int .i64 t186, .int .u32 t187, .int .u32 t188, .int .i64 t189] 27 (0, 0)) (by (with_reducible repeat (first | refine blk_drewN ?_ _ | refine blk_drew ?_ | refine blk_alloc ?_ _)); refine blk_put (cs := #[.int .i64 t183, .int .i64 t184, .int .i64 t185, .int .i64 t186, .int .u32 t187, .int .u32 t188, .int .i64 0]) ?_ 6 _ rfl; (with_reducible repeat (first | refine blk_drewN ?_ _ | refine blk_drew ?_ | refine blk_alloc ?_ _)); refine blk_put (cs := #[.int .i64 t183, .int .i64 t184, .int .i64 t185, .int .i64 t186, .int .u32 t187, .int .u32 0, .int .i64 0]) ?_ 5 _ rfl; (with_reducible repeat (first | refine blk_drewN ?_ _ | refine blk_drew ?_ | refine blk_alloc ?_ _)); refine blk_put (cs := #[.int .i64 t183, .int .i64 t184, .int .i64 t185, .int .i64 t186, .int .u32 0, .int .u32 0, .int .i64 0]) ?_ 4 _ rfl; (with_reducible repeat (first | refine blk_drewN ?_ _ | refine blk_drew ?_ | refine blk_alloc ?_ _)); refine blk_put (cs := #[.int .i64 t183, .int .i64 t184, .int .i64 t185, .int .i64 0, .int .u32 0, .int .u32 0, .int .i64 0]) ?_ 3 _ rfl; (with_reducible repeat (first | refine blk_drewN ?_ _ | refine blk_drew ?_ | refine blk_alloc ?_ _)); refine blk_put (cs := #[.int .i64 t183, .int .i64 t184, .int .i64 0, .int .i64 0, .int .u32 0, .int .u32 0, .int .i64 0]) ?_ 2 _ rfl; (with_reducible repeat (first | refine blk_drewN ?_ _ | refine blk_drew ?_ | refine blk_alloc ?_ _)); refine blk_put (cs := #[.int .i64 t183, .int .i64 0, .int .i64 0, .int .i64 0, .int .u32 0, .int .u32 0, .int .i64 0]) ?_ 1 _ rfl; (with_reducible repeat (first | refine blk_drewN ?_ _ | refine blk_drew ?_ | refine blk_alloc ?_ _)); refine blk_put (cs := #[.int .i64 0, .int .i64 0, .int .i64 0, .int .i64 0, .int .u32 0, .int .u32 0, .int .i64 0]) ?_ 0 _ rfl; (with_reducible repeat (first | refine blk_drewN ?_ _ | refine blk_drew ?_ | refine blk_alloc ?_ _)); exact BK191.out) hb); have n8_ := Aside0.mk (below_step (by repeat first|(with_reducible first|exact HB.out|apply ba|apply bd|apply b1|refine bs ?_ GE158.out|refine bs ?_ GE170.out|refine bs ?_ GE182.out|refine bs ?_ GE191.out)|exact HB.out) hb); clear HO149; clear HO161; clear HO173; clear BK158; clear BK170; clear BK182; clear BK191; clear HB; have HO149 := n0_; have HO161 := n1_; have HO173 := n2_; have HO194 := n3_; have BK158 := n4_; have BK170 := n5_; have BK182 := n6_; have BK191 := n7_; have HB := n8_; clear n0_ n1_ n2_ n3_ n4_ n5_ n6_ n7_ n8_; (try clear hb); (try clear hb2); (try clear hk); (try clear hi); (try clear ho0); obtain ⟨Ao50, co50, eo50⟩ := Kd.R_slice HO194.out; subst eo50) | ((with_reducible refine gate_callee (f := 55) rfl ?_); refine goesL_ (some 29) rfl rfl Tryz.func55 (by kernel_rfl) rfl #[.slice Ao50 t192.length co50] rfl (by (try simp only [mA_, mC_, mN_]); first|done|rfl|(simp only [lD_, lT_]; rfl)) ?_; (with_reducible refine (rule_All.calls k _ _ t192 true _ ?side1 ?side2 A9.out).mono ?_); (case side1 => repeat (first | exact (Kd.R_reads' HO194.out).2.2 | (with_reducible refine Kd.C_alloc ?_ _) | (with_reducible refine Kd.C_drewN ?_ _) | (with_reducible refine Kd.C_drew ?_))); (case side2 => exact (Kd.R_reads' HO194.out).2.1); rintro e w51 ⟨rfl, hb⟩; refine ⟨_, rfl, ?_⟩; have n0_ := Aside0.mk (Kd.R_below (gR HO149.out) hb); have n1_ := Aside0.mk (Kd.R_below (gR HO161.out) hb); have n2_ := Aside0.mk (Kd.R_below (gR HO173.out) hb); have n3_ := Aside0.mk (Kd.R_below (gR HO194.out) hb); have n4_ := Aside0.mk (blk_below (g := gb158) (o := .cells #[.int .i64 t150, .int .i64 t151, .int .i64 t152, .int .i64 t153, .int .u32 t154, .int .u32 t155, .int .i64 t156] 27 (0, 0)) (gK BK158.out) hb); have n5_ := Aside0.mk (blk_below (g := gb170) (o := .cells #[.int .i64 t162, .int .i64 t163, .int .i64 t164, .int .i64 t165, .int .u32 t166, .int .u32 t167, .int .i64 t168] 27 (0, 0)) (gK BK170.out) hb); have n6_ := Aside0.mk (blk_below (g := gb182) (o := .cells #[.int .i64 t174, .int .i64 t175, .int .i64 t176, .int .i64 t177, .int .u32 t178, .int .u32 t179, .int .i64 t180] 27 (0, 0)) (gK BK182.out) hb); have n7_ := Aside0.mk (blk_below (g := gb191) (o := .cells #[.int .i64 t183, .int .i64 t184, .int .i64 t185, .int .i64 t186, .int .u32 t187, .int .u32 t188, .int .i64 t189] 27 (0, 0)) (gK BK191.out) hb); have n8_ := Aside0.mk (below_step (by repeat first|(with_reducible first|exact HB.out|apply ba|apply bd|apply b1|refine bs ?_ GE158.out|refine bs ?_ GE170.out|refine bs ?_ GE182.out|refine bs ?_ GE191.out)|exact HB.out) hb); clear HO149; clear HO161; clear HO173; clear HO194; clear BK158; clear BK170; clear BK182; clear BK191; clear HB; have HO149 := n0_; have HO161 := n1_; have HO173 := n2_; have HO194 := n3_; have BK158 := n4_; have BK170 := n5_; have BK182 := n6_; have BK191 := n7_; have HB := n8_; clear n0_ n1_ n2_ n3_ n4_ n5_ n6_ n7_ n8_; (try clear hb); (try clear hb2); (try clear hk); (try clear hi); have hcz52_0 : w51.cell? ⟨gb158, 0, none⟩ = some (.int .i64 t150) := (blk_cell BK158.out 0).trans rfl; have hcz52_1 : w51.cell? ⟨gb158, 1, none⟩ = some (.int .i64 t151) := (blk_cell BK158.out 1).trans rfl; have hcz52_2 : w51.cell? ⟨gb158, 2, none⟩ = some (.int .i64 t152) := (blk_cell BK158.out 2).trans rfl; have hcz52_3 : w51.cell? ⟨gb158, 3, none⟩ = some (.int .i64 t153) := (blk_cell BK158.out 3).trans rfl; have hcz52_4 : w51.cell? ⟨gb158, 4, none⟩ = some (.int .u32 t154) := (blk_cell BK158.out 4).trans rfl; have hcz52_5 : w51.cell? ⟨gb158, 5, none⟩ = some (.int .u32 t155) := (blk_cell BK158.out 5).trans rfl; have hcz52_6 : w51.cell? ⟨gb158, 6, none⟩ = some (.int .i64 t156) := (blk_cell BK158.out 6).trans rfl; have hfz52_0 := blk_frozen BK158.out 0; have hfz52_1 := blk_frozen BK158.out 1; have hfz52_2 := blk_frozen BK158.out 2; have hfz52_3 := blk_frozen BK158.out 3; have hfz52_4 := blk_frozen BK158.out 4; have hfz52_5 := blk_frozen BK158.out 5; have hfz52_6 := blk_frozen BK158.out 6; have hcz53_0 : w51.cell? ⟨gb170, 0, none⟩ = some (.int .i64 t162) := (blk_cell BK170.out 0).trans rfl; have hcz53_1 : w51.cell? ⟨gb170, 1, none⟩ = some (.int .i64 t163) := (blk_cell BK170.out 1).trans rfl; have hcz53_2 : w51.cell? ⟨gb170, 2, none⟩ = some (.int .i64 t164) := (blk_cell BK170.out 2).trans rfl; have hcz53_3 : w51.cell? ⟨gb170, 3, none⟩ = some (.int .i64 t165) := (blk_cell BK170.out 3).trans rfl; have hcz53_4 : w51.cell? ⟨gb170, 4, none⟩ = some (.int .u32 t166) := (blk_cell BK170.out 4).trans rfl; have hcz53_5 : w51.cell? ⟨gb170, 5, none⟩ = some (.int .u32 t167) := (blk_cell BK170.out 5).trans rfl; have hcz53_6 : w51.cell? ⟨gb170, 6, none⟩ = some (.int .i64 t168) := (blk_cell BK170.out 6).trans rfl; have hfz53_0 := blk_frozen BK170.out 0; have hfz53_1 := blk_frozen BK170.out 1; have hfz53_2 := blk_frozen BK170.out 2; have hfz53_3 := blk_frozen BK170.out 3; have hfz53_4 := blk_frozen BK170.out 4; have hfz53_5 := blk_frozen BK170.out 5; have hfz53_6 := blk_frozen BK170.out 6) | (go_at_call 54; (with_reducible refine (waystonelaw07_some.calls  t196 _ A16.out).mono ?_); rintro e w54 ⟨v197, rfl, ho0, hb⟩; clear A16; have n0_ := Aside0.mk (Kd.R_elder' (gR HO149.out) (Kd.R_base ho0) hb); have n1_ := Aside0.mk (Kd.R_elder' (gR HO161.out) (Kd.R_base ho0) hb); have n2_ := Aside0.mk (Kd.R_elder' (gR HO173.out) (Kd.R_base ho0) hb); have n3_ := Aside0.mk (Kd.R_elder' (gR HO194.out) (Kd.R_base ho0) hb); have n4_ := Aside0.mk (Kd.R_lower (Kd.R_newB (Kd.R_newB (Kd.R_newB (Kd.R_newB (Kd.R_new' (Kd.R_new' (Kd.R_new' (Kd.R_new' ho0 (Kd.R_lt (gR HO149.out))) (Kd.R_lt (gR HO161.out))) (Kd.R_lt (gR HO173.out))) (Kd.R_lt (gR HO194.out))) (g := gb158) (o := .cells #[.int .i64 t150, .int .i64 t151, .int .i64 t152, .int .i64 t153, .int .u32 t154, .int .u32 t155, .int .i64 t156] 27 (0, 0)) (gK BK158.out)) (g := gb170) (o := .cells #[.int .i64 t162, .int .i64 t163, .int .i64 t164, .int .i64 t165, .int .u32 t166, .int .u32 t167, .int .i64 t168] 27 (0, 0)) (gK BK170.out)) (g := gb182) (o := .cells #[.int .i64 t174, .int .i64 t175, .int .i64 t176, .int .i64 t177, .int .u32 t178, .int .u32 t179, .int .i64 t180] 27 (0, 0)) (gK BK182.out)) (g := gb191) (o := .cells #[.int .i64 t183, .int .i64 t184, .int .i64 t185, .int .i64 t186, .int .u32 t187, .int .u32 t188, .int .i64 t189] 27 (0, 0)) (gK BK191.out)) (below_size (by repeat first|(with_reducible first|exact HB.out|apply ba|apply bd|apply b1|refine bs ?_ GE158.out|refine bs ?_ GE170.out|refine bs ?_ GE182.out|refine bs ?_ GE191.out)|exact HB.out))); have n5_ := Aside0.mk (blk_below (g := gb158) (o := .cells #[.int .i64 t150, .int .i64 t151, .int .i64 t152, .int .i64 t153, .int .u32 t154, .int .u32 t155, .int .i64 t156] 27 (0, 0)) (gK BK158.out) hb); have n6_ := Aside0.mk (blk_below (g := gb170) (o := .cells #[.int .i64 t162, .int .i64 t163, .int .i64 t164, .int .i64 t165, .int .u32 t166, .int .u32 t167, .int .i64 t168] 27 (0, 0)) (gK BK170.out) hb); have n7_ := Aside0.mk (blk_below (g := gb182) (o := .cells #[.int .i64 t174, .int .i64 t175, .int .i64 t176, .int .i64 t177, .int .u32 t178, .int .u32 t179, .int .i64 t180] 27 (0, 0)) (gK BK182.out) hb); have n8_ := Aside0.mk (blk_below (g := gb191) (o := .cells #[.int .i64 t183, .int .i64 t184, .int .i64 t185, .int .i64 t186, .int .u32 t187, .int .u32 t188, .int .i64 t189] 27 (0, 0)) (gK BK191.out) hb); have n9_ := Aside0.mk (below_step (by repeat first|(with_reducible first|exact HB.out|apply ba|apply bd|apply b1|refine bs ?_ GE158.out|refine bs ?_ GE170.out|refine bs ?_ GE182.out|refine bs ?_ GE191.out)|exact HB.out) hb); clear HO149; clear HO161; clear HO173; clear HO194; clear BK158; clear BK170; clear BK182; clear BK191; clear HB; have HO149 := n0_; have HO161 := n1_; have HO173 := n2_; have HO194 := n3_; have HO198 := n4_; have BK158 := n5_; have BK170 := n6_; have BK182 := n7_; have BK191 := n8_; have HB := n9_; clear n0_ n1_ n2_ n3_ n4_ n5_ n6_ n7_ n8_ n9_; (try clear hb); (try clear hb2); (try clear hk); (try clear hi); (try clear ho0); obtain ⟨Ao55, co55, eo55⟩ := Kd.R_slice HO198.out; subst eo55) | (go_at_call 22; (with_reducible refine (rule_Denies.calls _ _ t196 0 75 true _ ?side1 ?side2 A17.out).mono ?_); (case side1 => repeat (first | exact (Kd.R_reads' HO198.out).2.2 | (with_reducible refine Kd.C_alloc ?_ _) | (with_reducible refine Kd.C_drewN ?_ _) | (with_reducible refine Kd.C_drew ?_))); (case side2 => exact (Kd.R_reads' HO198.out).2.1); rintro e w56 ⟨rfl, hb⟩; have n0_ := Aside0.mk (Kd.R_below (gR HO149.out) hb); have n1_ := Aside0.mk (Kd.R_below (gR HO161.out) hb); have n2_ := Aside0.mk (Kd.R_below (gR HO173.out) hb); have n3_ := Aside0.mk (Kd.R_below (gR HO194.out) hb); have n4_ := Aside0.mk (Kd.R_below (gR HO198.out) hb); have n5_ := Aside0.mk (blk_below (g := gb158) (o := .cells #[.int .i64 t150, .int .i64 t151, .int .i64 t152, .int .i64 t153, .int .u32 t154, .int .u32 t155, .int .i64 t156] 27 (0, 0)) (gK BK158.out) hb); have n6_ := Aside0.mk (blk_below (g := gb170) (o := .cells #[.int .i64 t162, .int .i64 t163, .int .i64 t164, .int .i64 t165, .int .u32 t166, .int .u32 t167, .int .i64 t168] 27 (0, 0)) (gK BK170.out) hb); have n7_ := Aside0.mk (blk_below (g := gb182) (o := .cells #[.int .i64 t174, .int .i64 t175, .int .i64 t176, .int .i64 t177, .int .u32 t178, .int .u32 t179, .int .i64 t180] 27 (0, 0)) (gK BK182.out) hb); have n8_ := Aside0.mk (blk_below (g := gb191) (o := .cells #[.int .i64 t183, .int .i64 t184, .int .i64 t185, .int .i64 t186, .int .u32 t187, .int .u32 t188, .int .i64 t189] 27 (0, 0)) (gK BK191.out) hb); have n9_ := Aside0.mk (below_step (by repeat first|(with_reducible first|exact HB.out|apply ba|apply bd|apply b1|refine bs ?_ GE158.out|refine bs ?_ GE170.out|refine bs ?_ GE182.out|refine bs ?_ GE191.out)|exact HB.out) hb); clear HO149; clear HO161; clear HO173; clear HO194; clear HO198; clear BK158; clear BK170; clear BK182; clear BK191; clear HB; have HO149 := n0_; have HO161 := n1_; have HO173 := n2_; have HO194 := n3_; have HO198 := n4_; have BK158 := n5_; have BK170 := n6_; have BK182 := n7_; have BK191 := n8_; have HB := n9_; clear n0_ n1_ n2_ n3_ n4_ n5_ n6_ n7_ n8_ n9_; (try clear hb); (try clear hb2); (try clear hk); (try clear hi)) | (go_at_call 54; (with_reducible refine (waystonelaw07_some.calls  t200 _ A19.out).mono ?_); rintro e w57 ⟨v201, rfl, ho0, hb⟩; clear A19; have n0_ := Aside0.mk (Kd.R_elder' (gR HO149.out) (Kd.R_base ho0) hb); have n1_ := Aside0.mk (Kd.R_elder' (gR HO161.out) (Kd.R_base ho0) hb); have n2_ := Aside0.mk (Kd.R_elder' (gR HO173.out) (Kd.R_base ho0) hb); have n3_ := Aside0.mk (Kd.R_elder' (gR HO194.out) (Kd.R_base ho0) hb); have n4_ := Aside0.mk (Kd.R_elder' (gR HO198.out) (Kd.R_base ho0) hb); have n5_ := Aside0.mk (Kd.R_lower (Kd.R_newB (Kd.R_newB (Kd.R_newB (Kd.R_newB (Kd.R_new' (Kd.R_new' (Kd.R_new' (Kd.R_new' (Kd.R_new' ho0 (Kd.R_lt (gR HO149.out))) (Kd.R_lt (gR HO161.out))) (Kd.R_lt (gR HO173.out))) (Kd.R_lt (gR HO194.out))) (Kd.R_lt (gR HO198.out))) (g := gb158) (o := .cells #[.int .i64 t150, .int .i64 t151, .int .i64 t152, .int .i64 t153, .int .u32 t154, .int .u32 t155, .int .i64 t156] 27 (0, 0)) (gK BK158.out)) (g := gb170) (o := .cells #[.int .i64 t162, .int .i64 t163, .int .i64 t164, .int .i64 t165, .int .u32 t166, .int .u32 t167, .int .i64 t168] 27 (0, 0)) (gK BK170.out)) (g := gb182) (o := .cells #[.int .i64 t174, .int .i64 t175, .int .i64 t176, .int .i64 t177, .int .u32 t178, .int .u32 t179, .int .i64 t180] 27 (0, 0)) (gK BK182.out)) (g := gb191) (o := .cells #[.int .i64 t183, .int .i64 t184, .int .i64 t185, .int .i64 t186, .int .u32 t187, .int .u32 t188, .int .i64 t189] 27 (0, 0)) (gK BK191.out)) (below_size (by repeat first|(with_reducible first|exact HB.out|apply ba|apply bd|apply b1|refine bs ?_ GE158.out|refine bs ?_ GE170.out|refine bs ?_ GE182.out|refine bs ?_ GE191.out)|exact HB.out))); have n6_ := Aside0.mk (blk_below (g := gb158) (o := .cells #[.int .i64 t150, .int .i64 t151, .int .i64 t152, .int .i64 t153, .int .u32 t154, .int .u32 t155, .int .i64 t156] 27 (0, 0)) (gK BK158.out) hb); have n7_ := Aside0.mk (blk_below (g := gb170) (o := .cells #[.int .i64 t162, .int .i64 t163, .int .i64 t164, .int .i64 t165, .int .u32 t166, .int .u32 t167, .int .i64 t168] 27 (0, 0)) (gK BK170.out) hb); have n8_ := Aside0.mk (blk_below (g := gb182) (o := .cells #[.int .i64 t174, .int .i64 t175, .int .i64 t176, .int .i64 t177, .int .u32 t178, .int .u32 t179, .int .i64 t180] 27 (0, 0)) (gK BK182.out) hb); have n9_ := Aside0.mk (blk_below (g := gb191) (o := .cells #[.int .i64 t183, .int .i64 t184, .int .i64 t185, .int .i64 t186, .int .u32 t187, .int .u32 t188, .int .i64 t189] 27 (0, 0)) (gK BK191.out) hb); have n10_ := Aside0.mk (below_step (by repeat first|(with_reducible first|exact HB.out|apply ba|apply bd|apply b1|refine bs ?_ GE158.out|refine bs ?_ GE170.out|refine bs ?_ GE182.out|refine bs ?_ GE191.out)|exact HB.out) hb); clear HO149; clear HO161; clear HO173; clear HO194; clear HO198; clear BK158; clear BK170; clear BK182; clear BK191; clear HB; have HO149 := n0_; have HO161 := n1_; have HO173 := n2_; have HO194 := n3_; have HO198 := n4_; have HO202 := n5_; have BK158 := n6_; have BK170 := n7_; have BK182 := n8_; have BK191 := n9_; have HB := n10_; clear n0_ n1_ n2_ n3_ n4_ n5_ n6_ n7_ n8_ n9_ n10_; (try clear hb); (try clear hb2); (try clear hk); (try clear hi); (try clear ho0); obtain ⟨Ao58, co58, eo58⟩ := Kd.R_slice HO202.out; subst eo58) | (go_at_call 22; (with_reducible refine (rule_Denies.calls _ _ t200 0 5 false _ ?side1 ?side2 A20.out).mono ?_); (case side1 => repeat (first | exact (Kd.R_reads' HO202.out).2.2 | (with_reducible refine Kd.C_alloc ?_ _) | (with_reducible refine Kd.C_drewN ?_ _) | (with_reducible refine Kd.C_drew ?_))); (case side2 => exact (Kd.R_reads' HO202.out).2.1); rintro e w59 ⟨rfl, hb⟩; have n0_ := Aside0.mk (Kd.R_below (gR HO149.out) hb); have n1_ := Aside0.mk (Kd.R_below (gR HO161.out) hb); have n2_ := Aside0.mk (Kd.R_below (gR HO173.out) hb); have n3_ := Aside0.mk (Kd.R_below (gR HO194.out) hb); have n4_ := Aside0.mk (Kd.R_below (gR HO198.out) hb); have n5_ := Aside0.mk (Kd.R_below (gR HO202.out) hb); have n6_ := Aside0.mk (blk_below (g := gb158) (o := .cells #[.int .i64 t150, .int .i64 t151, .int .i64 t152, .int .i64 t153, .int .u32 t154, .int .u32 t155, .int .i64 t156] 27 (0, 0)) (gK BK158.out) hb); have n7_ := Aside0.mk (blk_below (g := gb170) (o := .cells #[.int .i64 t162, .int .i64 t163, .int .i64 t164, .int .i64 t165, .int .u32 t166, .int .u32 t167, .int .i64 t168] 27 (0, 0)) (gK BK170.out) hb); have n8_ := Aside0.mk (blk_below (g := gb182) (o := .cells #[.int .i64 t174, .int .i64 t175, .int .i64 t176, .int .i64 t177, .int .u32 t178, .int .u32 t179, .int .i64 t180] 27 (0, 0)) (gK BK182.out) hb); have n9_ := Aside0.mk (blk_below (g := gb191) (o := .cells #[.int .i64 t183, .int .i64 t184, .int .i64 t185, .int .i64 t186, .int .u32 t187, .int .u32 t188, .int .i64 t189] 27 (0, 0)) (gK BK191.out) hb); have n10_ := Aside0.mk (below_step (by repeat first|(with_reducible first|exact HB.out|apply ba|apply bd|apply b1|refine bs ?_ GE158.out|refine bs ?_ GE170.out|refine bs ?_ GE182.out|refine bs ?_ GE191.out)|exact HB.out) hb); clear HO149; clear HO161; clear HO173; clear HO194; clear HO198; clear HO202; clear BK158; clear BK170; clear BK182; clear BK191; clear HB; have HO149 := n0_; have HO161 := n1_; have HO173 := n2_; have HO194 := n3_; have HO198 := n4_; have HO202 := n5_; have BK158 := n6_; have BK170 := n7_; have BK182 := n8_; have BK191 := n9_; have HB := n10_; clear n0_ n1_ n2_ n3_ n4_ n5_ n6_ n7_ n8_ n9_ n10_; (try clear hb); (try clear hb2); (try clear hk); (try clear hi); have hcz60_0 : w59.cell? ⟨gb191, 0, none⟩ = some (.int .i64 t183) := (blk_cell BK191.out 0).trans rfl; have hcz60_1 : w59.cell? ⟨gb191, 1, none⟩ = some (.int .i64 t184) := (blk_cell BK191.out 1).trans rfl; have hcz60_2 : w59.cell? ⟨gb191, 2, none⟩ = some (.int .i64 t185) := (blk_cell BK191.out 2).trans rfl; have hcz60_3 : w59.cell? ⟨gb191, 3, none⟩ = some (.int .i64 t186) := (blk_cell BK191.out 3).trans rfl; have hcz60_4 : w59.cell? ⟨gb191, 4, none⟩ = some (.int .u32 t187) := (blk_cell BK191.out 4).trans rfl; have hcz60_5 : w59.cell? ⟨gb191, 5, none⟩ = some (.int .u32 t188) := (blk_cell BK191.out 5).trans rfl; have hcz60_6 : w59.cell? ⟨gb191, 6, none⟩ = some (.int .i64 t189) := (blk_cell BK191.out 6).trans rfl; have hfz60_0 := blk_frozen BK191.out 0; have hfz60_1 := blk_frozen BK191.out 1; have hfz60_2 := blk_frozen BK191.out 2; have hfz60_3 := blk_frozen BK191.out 3; have hfz60_4 := blk_frozen BK191.out 4; have hfz60_5 := blk_frozen BK191.out 5; have hfz60_6 := blk_frozen BK191.out 6) | (go_at_call 11; (with_reducible refine (rule_Text.calls t183 t184 t185 t186 t187 t188 t189 t204 _ ?side1 A24.out).mono ?_); (case side1 => exact HLd.below (by repeat first|(with_reducible first|exact HB.out|apply ba|apply bd|apply b1|refine bs ?_ GE158.out|refine bs ?_ GE170.out|refine bs ?_ GE182.out|refine bs ?_ GE191.out)|exact HB.out)); rintro e w61 ⟨rfl, hb⟩; have n0_ := Aside0.mk (Kd.R_below (gR HO149.out) hb); have n1_ := Aside0.mk (Kd.R_below (gR HO161.out) hb); have n2_ := Aside0.mk (Kd.R_below (gR HO173.out) hb); have n3_ := Aside0.mk (Kd.R_below (gR HO194.out) hb); have n4_ := Aside0.mk (Kd.R_below (gR HO198.out) hb); have n5_ := Aside0.mk (Kd.R_below (gR HO202.out) hb); have n6_ := Aside0.mk (blk_below (g := gb158) (o := .cells #[.int .i64 t150, .int .i64 t151, .int .i64 t152, .int .i64 t153, .int .u32 t154, .int .u32 t155, .int .i64 t156] 27 (0, 0)) (gK BK158.out) hb); have n7_ := Aside0.mk (blk_below (g := gb170) (o := .cells #[.int .i64 t162, .int .i64 t163, .int .i64 t164, .int .i64 t165, .int .u32 t166, .int .u32 t167, .int .i64 t168] 27 (0, 0)) (gK BK170.out) hb); have n8_ := Aside0.mk (blk_below (g := gb182) (o := .cells #[.int .i64 t174, .int .i64 t175, .int .i64 t176, .int .i64 t177, .int .u32 t178, .int .u32 t179, .int .i64 t180] 27 (0, 0)) (gK BK182.out) hb); have n9_ := Aside0.mk (blk_below (g := gb191) (o := .cells #[.int .i64 t183, .int .i64 t184, .int .i64 t185, .int .i64 t186, .int .u32 t187, .int .u32 t188, .int .i64 t189] 27 (0, 0)) (gK BK191.out) hb); have n10_ := Aside0.mk (below_step (by repeat first|(with_reducible first|exact HB.out|apply ba|apply bd|apply b1|refine bs ?_ GE158.out|refine bs ?_ GE170.out|refine bs ?_ GE182.out|refine bs ?_ GE191.out)|exact HB.out) hb); clear HO149; clear HO161; clear HO173; clear HO194; clear HO198; clear HO202; clear BK158; clear BK170; clear BK182; clear BK191; clear HB; have HO149 := n0_; have HO161 := n1_; have HO173 := n2_; have HO194 := n3_; have HO198 := n4_; have HO202 := n5_; have BK158 := n6_; have BK170 := n7_; have BK182 := n8_; have BK191 := n9_; have HB := n10_; clear n0_ n1_ n2_ n3_ n4_ n5_ n6_ n7_ n8_ n9_ n10_; (try clear hb); (try clear hb2); (try clear hk); (try clear hi)))
           go_ret
           exact ⟨by first | rfl | (simp [errW_none, errW_some] <;> rfl) | (simp [*, errW_none, errW_some] <;> rfl), by repeat first|(with_reducible first|exact HB.out|apply ba|apply bd|apply b1|refine bs ?_ GE158.out|refine bs ?_ GE170.out|refine bs ?_ GE182.out|refine bs ?_ GE191.out)|exact HB.out⟩
          ·rw [if_neg c23] at H
           exact absurd H (by simp)
         ·rw [if_neg c22] at H
          exact absurd H (by simp)
       ·replace c18 := Bool.eq_false_iff.mpr c18
        subst c18
        rw [if_neg (show ¬ (false = true) by decide)] at H
        exact absurd H (by simp)
     ·rw [if_neg c14] at H
      exact absurd H (by simp)
    ·replace c13 := Bool.eq_false_iff.mpr c13
     subst c13
     rw [if_neg (show ¬ (false = true) by decide)] at H
     exact absurd H (by simp)
   ·rw [if_neg c12] at H
    exact absurd H (by simp)
  ·replace c11 := Bool.eq_false_iff.mpr c11
   subst c11
   rw [if_neg (show ¬ (false = true) by decide)] at H
   exact absurd H (by simp)
 ·replace c10 := Bool.eq_false_iff.mpr c10
  subst c10
  rw [if_neg (show ¬ (false = true) by decide)] at H
  exact absurd H (by simp)
end Go.Proofs.YtfjamikpahmfhaaGreatDoor.P
end
section
set_option linter.unusedSimpArgs false
set_option linter.unusedVariables false
namespace Go.Proofs.YtfjamikpahmfhaaGreatDoor.P
open Go.RowKit Go.Proofs.YtfjamikpahmfhaaGreatDoor.T Go.Proofs.YtfjamikpahmfhaaGreatDoorW.PrintWords Go.Proofs.YtfjamikpahmfhaaGreatDoorW.PrintLast Go.Proofs.YtfjamikpahmfhaaGreatDoorW.PrintMore
theorem num3 (n : Nat) (h1 : ¬ n < 10) (h2 : ¬ n / 10 < 10) (h3 : n / 10 < 100) : (numeral (n : Int)).data.toList = [UInt8.ofNat (48 + n / 10 / 10), UInt8.ofNat (48 + n / 10 % 10), UInt8.ofNat (48 + n % 10)] := by
  rw [numeral_data _ (by omega), Int.toNat_natCast, Lib.decDigits, dif_neg h1, Lib.decDigits_two h2 h3]
  rfl
theorem addr10z : addrText 184549375 = [49, 48, 46, 50, 53, 53, 46, 50, 53, 53, 46, 50, 53, 53] := by
  have o : octets 184549375 = [((10 : Nat) : Int), ((255 : Nat) : Int), ((255 : Nat) : Int), ((255 : Nat) : Int)] := by decide
  unfold addrText
  rw [o]
  simp only [List.map_cons, List.map_nil]
  rw [num2 10 (by decide) (by decide), num3 255 (by decide) (by decide) (by decide)]
  rfl
def aliveRule : Rl := ⟨7, 0, 10, 0, ⟨167772160, 184549375⟩, 3⟩
def aliveText : ByteArray := ⟨#[55, 32, 48, 32, 49, 48, 32, 102, 111, 114, 119, 97, 114, 100, 32, 49, 48, 46, 48, 46, 48, 46, 48, 45, 49, 48, 46, 50, 53, 53, 46, 50, 53, 53, 46, 50, 53, 53, 32, 51]⟩
theorem aliveText_eq : textT aliveRule = aliveText := by
  have h7 := num1 7 (by decide)
  have h0 := num1 0 (by decide)
  have h3 := num1 3 (by decide)
  have h10 := num2 10 (by decide) (by decide)
  unfold textT wordsT aliveRule
  simp only
  have e7 : (numeral 7).data.toList = [UInt8.ofNat (48 + 7)] := h7
  have e0 : (numeral 0).data.toList = [UInt8.ofNat (48 + 0)] := h0
  have e3 : (numeral 3).data.toList = [UInt8.ofNat (48 + 3)] := h3
  have e10 : (numeral 10).data.toList = [UInt8.ofNat (48 + 10 / 10), UInt8.ofNat (48 + 10 % 10)] := h10
  rw [e7, e0, e3, e10, addr10, addr10z]
  rfl
theorem alive_ok : okRule aliveRule := ⟨⟨by decide, by decide⟩, ⟨by decide, by decide⟩⟩
theorem alive_right : rightB aliveRule = true := by decide
theorem alive_parse : rule_Parse.f aliveText = some (7, 0, 10, 0, 167772160, 184549375, 3, 0) := by
  rw [← aliveText_eq]
  exact parse_text_rule aliveRule alive_ok alive_right
theorem alive_text : rule_Text.f 7 0 10 0 167772160 184549375 3 = some aliveText := by
  obtain ⟨t, _, _, h⟩ := ruleText_f aliveRule alive_ok alive_right
  rw [aliveText_eq] at h
  exact h
def someL : List Rl := [⟨1, 0, 5, 0, ⟨0, 99⟩, 2⟩, ⟨2, 0, 9, 1, ⟨50, 59⟩, 0⟩, ⟨3, 0, 1, 3, ⟨70, 79⟩, 0⟩, ⟨4, 0, 5, 0, ⟨0, 9⟩, 1⟩]
theorem some_f : waystonelaw07_some.f = some someL := rfl
theorem m1 : rule_Match.f someL 0 5 = some (1, 0, 5, 0, 0, 99, 2, true) := by kernel_rfl
theorem m2 : rule_Match.f someL 0 55 = some (2, 0, 9, 1, 50, 59, 0, true) := by kernel_rfl
theorem m3 : rule_Match.f someL 1 55 = some (0, 0, 0, 0, 0, 0, 0, false) := by kernel_rfl
theorem d1 : rule_Denies.f someL 0 75 = some true := by kernel_rfl
theorem d2 : rule_Denies.f someL 0 5 = some false := by kernel_rfl
theorem all_some : rule_All.f 100 someL = some true := by kernel_rfl
theorem alive07_f : waystonelaw07_alive.f 100 = some true := by
  unfold waystonelaw07_alive.f
  simp only [some_f, Option.bind_some, m1, m2, m3, d1, d2, all_some]
  rw [show (⟨#[55, 32, 48, 32, 49, 48, 32, 102, 111, 114, 119, 97, 114, 100, 32, 49, 48, 46, 48, 46, 48, 46, 48, 45, 49, 48, 46, 50, 53, 53, 46, 50, 53, 53, 46, 50, 53, 53, 32, 51]⟩ : ByteArray) = aliveText from rfl, alive_parse]
  simp only [Option.bind_some, if_true, if_pos trivial, alive_text]
  simp [aliveText, byte_toList]
theorem leO_ge {α : Type} {f : Nat → Option α} (hm : ∀ k, LeO (f k) (f (k + 1))) {k0 : Nat} {r : α} (h : f k0 = some r) : ∀ k, k0 ≤ k → f k = some r := by
  intro k hk
  induction k with
  | zero => obtain rfl : k0 = 0 := by omega
            exact h
  | succ n ih =>
    by_cases hn : k0 ≤ n
    · exact hm n r (ih hn)
    · obtain rfl : k0 = n + 1 := by omega
      exact h
theorem alive07_ge (k : Nat) (hk : 100 ≤ k) : waystonelaw07_alive.f k = some true := leO_ge waystonelaw07_alive.mono alive07_f k hk
theorem wrap_succ (i : Nat) (h : i < 9223372036854775807) : wrap64 ((i : Int) + 1) = ((i + 1 : Nat) : Int) := by unfold wrap64; omega
end Go.Proofs.YtfjamikpahmfhaaGreatDoor.P
end
section
set_option linter.unusedSimpArgs false
set_option linter.unusedVariables false
namespace Go.Proofs.YtfjamikpahmfhaaGreatDoor.P
open Go.ChangeShapes Go.WideShapes Go.ChangeAt Go.RowKit
theorem own : ownKnob Tryz.prog.godebug = none := by kernel_rfl
def laidAll : List (String × DataW Unit) := [("math/bits.deBruijn32tab", Rows.laid_math_bits_deBruijn32tab), ("math/bits.deBruijn64tab", Rows.laid_math_bits_deBruijn64tab), ("internal/strconv.uint64pow10", Rows.laid_internal_strconv_uint64pow10), ("unicode/utf8.acceptRanges", Rows.laid_unicode_utf8_acceptRanges), ("strconv.ErrRange", Rows.laid_strconv_ErrRange), ("strconv.ErrSyntax", Rows.laid_strconv_ErrSyntax), ("unicode/utf8.first", Rows.laid_unicode_utf8_first)]
noncomputable def laidWorld (os : Os) : World :=
  { World.doorLaid Tryz.prog 64 os with heap := (World.doorLaid Tryz.prog 64 os).heap.modify 4 fun
      | .cells _ t frozen => .cells (Pinned.utf8FirstZ.map fun z : Nat => Value.int .u8 (z : Int)).toArray t frozen
      | o => o }
theorem laid_met (os : Os) (args : Array Value) : laidMetH Tryz.prog laidAll ((laidWorld os).forCall (fun _ _ => 0) ⟨#[], args, []⟩).memory :=
  laidMetH_of_parts3 (fuel := 8) (laidMet_of_run' 8 (by kernel_rfl) (by kernel_rfl)) (by kernel_rfl) (by kernel_rfl)
theorem tab_of {W : World} {n : String} {k : IntKind} {zs : List Int} {g : Nat} {t e : TypeId} {m : Nat} (hg : Tryz.prog.globalNamed n = some g) (hty : (Tryz.prog.globals[g]?).map (·.type) = some t)
    (ht : Tryz.prog.underlying t = some (.array m e)) (he : Tryz.prog.underlying e = some (.int k)) (hce : Tryz.prog.cellsOf e = 1) (hct : Tryz.prog.cellsOf t = m)
    (h : Lib.VarReads Tryz.prog W n (Lib.tabData k zs)) : Lib.TabIs Tryz.prog W n k zs := by
  obtain ⟨g', t', cs, fuel, p, hg', ht', hvar, hd⟩ := h
  obtain rfl := Option.some.inj (hg.symm.trans hg')
  obtain rfl := Option.some.inj (hty.symm.trans ht')
  unfold Lib.TabIs
  rw [hvar, ← Lib.cells_of_tab ht he hce hct hd]
theorem sent_of {W : World} {n nm : String} {d : DataW Unit} {g : Nat} {t : TypeId} {ms : Array (String × TypeId)} (hg : Tryz.prog.globalNamed n = some g) (hty : (Tryz.prog.globals[g]?).map (·.type) = some t)
    (ht : Tryz.prog.underlying t = some (.interface ms)) (h : Lib.VarReads Tryz.prog W n (.iface nm d)) : ∃ tp p, W.var? Tryz.prog n = some #[.iface tp p] := by
  obtain ⟨g', t', cs, fuel, p, hg', ht', hvar, hd⟩ := h
  obtain rfl := Option.some.inj (hg.symm.trans hg')
  obtain rfl := Option.some.inj (hty.symm.trans ht')
  obtain ⟨fuel', u, v, hcs, _, _⟩ := iface_of_trod ht hd
  refine ⟨u, v, ?_⟩
  rw [hvar, Array.eq_one_of_toList hcs]
set_option maxRecDepth 100000 in
theorem laid_of {W : World} (h0 : laidMetH Tryz.prog laidAll W) (hsh : W.ShapedOpen Tryz.prog) : Laid W := by
  have h : laidMet Tryz.prog laidAll W := by rw [MakeChecks.laidMetH_plain _ _ _ (by kernel_rfl)] at h0; exact h0
  obtain ⟨ps, hv, _⟩ := h
  have rd_ : ∀ {n : String} {d : DataW Unit}, (n, d) ∈ laidAll → Lib.VarReads Tryz.prog W n d := fun {n d} hm => Lib.LaidVars_reads hv n d hm
  refine ⟨?_, ?_, ?_, ?_, ?_, ?_⟩
  · exact cell_of_shapedOpen_int (g := 1) (zero := #[.int .i64 0]) (t := 3) hsh (of_decide_eq_true (by kernel_rfl)) (by kernel_rfl) rfl (by kernel_rfl) (by kernel_rfl) Tryz.underlying3
  · exact tab_of (g := 0) (by kernel_rfl) (by kernel_rfl) Tryz.underlying264 Tryz.underlying230 (by kernel_rfl) (by kernel_rfl) (rd_ (n := "internal/strconv.uint64pow10") (d := Rows.laid_internal_strconv_uint64pow10) (by simp [laidAll]))
  · exact sent_of (g := 2) (by kernel_rfl) (by kernel_rfl) Tryz.underlying153 (rd_ (n := "strconv.ErrSyntax") (d := Rows.laid_strconv_ErrSyntax) (by simp [laidAll]))
  · exact sent_of (g := 3) (by kernel_rfl) (by kernel_rfl) Tryz.underlying153 (rd_ (n := "strconv.ErrRange") (d := Rows.laid_strconv_ErrRange) (by simp [laidAll]))
  · have ht : Lib.TabIs Tryz.prog W "math/bits.deBruijn64tab" .u8 (Lib.deBruijn64tab.map fun n : Nat => (n : Int)) :=
      tab_of (g := 7) (by kernel_rfl) (by kernel_rfl) Tryz.underlying303 Tryz.underlying5 (by kernel_rfl) (by kernel_rfl) (rd_ (n := "math/bits.deBruijn64tab") (d := Rows.laid_math_bits_deBruijn64tab) (by simp [laidAll]))
    intro j hj
    have hc := ht.cell (g := 7) (by kernel_rfl) j (by rw [List.length_map]; exact hj)
    rw [hc]
    congr 2
    simp [List.getD_eq_getElem?_getD, hj]
  · first
    | (have ht : Lib.TabIs Tryz.prog W "math/bits.deBruijn32tab" .u8 [0, 1, 28, 2, 29, 14, 24, 3, 30, 22, 20, 15, 25, 17, 4, 8, 31, 27, 13, 23, 21, 19, 16, 7, 26, 12, 18, 6, 11, 5, 10, 9] := tab_of (g := 6) (by kernel_rfl) (by kernel_rfl) Tryz.underlying302 Tryz.underlying5 (by kernel_rfl) (by kernel_rfl) (rd_ (n := "math/bits.deBruijn32tab") (d := Rows.laid_math_bits_deBruijn32tab) (by simp [laidAll])); have hc := ht.cell (g := 6) (by kernel_rfl) 0 (by decide); exact World.block_lt_of_cell? W _ hc)
    | (have ht : Lib.TabIs Tryz.prog W "math/bits.deBruijn64tab" .u8 (Lib.deBruijn64tab.map fun n : Nat => (n : Int)) := tab_of (g := 7) (by kernel_rfl) (by kernel_rfl) Tryz.underlying303 Tryz.underlying5 (by kernel_rfl) (by kernel_rfl) (rd_ (n := "math/bits.deBruijn64tab") (d := Rows.laid_math_bits_deBruijn64tab) (by simp [laidAll])); have hc := ht.cell (g := 7) (by kernel_rfl) 0 (by decide); exact World.block_lt_of_cell? W _ hc)
end Go.Proofs.YtfjamikpahmfhaaGreatDoor.P
namespace Go.Proofs.YtfjamikpahmfhaaGreatDoor.P
open Go.ChangeShapes Go.WideShapes Go.ChangeAt Go.RowKit
open Go.Deep
open Go.Proofs.YtfjamikpahmfhaaGreatDoorW.PrintWords Go.Proofs.YtfjamikpahmfhaaGreatDoorW.PrintLast Go.Proofs.YtfjamikpahmfhaaGreatDoorW.PrintMore
def ruleOk (r : Rl) : Prop := (-9223372036854775808 ≤ r.f0 ∧ r.f0 ≤ 9223372036854775807) ∧ okRule r
set_option maxRecDepth 100000 in
theorem open_rule {H : Type} {enc : TypeId × Value → H} {W : World} {base : Nat} {spare : Nat → Bool} {held : Bool} {n : Nat} {cs : List Value} {x : DataW H × List MemPlace} (h : DataW.trod enc Tryz.prog W base spare held n 27 cs = some x) : ∃ r : Rl, cs = rcells r ∧ ruleOk r := by
  obtain ⟨xs, n1, _, _, hl, hxl, hf⟩ := DataW.trod_struct Tryz.underlying27 h
  have hl7 : cs.length = 7 := hl.trans (by kernel_rfl)
  match cs, hl7 with
  | [c0, c1, c2, c3, c4, c5, c6], _ =>
    have i0 : DataW.trod enc Tryz.prog W base spare held n1 3 (([c0, c1, c2, c3, c4, c5, c6].drop 0).take (Tryz.prog.cellsOf 3)) = xs[0]? := hf 0 _ rfl
    have i1 : DataW.trod enc Tryz.prog W base spare held n1 3 (([c0, c1, c2, c3, c4, c5, c6].drop 1).take (Tryz.prog.cellsOf 3)) = xs[1]? := hf 1 _ rfl
    have i2 : DataW.trod enc Tryz.prog W base spare held n1 3 (([c0, c1, c2, c3, c4, c5, c6].drop 2).take (Tryz.prog.cellsOf 3)) = xs[2]? := hf 2 _ rfl
    have i3 : DataW.trod enc Tryz.prog W base spare held n1 22 (([c0, c1, c2, c3, c4, c5, c6].drop 3).take (Tryz.prog.cellsOf 22)) = xs[3]? := hf 3 _ rfl
    have i4 : DataW.trod enc Tryz.prog W base spare held n1 25 (([c0, c1, c2, c3, c4, c5, c6].drop 4).take (Tryz.prog.cellsOf 25)) = xs[4]? := hf 4 _ rfl
    have i5 : DataW.trod enc Tryz.prog W base spare held n1 3 (([c0, c1, c2, c3, c4, c5, c6].drop 6).take (Tryz.prog.cellsOf 3)) = xs[5]? := hf 5 _ rfl
    have k3 : Tryz.prog.cellsOf 3 = 1 := by kernel_rfl
    have k43 : Tryz.prog.cellsOf 22 = 1 := by kernel_rfl
    have k26 : Tryz.prog.cellsOf 25 = 2 := by kernel_rfl
    have k22 : Tryz.prog.cellsOf 23 = 1 := by kernel_rfl
    rw [k3] at i0 i1 i2 i5
    rw [k43] at i3
    rw [k26] at i4
    simp only [List.drop_zero, List.drop_succ_cons, List.take_succ_cons, List.take_zero] at i0 i1 i2 i3 i4 i5
    have hx6 : xs.length = 6 := hxl
    obtain ⟨ys0, e0⟩ : ∃ y, xs[0]? = some y := ⟨_, List.getElem?_eq_getElem (by omega)⟩
    obtain ⟨ys1, e1⟩ : ∃ y, xs[1]? = some y := ⟨_, List.getElem?_eq_getElem (by omega)⟩
    obtain ⟨ys2, e2⟩ : ∃ y, xs[2]? = some y := ⟨_, List.getElem?_eq_getElem (by omega)⟩
    obtain ⟨ys3, e3⟩ : ∃ y, xs[3]? = some y := ⟨_, List.getElem?_eq_getElem (by omega)⟩
    obtain ⟨ys4, e4⟩ : ∃ y, xs[4]? = some y := ⟨_, List.getElem?_eq_getElem (by omega)⟩
    obtain ⟨ys5, e5⟩ : ∃ y, xs[5]? = some y := ⟨_, List.getElem?_eq_getElem (by omega)⟩
    rw [e0] at i0
    rw [e1] at i1
    rw [e2] at i2
    rw [e3] at i3
    rw [e4] at i4
    rw [e5] at i5
    obtain ⟨a0, h0, -, w0⟩ := DataW.trod_int Tryz.underlying3 i0
    obtain ⟨a1, h1, -, w1⟩ := DataW.trod_int Tryz.underlying3 i1
    obtain ⟨a2, h2, -, w2⟩ := DataW.trod_int Tryz.underlying3 i2
    obtain ⟨a3, h3, -, w3⟩ := DataW.trod_int Tryz.underlying22 i3
    obtain ⟨a6, h6, -, w6⟩ := DataW.trod_int Tryz.underlying3 i5
    obtain ⟨zs, n2, _, _, _, hzl, hz⟩ := DataW.trod_struct Tryz.underlying25 i4
    have j0 : DataW.trod enc Tryz.prog W base spare held n2 23 (([c4, c5].drop 0).take (Tryz.prog.cellsOf 23)) = zs[0]? := hz 0 _ rfl
    have j1 : DataW.trod enc Tryz.prog W base spare held n2 23 (([c4, c5].drop 1).take (Tryz.prog.cellsOf 23)) = zs[1]? := hz 1 _ rfl
    rw [k22] at j0 j1
    simp only [List.drop_zero, List.drop_succ_cons, List.take_succ_cons, List.take_zero] at j0 j1
    have hz2 : zs.length = 2 := hzl
    obtain ⟨z0, g0⟩ : ∃ y, zs[0]? = some y := ⟨_, List.getElem?_eq_getElem (by omega)⟩
    obtain ⟨z1, g1⟩ : ∃ y, zs[1]? = some y := ⟨_, List.getElem?_eq_getElem (by omega)⟩
    rw [g0] at j0
    rw [g1] at j1
    obtain ⟨a4, h4, -, w4⟩ := DataW.trod_int Tryz.underlying23 j0
    obtain ⟨a5, h5, -, w5⟩ := DataW.trod_int Tryz.underlying23 j1
    cases h0
    cases h1
    cases h2
    cases h3
    cases h4
    cases h5
    cases h6
    exact ⟨⟨a0, a1, a2, a3, ⟨a4, a5⟩, a6⟩, rfl, bounds_i64 w0, bounds_u32 w4, bounds_u32 w5⟩
end Go.Proofs.YtfjamikpahmfhaaGreatDoor.P
end
section
set_option linter.unusedVariables false
set_option linter.unusedSimpArgs false
namespace Go.Proofs.YtfjamikpahmfhaaGreatDoor.P
open Go.ChangeShapes Go.WideShapes Go.ChangeAt Go.RowKit
open Go.Deep Go.ChangeMaps
set_option maxRecDepth 100000 in
theorem open_rule_arg {H : Type} {enc : TypeId × Value → H} {W : World} {base : Nat} {v : Value} {d : DataW H} {ps : List MemPlace} (hv : Value.okWide Tryz.prog W .any base 27 v) (h : DataW.Trod enc Tryz.prog W 0 (fun _ => true) true 27 v d ps) :
    ∃ x : Rl, v = .agg #[.int .i64 x.f0, .int .i64 x.f1, .int .i64 x.f2, .int .i64 x.f3, .int .u32 x.f4.f0, .int .u32 x.f4.f1, .int .i64 x.f5] ∧ ruleOk x := by
  obtain ⟨cs, rfl, hsz⟩ := okWide_struct Tryz.underlying27 hv
  obtain ⟨fuel, hf⟩ := h
  obtain ⟨r, hr, ho⟩ := open_rule hf
  refine ⟨r, ?_, ho⟩
  have hc : cs = (rcells r).toArray := Array.ext' hr
  rw [hc]
  rfl
set_option maxRecDepth 100000 in
theorem open_str {H : Type} {enc : TypeId × Value → H} {W : World} {base : Nat} {v : Value} {d : DataW H} {ps : List MemPlace} (hv : Value.okWide Tryz.prog W .any base 9 v) (h : DataW.Trod enc Tryz.prog W 0 (fun _ => true) true 9 v d ps) :
    ∃ s : ByteArray, v = .string s ∧ s.size ≤ maxLen := by
  obtain ⟨s, rfl, _, _, hs⟩ := open_string Tryz.underlying9 hv h
  exact ⟨s, rfl, hs⟩
end Go.Proofs.YtfjamikpahmfhaaGreatDoor.P
end
section
open List renaming map_toArray → mA_, map_cons → mC_, map_nil → mN_, length_drop → lD_, length_take → lT_, setIfInBounds_toArray → sI_, set_cons_zero → z0_, set_cons_succ → z1_
namespace Go.Proofs.YtfjamikpahmfhaaGreatDoor.P
open Go.RowKit Go.Proofs.YtfjamikpahmfhaaGreatDoorW.PrintWords Go.Proofs.YtfjamikpahmfhaaGreatDoorW.PrintLast Go.Proofs.YtfjamikpahmfhaaGreatDoorW.PrintMore
attribute [local go_sem] max2_int min2_int max_two min_two max_three min_three max_four min_four
set_option linter.unusedVariables false
set_option linter.unusedSimpArgs false
def waystoneref07_within.f (a0 : Int) (a1 : Int) : Option (Bool) := if a0 ≥ 0 then (some (decide (a0 ≤ a1))) else (some false)
set_option maxHeartbeats 8000000 in
set_option maxRecDepth 100000 in
theorem waystoneref07_within.calls (a0 : Int) (a1 : Int) (r : Bool) (w : World) (h : waystoneref07_within.f a0 a1 = some r) :
  Calls Tryz.prog 45 #[.int .i64 a0, .int .i64 a1] w fun e w' => e = .returned (.bool r) ∧ Drawn0 w w' := by
 have H : (if a0 ≥ 0 then (some (decide (a0 ≤ a1))) else (some false)) = some r := h
 clear h
 by_cases c3 : a0 ≥ 0
 ·rw [if_pos c3] at H
  have c3b0 : decide (0 ≤ a0) = true := decide_eq_true c3
  clear c3
  obtain rfl := Option.some.inj H
  go_enter Tryz.func45, Tryz.ntmps45
  go_wp2
  go_ret
  exact ⟨by first | rfl | (simp; done) | (simp [*]; done), by repeat (first | exact Drawn0.refl _ | apply Drawn0.step)⟩
 ·rw [if_neg c3] at H
  have c3b0 : decide (0 ≤ a0) = false := decide_eq_false c3
  clear c3
  obtain rfl := Option.some.inj H
  go_enter Tryz.func45, Tryz.ntmps45
  go_wp2
  go_ret
  exact ⟨by first | rfl | (simp; done) | (simp [*]; done), by repeat (first | exact Drawn0.refl _ | apply Drawn0.step)⟩
def waystoneref07_Right.f (a0_0 : Int) (a0_1 : Int) (a0_2 : Int) (a0_3 : Int) (a0_4 : Int) (a0_5 : Int) (a0_6 : Int) : Option (Bool) := (waystoneref07_within.f (wrap64 (a0_0 - 1)) 1048575).bind fun t102 => (if t102 = true then ((waystoneref07_within.f a0_1 7).bind fun t103 => ((waystoneref07_within.f a0_2 1024).bind fun t104 => (if t104 = true then ((waystoneref07_within.f a0_3 3).bind fun t105 => ((waystoneref07_within.f a0_6 3).bind fun t106 => (if t103 = true then (if t105 = true then (if t106 = true then (if a0_4 ≤ a0_5 then (if a0_3 = 0 then (some true) else (some (a0_6 == 0))) else (some false)) else (some false)) else (some false)) else (some false)))) else ((waystoneref07_within.f a0_6 3).bind fun t107 => (if t103 = true then (some false) else (some false)))))) else ((waystoneref07_within.f a0_2 1024).bind fun t108 => (if t108 = true then ((waystoneref07_within.f a0_3 3).bind fun t109 => ((waystoneref07_within.f a0_6 3).bind fun t110 => (some false))) else ((waystoneref07_within.f a0_6 3).bind fun t111 => (some false)))))
set_option maxHeartbeats 8000000 in
set_option maxRecDepth 100000 in
theorem waystoneref07_Right.calls (a0_0 : Int) (a0_1 : Int) (a0_2 : Int) (a0_3 : Int) (a0_4 : Int) (a0_5 : Int) (a0_6 : Int) (r : Bool) (w : World) (h : waystoneref07_Right.f a0_0 a0_1 a0_2 a0_3 a0_4 a0_5 a0_6 = some r) :
  Calls Tryz.prog 10 #[.agg #[.int .i64 a0_0, .int .i64 a0_1, .int .i64 a0_2, .int .i64 a0_3, .int .u32 a0_4, .int .u32 a0_5, .int .i64 a0_6]] w fun e w' => e = .returned (.bool r) ∧ Below w.heap.size w w' := by
 have hu27 := Tryz.underlying27
 have HB := Aside0.mk (Below.refl w.heap.size w)
 have H : ((waystoneref07_within.f (wrap64 (a0_0 - 1)) 1048575).bind fun t102 => (if t102 = true then ((waystoneref07_within.f a0_1 7).bind fun t103 => ((waystoneref07_within.f a0_2 1024).bind fun t104 => (if t104 = true then ((waystoneref07_within.f a0_3 3).bind fun t105 => ((waystoneref07_within.f a0_6 3).bind fun t106 => (if t103 = true then (if t105 = true then (if t106 = true then (if a0_4 ≤ a0_5 then (if a0_3 = 0 then (some true) else (some (a0_6 == 0))) else (some false)) else (some false)) else (some false)) else (some false)))) else ((waystoneref07_within.f a0_6 3).bind fun t107 => (if t103 = true then (some false) else (some false)))))) else ((waystoneref07_within.f a0_2 1024).bind fun t108 => (if t108 = true then ((waystoneref07_within.f a0_3 3).bind fun t109 => ((waystoneref07_within.f a0_6 3).bind fun t110 => (some false))) else ((waystoneref07_within.f a0_6 3).bind fun t111 => (some false)))))) = some r := h
 clear h
 replace H := Option.bind_eq_some_iff.mp H
 obtain ⟨t102, A20, H⟩ := H
 try dsimp only at H
 have A2 := Aside0.mk A20
 clear A20
 by_cases c3 : t102 = true
 ·subst c3
  rw [if_pos rfl] at H
  replace H := Option.bind_eq_some_iff.mp H
  obtain ⟨t103, A40, H⟩ := H
  try dsimp only at H
  have A4 := Aside0.mk A40
  clear A40
  replace H := Option.bind_eq_some_iff.mp H
  obtain ⟨t104, A50, H⟩ := H
  try dsimp only at H
  have A5 := Aside0.mk A50
  clear A50
  by_cases c6 : t104 = true
  ·subst c6
   rw [if_pos rfl] at H
   replace H := Option.bind_eq_some_iff.mp H
   obtain ⟨t105, A70, H⟩ := H
   try dsimp only at H
   have A7 := Aside0.mk A70
   clear A70
   replace H := Option.bind_eq_some_iff.mp H
   obtain ⟨t106, A80, H⟩ := H
   try dsimp only at H
   have A8 := Aside0.mk A80
   clear A80
   by_cases c9 : t103 = true
   ·subst c9
    rw [if_pos rfl] at H
    by_cases c10 : t105 = true
    ·subst c10
     rw [if_pos rfl] at H
     by_cases c11 : t106 = true
     ·subst c11
      rw [if_pos rfl] at H
      by_cases c12 : a0_4 ≤ a0_5
      ·rw [if_pos c12] at H
       have c12b0 : decide (a0_4 ≤ a0_5) = true := decide_eq_true c12
       clear c12
       by_cases c13 : a0_3 = 0
       ·rw [if_pos c13] at H
        have c13b0 : (a0_3 == 0) = true := beq_iff_eq.mpr c13
        have c13b1 : (a0_3 != 0) = false := bne_eq_false_iff_eq.mpr c13
        clear c13
        obtain rfl := Option.some.inj H
        go_enter Tryz.func10, Tryz.ntmps10
        go_wp2_with (first | ((with_reducible refine gate_dst (N := 1) rfl ?_); refine box_event ?hg (N := 1) ?hd (cs := #[.int .i64 a0_0, .int .i64 a0_1, .int .i64 a0_2, .int .i64 a0_3, .int .u32 a0_4, .int .u32 a0_5, .int .i64 a0_6]) (t := 27) ?hr ?_; (case hd => rfl); (case hg => rfl); (case hr => first | (go_simp; done) | (go_simp; rfl)); intro gb101 hg w14 hbox hb; have n0_ := Aside0.mk (below_step (gB HB.out) hb); have n1_ := Aside0.mk (hbox); have n2_ := Aside0.mk ((by rw [hg]; exact (below_size (gB HB.out)) : w.heap.size ≤ gb101)); have n3_ := Aside0.mk ((by rw [hg]; exact (below_size (gB HB.out)) : w.heap.size ≤ gb101)); clear HB; have HB := n0_; have BK101 := n1_; have GW101 := n2_; have GE101 := n3_; clear n0_ n1_ n2_ n3_; clear hb hbox hg; have hcz15_0 : w14.cell? ⟨gb101, 0, none⟩ = some (.int .i64 a0_0) := (blk_cell BK101.out 0).trans rfl; have hcz15_1 : w14.cell? ⟨gb101, 1, none⟩ = some (.int .i64 a0_1) := (blk_cell BK101.out 1).trans rfl; have hcz15_2 : w14.cell? ⟨gb101, 2, none⟩ = some (.int .i64 a0_2) := (blk_cell BK101.out 2).trans rfl; have hcz15_3 : w14.cell? ⟨gb101, 3, none⟩ = some (.int .i64 a0_3) := (blk_cell BK101.out 3).trans rfl; have hcz15_4 : w14.cell? ⟨gb101, 4, none⟩ = some (.int .u32 a0_4) := (blk_cell BK101.out 4).trans rfl; have hcz15_5 : w14.cell? ⟨gb101, 5, none⟩ = some (.int .u32 a0_5) := (blk_cell BK101.out 5).trans rfl; have hcz15_6 : w14.cell? ⟨gb101, 6, none⟩ = some (.int .i64 a0_6) := (blk_cell BK101.out 6).trans rfl; have hfz15_0 := blk_frozen BK101.out 0; have hfz15_1 := blk_frozen BK101.out 1; have hfz15_2 := blk_frozen BK101.out 2; have hfz15_3 := blk_frozen BK101.out 3; have hfz15_4 := blk_frozen BK101.out 4; have hfz15_5 := blk_frozen BK101.out 5; have hfz15_6 := blk_frozen BK101.out 6) | ((with_reducible refine gate_callee (f := 45) rfl ?_); refine goesL_ (some 9) rfl rfl Tryz.func45 (by kernel_rfl) rfl #[.int .i64 (wrap64 (a0_0 - 1)), .int .i64 1048575] rfl (by (try simp only [mA_, mC_, mN_]); first|done|rfl|(simp only [lD_, lT_]; rfl)) ?_; (with_reducible refine (waystoneref07_within.calls (wrap64 (a0_0 - 1)) 1048575 true _ A2.out).mono ?_); rintro e w' ⟨rfl, ⟨nd, rfl⟩⟩; refine ⟨_, rfl, ?_⟩) | (go_at_call 45; (with_reducible refine (waystoneref07_within.calls a0_1 7 true _ A4.out).mono ?_); rintro e w' ⟨rfl, ⟨nd, rfl⟩⟩) | ((with_reducible refine gate_callee (f := 45) rfl ?_); refine goesL_ (some 17) rfl rfl Tryz.func45 (by kernel_rfl) rfl #[.int .i64 a0_2, .int .i64 1024] rfl (by (try simp only [mA_, mC_, mN_]); first|done|rfl|(simp only [lD_, lT_]; rfl)) ?_; (with_reducible refine (waystoneref07_within.calls a0_2 1024 true _ A5.out).mono ?_); rintro e w' ⟨rfl, ⟨nd, rfl⟩⟩; refine ⟨_, rfl, ?_⟩) | (go_at_call 45; (with_reducible refine (waystoneref07_within.calls a0_3 3 true _ A7.out).mono ?_); rintro e w' ⟨rfl, ⟨nd, rfl⟩⟩) | ((with_reducible refine gate_callee (f := 45) rfl ?_); refine goesL_ (some 25) rfl rfl Tryz.func45 (by kernel_rfl) rfl #[.int .i64 a0_6, .int .i64 3] rfl (by (try simp only [mA_, mC_, mN_]); first|done|rfl|(simp only [lD_, lT_]; rfl)) ?_; (with_reducible refine (waystoneref07_within.calls a0_6 3 true _ A8.out).mono ?_); rintro e w' ⟨rfl, ⟨nd, rfl⟩⟩; refine ⟨_, rfl, ?_⟩))
        go_ret
        exact ⟨by first | rfl | (simp [errW_none, errW_some] <;> rfl) | (simp [*, errW_none, errW_some] <;> rfl), by repeat first|(with_reducible first|exact HB.out|apply ba|apply bd|apply b1|refine bs ?_ GE101.out)|exact HB.out⟩
       ·rw [if_neg c13] at H
        have c13b0 : (a0_3 == 0) = false := beq_eq_false_iff_ne.mpr c13
        have c13b1 : (a0_3 != 0) = true := bne_iff_ne.mpr c13
        obtain rfl := Option.some.inj H
        go_enter Tryz.func10, Tryz.ntmps10
        go_wp2_with (first | ((with_reducible refine gate_dst (N := 1) rfl ?_); refine box_event ?hg (N := 1) ?hd (cs := #[.int .i64 a0_0, .int .i64 a0_1, .int .i64 a0_2, .int .i64 a0_3, .int .u32 a0_4, .int .u32 a0_5, .int .i64 a0_6]) (t := 27) ?hr ?_; (case hd => rfl); (case hg => rfl); (case hr => first | (go_simp; done) | (go_simp; rfl)); intro gb101 hg w16 hbox hb; have n0_ := Aside0.mk (below_step (gB HB.out) hb); have n1_ := Aside0.mk (hbox); have n2_ := Aside0.mk ((by rw [hg]; exact (below_size (gB HB.out)) : w.heap.size ≤ gb101)); have n3_ := Aside0.mk ((by rw [hg]; exact (below_size (gB HB.out)) : w.heap.size ≤ gb101)); clear HB; have HB := n0_; have BK101 := n1_; have GW101 := n2_; have GE101 := n3_; clear n0_ n1_ n2_ n3_; clear hb hbox hg; have hcz17_0 : w16.cell? ⟨gb101, 0, none⟩ = some (.int .i64 a0_0) := (blk_cell BK101.out 0).trans rfl; have hcz17_1 : w16.cell? ⟨gb101, 1, none⟩ = some (.int .i64 a0_1) := (blk_cell BK101.out 1).trans rfl; have hcz17_2 : w16.cell? ⟨gb101, 2, none⟩ = some (.int .i64 a0_2) := (blk_cell BK101.out 2).trans rfl; have hcz17_3 : w16.cell? ⟨gb101, 3, none⟩ = some (.int .i64 a0_3) := (blk_cell BK101.out 3).trans rfl; have hcz17_4 : w16.cell? ⟨gb101, 4, none⟩ = some (.int .u32 a0_4) := (blk_cell BK101.out 4).trans rfl; have hcz17_5 : w16.cell? ⟨gb101, 5, none⟩ = some (.int .u32 a0_5) := (blk_cell BK101.out 5).trans rfl; have hcz17_6 : w16.cell? ⟨gb101, 6, none⟩ = some (.int .i64 a0_6) := (blk_cell BK101.out 6).trans rfl; have hfz17_0 := blk_frozen BK101.out 0; have hfz17_1 := blk_frozen BK101.out 1; have hfz17_2 := blk_frozen BK101.out 2; have hfz17_3 := blk_frozen BK101.out 3; have hfz17_4 := blk_frozen BK101.out 4; have hfz17_5 := blk_frozen BK101.out 5; have hfz17_6 := blk_frozen BK101.out 6) | ((with_reducible refine gate_callee (f := 45) rfl ?_); refine goesL_ (some 9) rfl rfl Tryz.func45 (by kernel_rfl) rfl #[.int .i64 (wrap64 (a0_0 - 1)), .int .i64 1048575] rfl (by (try simp only [mA_, mC_, mN_]); first|done|rfl|(simp only [lD_, lT_]; rfl)) ?_; (with_reducible refine (waystoneref07_within.calls (wrap64 (a0_0 - 1)) 1048575 true _ A2.out).mono ?_); rintro e w' ⟨rfl, ⟨nd, rfl⟩⟩; refine ⟨_, rfl, ?_⟩) | (go_at_call 45; (with_reducible refine (waystoneref07_within.calls a0_1 7 true _ A4.out).mono ?_); rintro e w' ⟨rfl, ⟨nd, rfl⟩⟩) | ((with_reducible refine gate_callee (f := 45) rfl ?_); refine goesL_ (some 17) rfl rfl Tryz.func45 (by kernel_rfl) rfl #[.int .i64 a0_2, .int .i64 1024] rfl (by (try simp only [mA_, mC_, mN_]); first|done|rfl|(simp only [lD_, lT_]; rfl)) ?_; (with_reducible refine (waystoneref07_within.calls a0_2 1024 true _ A5.out).mono ?_); rintro e w' ⟨rfl, ⟨nd, rfl⟩⟩; refine ⟨_, rfl, ?_⟩) | (go_at_call 45; (with_reducible refine (waystoneref07_within.calls a0_3 3 true _ A7.out).mono ?_); rintro e w' ⟨rfl, ⟨nd, rfl⟩⟩) | ((with_reducible refine gate_callee (f := 45) rfl ?_); refine goesL_ (some 25) rfl rfl Tryz.func45 (by kernel_rfl) rfl #[.int .i64 a0_6, .int .i64 3] rfl (by (try simp only [mA_, mC_, mN_]); first|done|rfl|(simp only [lD_, lT_]; rfl)) ?_; (with_reducible refine (waystoneref07_within.calls a0_6 3 true _ A8.out).mono ?_); rintro e w' ⟨rfl, ⟨nd, rfl⟩⟩; refine ⟨_, rfl, ?_⟩))
        go_ret
        exact ⟨by first | rfl | (simp [errW_none, errW_some] <;> rfl) | (simp [*, errW_none, errW_some] <;> rfl), by repeat first|(with_reducible first|exact HB.out|apply ba|apply bd|apply b1|refine bs ?_ GE101.out)|exact HB.out⟩
      ·rw [if_neg c12] at H
       have c12b0 : decide (a0_4 ≤ a0_5) = false := decide_eq_false c12
       clear c12
       obtain rfl := Option.some.inj H
       go_enter Tryz.func10, Tryz.ntmps10
       go_wp2_with (first | ((with_reducible refine gate_dst (N := 1) rfl ?_); refine box_event ?hg (N := 1) ?hd (cs := #[.int .i64 a0_0, .int .i64 a0_1, .int .i64 a0_2, .int .i64 a0_3, .int .u32 a0_4, .int .u32 a0_5, .int .i64 a0_6]) (t := 27) ?hr ?_; (case hd => rfl); (case hg => rfl); (case hr => first | (go_simp; done) | (go_simp; rfl)); intro gb101 hg w18 hbox hb; have n0_ := Aside0.mk (below_step (gB HB.out) hb); have n1_ := Aside0.mk (hbox); have n2_ := Aside0.mk ((by rw [hg]; exact (below_size (gB HB.out)) : w.heap.size ≤ gb101)); have n3_ := Aside0.mk ((by rw [hg]; exact (below_size (gB HB.out)) : w.heap.size ≤ gb101)); clear HB; have HB := n0_; have BK101 := n1_; have GW101 := n2_; have GE101 := n3_; clear n0_ n1_ n2_ n3_; clear hb hbox hg; have hcz19_0 : w18.cell? ⟨gb101, 0, none⟩ = some (.int .i64 a0_0) := (blk_cell BK101.out 0).trans rfl; have hcz19_1 : w18.cell? ⟨gb101, 1, none⟩ = some (.int .i64 a0_1) := (blk_cell BK101.out 1).trans rfl; have hcz19_2 : w18.cell? ⟨gb101, 2, none⟩ = some (.int .i64 a0_2) := (blk_cell BK101.out 2).trans rfl; have hcz19_3 : w18.cell? ⟨gb101, 3, none⟩ = some (.int .i64 a0_3) := (blk_cell BK101.out 3).trans rfl; have hcz19_4 : w18.cell? ⟨gb101, 4, none⟩ = some (.int .u32 a0_4) := (blk_cell BK101.out 4).trans rfl; have hcz19_5 : w18.cell? ⟨gb101, 5, none⟩ = some (.int .u32 a0_5) := (blk_cell BK101.out 5).trans rfl; have hcz19_6 : w18.cell? ⟨gb101, 6, none⟩ = some (.int .i64 a0_6) := (blk_cell BK101.out 6).trans rfl; have hfz19_0 := blk_frozen BK101.out 0; have hfz19_1 := blk_frozen BK101.out 1; have hfz19_2 := blk_frozen BK101.out 2; have hfz19_3 := blk_frozen BK101.out 3; have hfz19_4 := blk_frozen BK101.out 4; have hfz19_5 := blk_frozen BK101.out 5; have hfz19_6 := blk_frozen BK101.out 6) | ((with_reducible refine gate_callee (f := 45) rfl ?_); refine goesL_ (some 9) rfl rfl Tryz.func45 (by kernel_rfl) rfl #[.int .i64 (wrap64 (a0_0 - 1)), .int .i64 1048575] rfl (by (try simp only [mA_, mC_, mN_]); first|done|rfl|(simp only [lD_, lT_]; rfl)) ?_; (with_reducible refine (waystoneref07_within.calls (wrap64 (a0_0 - 1)) 1048575 true _ A2.out).mono ?_); rintro e w' ⟨rfl, ⟨nd, rfl⟩⟩; refine ⟨_, rfl, ?_⟩) | (go_at_call 45; (with_reducible refine (waystoneref07_within.calls a0_1 7 true _ A4.out).mono ?_); rintro e w' ⟨rfl, ⟨nd, rfl⟩⟩) | ((with_reducible refine gate_callee (f := 45) rfl ?_); refine goesL_ (some 17) rfl rfl Tryz.func45 (by kernel_rfl) rfl #[.int .i64 a0_2, .int .i64 1024] rfl (by (try simp only [mA_, mC_, mN_]); first|done|rfl|(simp only [lD_, lT_]; rfl)) ?_; (with_reducible refine (waystoneref07_within.calls a0_2 1024 true _ A5.out).mono ?_); rintro e w' ⟨rfl, ⟨nd, rfl⟩⟩; refine ⟨_, rfl, ?_⟩) | (go_at_call 45; (with_reducible refine (waystoneref07_within.calls a0_3 3 true _ A7.out).mono ?_); rintro e w' ⟨rfl, ⟨nd, rfl⟩⟩) | ((with_reducible refine gate_callee (f := 45) rfl ?_); refine goesL_ (some 25) rfl rfl Tryz.func45 (by kernel_rfl) rfl #[.int .i64 a0_6, .int .i64 3] rfl (by (try simp only [mA_, mC_, mN_]); first|done|rfl|(simp only [lD_, lT_]; rfl)) ?_; (with_reducible refine (waystoneref07_within.calls a0_6 3 true _ A8.out).mono ?_); rintro e w' ⟨rfl, ⟨nd, rfl⟩⟩; refine ⟨_, rfl, ?_⟩))
       go_ret
       exact ⟨by first | rfl | (simp [errW_none, errW_some] <;> rfl) | (simp [*, errW_none, errW_some] <;> rfl), by repeat first|(with_reducible first|exact HB.out|apply ba|apply bd|apply b1|refine bs ?_ GE101.out)|exact HB.out⟩
     ·replace c11 := Bool.eq_false_iff.mpr c11
      subst c11
      rw [if_neg (show ¬ (false = true) by decide)] at H
      obtain rfl := Option.some.inj H
      go_enter Tryz.func10, Tryz.ntmps10
      go_wp2_with (first | ((with_reducible refine gate_dst (N := 1) rfl ?_); refine box_event ?hg (N := 1) ?hd (cs := #[.int .i64 a0_0, .int .i64 a0_1, .int .i64 a0_2, .int .i64 a0_3, .int .u32 a0_4, .int .u32 a0_5, .int .i64 a0_6]) (t := 27) ?hr ?_; (case hd => rfl); (case hg => rfl); (case hr => first | (go_simp; done) | (go_simp; rfl)); intro gb101 hg w20 hbox hb; have n0_ := Aside0.mk (below_step (gB HB.out) hb); have n1_ := Aside0.mk (hbox); have n2_ := Aside0.mk ((by rw [hg]; exact (below_size (gB HB.out)) : w.heap.size ≤ gb101)); have n3_ := Aside0.mk ((by rw [hg]; exact (below_size (gB HB.out)) : w.heap.size ≤ gb101)); clear HB; have HB := n0_; have BK101 := n1_; have GW101 := n2_; have GE101 := n3_; clear n0_ n1_ n2_ n3_; clear hb hbox hg; have hcz21_0 : w20.cell? ⟨gb101, 0, none⟩ = some (.int .i64 a0_0) := (blk_cell BK101.out 0).trans rfl; have hcz21_1 : w20.cell? ⟨gb101, 1, none⟩ = some (.int .i64 a0_1) := (blk_cell BK101.out 1).trans rfl; have hcz21_2 : w20.cell? ⟨gb101, 2, none⟩ = some (.int .i64 a0_2) := (blk_cell BK101.out 2).trans rfl; have hcz21_3 : w20.cell? ⟨gb101, 3, none⟩ = some (.int .i64 a0_3) := (blk_cell BK101.out 3).trans rfl; have hcz21_4 : w20.cell? ⟨gb101, 4, none⟩ = some (.int .u32 a0_4) := (blk_cell BK101.out 4).trans rfl; have hcz21_5 : w20.cell? ⟨gb101, 5, none⟩ = some (.int .u32 a0_5) := (blk_cell BK101.out 5).trans rfl; have hcz21_6 : w20.cell? ⟨gb101, 6, none⟩ = some (.int .i64 a0_6) := (blk_cell BK101.out 6).trans rfl; have hfz21_0 := blk_frozen BK101.out 0; have hfz21_1 := blk_frozen BK101.out 1; have hfz21_2 := blk_frozen BK101.out 2; have hfz21_3 := blk_frozen BK101.out 3; have hfz21_4 := blk_frozen BK101.out 4; have hfz21_5 := blk_frozen BK101.out 5; have hfz21_6 := blk_frozen BK101.out 6) | ((with_reducible refine gate_callee (f := 45) rfl ?_); refine goesL_ (some 9) rfl rfl Tryz.func45 (by kernel_rfl) rfl #[.int .i64 (wrap64 (a0_0 - 1)), .int .i64 1048575] rfl (by (try simp only [mA_, mC_, mN_]); first|done|rfl|(simp only [lD_, lT_]; rfl)) ?_; (with_reducible refine (waystoneref07_within.calls (wrap64 (a0_0 - 1)) 1048575 true _ A2.out).mono ?_); rintro e w' ⟨rfl, ⟨nd, rfl⟩⟩; refine ⟨_, rfl, ?_⟩) | (go_at_call 45; (with_reducible refine (waystoneref07_within.calls a0_1 7 true _ A4.out).mono ?_); rintro e w' ⟨rfl, ⟨nd, rfl⟩⟩) | ((with_reducible refine gate_callee (f := 45) rfl ?_); refine goesL_ (some 17) rfl rfl Tryz.func45 (by kernel_rfl) rfl #[.int .i64 a0_2, .int .i64 1024] rfl (by (try simp only [mA_, mC_, mN_]); first|done|rfl|(simp only [lD_, lT_]; rfl)) ?_; (with_reducible refine (waystoneref07_within.calls a0_2 1024 true _ A5.out).mono ?_); rintro e w' ⟨rfl, ⟨nd, rfl⟩⟩; refine ⟨_, rfl, ?_⟩) | (go_at_call 45; (with_reducible refine (waystoneref07_within.calls a0_3 3 true _ A7.out).mono ?_); rintro e w' ⟨rfl, ⟨nd, rfl⟩⟩) | ((with_reducible refine gate_callee (f := 45) rfl ?_); refine goesL_ (some 25) rfl rfl Tryz.func45 (by kernel_rfl) rfl #[.int .i64 a0_6, .int .i64 3] rfl (by (try simp only [mA_, mC_, mN_]); first|done|rfl|(simp only [lD_, lT_]; rfl)) ?_; (with_reducible refine (waystoneref07_within.calls a0_6 3 false _ A8.out).mono ?_); rintro e w' ⟨rfl, ⟨nd, rfl⟩⟩; refine ⟨_, rfl, ?_⟩))
      go_ret
      exact ⟨by first | rfl | (simp [errW_none, errW_some] <;> rfl) | (simp [*, errW_none, errW_some] <;> rfl), by repeat first|(with_reducible first|exact HB.out|apply ba|apply bd|apply b1|refine bs ?_ GE101.out)|exact HB.out⟩
    ·replace c10 := Bool.eq_false_iff.mpr c10
     subst c10
     rw [if_neg (show ¬ (false = true) by decide)] at H
     obtain rfl := Option.some.inj H
     go_enter Tryz.func10, Tryz.ntmps10
     go_wp2_with (first | ((with_reducible refine gate_dst (N := 1) rfl ?_); refine box_event ?hg (N := 1) ?hd (cs := #[.int .i64 a0_0, .int .i64 a0_1, .int .i64 a0_2, .int .i64 a0_3, .int .u32 a0_4, .int .u32 a0_5, .int .i64 a0_6]) (t := 27) ?hr ?_; (case hd => rfl); (case hg => rfl); (case hr => first | (go_simp; done) | (go_simp; rfl)); intro gb101 hg w22 hbox hb; have n0_ := Aside0.mk (below_step (gB HB.out) hb); have n1_ := Aside0.mk (hbox); have n2_ := Aside0.mk ((by rw [hg]; exact (below_size (gB HB.out)) : w.heap.size ≤ gb101)); have n3_ := Aside0.mk ((by rw [hg]; exact (below_size (gB HB.out)) : w.heap.size ≤ gb101)); clear HB; have HB := n0_; have BK101 := n1_; have GW101 := n2_; have GE101 := n3_; clear n0_ n1_ n2_ n3_; clear hb hbox hg; have hcz23_0 : w22.cell? ⟨gb101, 0, none⟩ = some (.int .i64 a0_0) := (blk_cell BK101.out 0).trans rfl; have hcz23_1 : w22.cell? ⟨gb101, 1, none⟩ = some (.int .i64 a0_1) := (blk_cell BK101.out 1).trans rfl; have hcz23_2 : w22.cell? ⟨gb101, 2, none⟩ = some (.int .i64 a0_2) := (blk_cell BK101.out 2).trans rfl; have hcz23_3 : w22.cell? ⟨gb101, 3, none⟩ = some (.int .i64 a0_3) := (blk_cell BK101.out 3).trans rfl; have hcz23_4 : w22.cell? ⟨gb101, 4, none⟩ = some (.int .u32 a0_4) := (blk_cell BK101.out 4).trans rfl; have hcz23_5 : w22.cell? ⟨gb101, 5, none⟩ = some (.int .u32 a0_5) := (blk_cell BK101.out 5).trans rfl; have hcz23_6 : w22.cell? ⟨gb101, 6, none⟩ = some (.int .i64 a0_6) := (blk_cell BK101.out 6).trans rfl; have hfz23_0 := blk_frozen BK101.out 0; have hfz23_1 := blk_frozen BK101.out 1; have hfz23_2 := blk_frozen BK101.out 2; have hfz23_3 := blk_frozen BK101.out 3; have hfz23_4 := blk_frozen BK101.out 4; have hfz23_5 := blk_frozen BK101.out 5; have hfz23_6 := blk_frozen BK101.out 6) | ((with_reducible refine gate_callee (f := 45) rfl ?_); refine goesL_ (some 9) rfl rfl Tryz.func45 (by kernel_rfl) rfl #[.int .i64 (wrap64 (a0_0 - 1)), .int .i64 1048575] rfl (by (try simp only [mA_, mC_, mN_]); first|done|rfl|(simp only [lD_, lT_]; rfl)) ?_; (with_reducible refine (waystoneref07_within.calls (wrap64 (a0_0 - 1)) 1048575 true _ A2.out).mono ?_); rintro e w' ⟨rfl, ⟨nd, rfl⟩⟩; refine ⟨_, rfl, ?_⟩) | (go_at_call 45; (with_reducible refine (waystoneref07_within.calls a0_1 7 true _ A4.out).mono ?_); rintro e w' ⟨rfl, ⟨nd, rfl⟩⟩) | ((with_reducible refine gate_callee (f := 45) rfl ?_); refine goesL_ (some 17) rfl rfl Tryz.func45 (by kernel_rfl) rfl #[.int .i64 a0_2, .int .i64 1024] rfl (by (try simp only [mA_, mC_, mN_]); first|done|rfl|(simp only [lD_, lT_]; rfl)) ?_; (with_reducible refine (waystoneref07_within.calls a0_2 1024 true _ A5.out).mono ?_); rintro e w' ⟨rfl, ⟨nd, rfl⟩⟩; refine ⟨_, rfl, ?_⟩) | (go_at_call 45; (with_reducible refine (waystoneref07_within.calls a0_3 3 false _ A7.out).mono ?_); rintro e w' ⟨rfl, ⟨nd, rfl⟩⟩) | ((with_reducible refine gate_callee (f := 45) rfl ?_); refine goesL_ (some 25) rfl rfl Tryz.func45 (by kernel_rfl) rfl #[.int .i64 a0_6, .int .i64 3] rfl (by (try simp only [mA_, mC_, mN_]); first|done|rfl|(simp only [lD_, lT_]; rfl)) ?_; (with_reducible refine (waystoneref07_within.calls a0_6 3 t106 _ A8.out).mono ?_); rintro e w' ⟨rfl, ⟨nd, rfl⟩⟩; refine ⟨_, rfl, ?_⟩))
     go_ret
     exact ⟨by first | rfl | (simp [errW_none, errW_some] <;> rfl) | (simp [*, errW_none, errW_some] <;> rfl), by repeat first|(with_reducible first|exact HB.out|apply ba|apply bd|apply b1|refine bs ?_ GE101.out)|exact HB.out⟩
   ·replace c9 := Bool.eq_false_iff.mpr c9
    subst c9
    rw [if_neg (show ¬ (false = true) by decide)] at H
    obtain rfl := Option.some.inj H
    go_enter Tryz.func10, Tryz.ntmps10
    go_wp2_with (first | ((with_reducible refine gate_dst (N := 1) rfl ?_); refine box_event ?hg (N := 1) ?hd (cs := #[.int .i64 a0_0, .int .i64 a0_1, .int .i64 a0_2, .int .i64 a0_3, .int .u32 a0_4, .int .u32 a0_5, .int .i64 a0_6]) (t := 27) ?hr ?_; (case hd => rfl); (case hg => rfl); (case hr => first | (go_simp; done) | (go_simp; rfl)); intro gb101 hg w24 hbox hb; have n0_ := Aside0.mk (below_step (gB HB.out) hb); have n1_ := Aside0.mk (hbox); have n2_ := Aside0.mk ((by rw [hg]; exact (below_size (gB HB.out)) : w.heap.size ≤ gb101)); have n3_ := Aside0.mk ((by rw [hg]; exact (below_size (gB HB.out)) : w.heap.size ≤ gb101)); clear HB; have HB := n0_; have BK101 := n1_; have GW101 := n2_; have GE101 := n3_; clear n0_ n1_ n2_ n3_; clear hb hbox hg; have hcz25_0 : w24.cell? ⟨gb101, 0, none⟩ = some (.int .i64 a0_0) := (blk_cell BK101.out 0).trans rfl; have hcz25_1 : w24.cell? ⟨gb101, 1, none⟩ = some (.int .i64 a0_1) := (blk_cell BK101.out 1).trans rfl; have hcz25_2 : w24.cell? ⟨gb101, 2, none⟩ = some (.int .i64 a0_2) := (blk_cell BK101.out 2).trans rfl; have hcz25_3 : w24.cell? ⟨gb101, 3, none⟩ = some (.int .i64 a0_3) := (blk_cell BK101.out 3).trans rfl; have hcz25_4 : w24.cell? ⟨gb101, 4, none⟩ = some (.int .u32 a0_4) := (blk_cell BK101.out 4).trans rfl; have hcz25_5 : w24.cell? ⟨gb101, 5, none⟩ = some (.int .u32 a0_5) := (blk_cell BK101.out 5).trans rfl; have hcz25_6 : w24.cell? ⟨gb101, 6, none⟩ = some (.int .i64 a0_6) := (blk_cell BK101.out 6).trans rfl; have hfz25_0 := blk_frozen BK101.out 0; have hfz25_1 := blk_frozen BK101.out 1; have hfz25_2 := blk_frozen BK101.out 2; have hfz25_3 := blk_frozen BK101.out 3; have hfz25_4 := blk_frozen BK101.out 4; have hfz25_5 := blk_frozen BK101.out 5; have hfz25_6 := blk_frozen BK101.out 6) | ((with_reducible refine gate_callee (f := 45) rfl ?_); refine goesL_ (some 9) rfl rfl Tryz.func45 (by kernel_rfl) rfl #[.int .i64 (wrap64 (a0_0 - 1)), .int .i64 1048575] rfl (by (try simp only [mA_, mC_, mN_]); first|done|rfl|(simp only [lD_, lT_]; rfl)) ?_; (with_reducible refine (waystoneref07_within.calls (wrap64 (a0_0 - 1)) 1048575 true _ A2.out).mono ?_); rintro e w' ⟨rfl, ⟨nd, rfl⟩⟩; refine ⟨_, rfl, ?_⟩) | (go_at_call 45; (with_reducible refine (waystoneref07_within.calls a0_1 7 false _ A4.out).mono ?_); rintro e w' ⟨rfl, ⟨nd, rfl⟩⟩) | ((with_reducible refine gate_callee (f := 45) rfl ?_); refine goesL_ (some 17) rfl rfl Tryz.func45 (by kernel_rfl) rfl #[.int .i64 a0_2, .int .i64 1024] rfl (by (try simp only [mA_, mC_, mN_]); first|done|rfl|(simp only [lD_, lT_]; rfl)) ?_; (with_reducible refine (waystoneref07_within.calls a0_2 1024 true _ A5.out).mono ?_); rintro e w' ⟨rfl, ⟨nd, rfl⟩⟩; refine ⟨_, rfl, ?_⟩) | (go_at_call 45; (with_reducible refine (waystoneref07_within.calls a0_3 3 t105 _ A7.out).mono ?_); rintro e w' ⟨rfl, ⟨nd, rfl⟩⟩) | ((with_reducible refine gate_callee (f := 45) rfl ?_); refine goesL_ (some 25) rfl rfl Tryz.func45 (by kernel_rfl) rfl #[.int .i64 a0_6, .int .i64 3] rfl (by (try simp only [mA_, mC_, mN_]); first|done|rfl|(simp only [lD_, lT_]; rfl)) ?_; (with_reducible refine (waystoneref07_within.calls a0_6 3 t106 _ A8.out).mono ?_); rintro e w' ⟨rfl, ⟨nd, rfl⟩⟩; refine ⟨_, rfl, ?_⟩))
    go_ret
    exact ⟨by first | rfl | (simp [errW_none, errW_some] <;> rfl) | (simp [*, errW_none, errW_some] <;> rfl), by repeat first|(with_reducible first|exact HB.out|apply ba|apply bd|apply b1|refine bs ?_ GE101.out)|exact HB.out⟩
  ·replace c6 := Bool.eq_false_iff.mpr c6
   subst c6
   rw [if_neg (show ¬ (false = true) by decide)] at H
   replace H := Option.bind_eq_some_iff.mp H
   obtain ⟨t107, A260, H⟩ := H
   try dsimp only at H
   have A26 := Aside0.mk A260
   clear A260
   by_cases c27 : t103 = true
   ·subst c27
    rw [if_pos rfl] at H
    obtain rfl := Option.some.inj H
    go_enter Tryz.func10, Tryz.ntmps10
    go_wp2_with (first | ((with_reducible refine gate_dst (N := 1) rfl ?_); refine box_event ?hg (N := 1) ?hd (cs := #[.int .i64 a0_0, .int .i64 a0_1, .int .i64 a0_2, .int .i64 a0_3, .int .u32 a0_4, .int .u32 a0_5, .int .i64 a0_6]) (t := 27) ?hr ?_; (case hd => rfl); (case hg => rfl); (case hr => first | (go_simp; done) | (go_simp; rfl)); intro gb101 hg w28 hbox hb; have n0_ := Aside0.mk (below_step (gB HB.out) hb); have n1_ := Aside0.mk (hbox); have n2_ := Aside0.mk ((by rw [hg]; exact (below_size (gB HB.out)) : w.heap.size ≤ gb101)); have n3_ := Aside0.mk ((by rw [hg]; exact (below_size (gB HB.out)) : w.heap.size ≤ gb101)); clear HB; have HB := n0_; have BK101 := n1_; have GW101 := n2_; have GE101 := n3_; clear n0_ n1_ n2_ n3_; clear hb hbox hg; have hcz29_0 : w28.cell? ⟨gb101, 0, none⟩ = some (.int .i64 a0_0) := (blk_cell BK101.out 0).trans rfl; have hcz29_1 : w28.cell? ⟨gb101, 1, none⟩ = some (.int .i64 a0_1) := (blk_cell BK101.out 1).trans rfl; have hcz29_2 : w28.cell? ⟨gb101, 2, none⟩ = some (.int .i64 a0_2) := (blk_cell BK101.out 2).trans rfl; have hcz29_3 : w28.cell? ⟨gb101, 3, none⟩ = some (.int .i64 a0_3) := (blk_cell BK101.out 3).trans rfl; have hcz29_4 : w28.cell? ⟨gb101, 4, none⟩ = some (.int .u32 a0_4) := (blk_cell BK101.out 4).trans rfl; have hcz29_5 : w28.cell? ⟨gb101, 5, none⟩ = some (.int .u32 a0_5) := (blk_cell BK101.out 5).trans rfl; have hcz29_6 : w28.cell? ⟨gb101, 6, none⟩ = some (.int .i64 a0_6) := (blk_cell BK101.out 6).trans rfl; have hfz29_0 := blk_frozen BK101.out 0; have hfz29_1 := blk_frozen BK101.out 1; have hfz29_2 := blk_frozen BK101.out 2; have hfz29_3 := blk_frozen BK101.out 3; have hfz29_4 := blk_frozen BK101.out 4; have hfz29_5 := blk_frozen BK101.out 5; have hfz29_6 := blk_frozen BK101.out 6) | ((with_reducible refine gate_callee (f := 45) rfl ?_); refine goesL_ (some 9) rfl rfl Tryz.func45 (by kernel_rfl) rfl #[.int .i64 (wrap64 (a0_0 - 1)), .int .i64 1048575] rfl (by (try simp only [mA_, mC_, mN_]); first|done|rfl|(simp only [lD_, lT_]; rfl)) ?_; (with_reducible refine (waystoneref07_within.calls (wrap64 (a0_0 - 1)) 1048575 true _ A2.out).mono ?_); rintro e w' ⟨rfl, ⟨nd, rfl⟩⟩; refine ⟨_, rfl, ?_⟩) | (go_at_call 45; (with_reducible refine (waystoneref07_within.calls a0_1 7 true _ A4.out).mono ?_); rintro e w' ⟨rfl, ⟨nd, rfl⟩⟩) | ((with_reducible refine gate_callee (f := 45) rfl ?_); refine goesL_ (some 17) rfl rfl Tryz.func45 (by kernel_rfl) rfl #[.int .i64 a0_2, .int .i64 1024] rfl (by (try simp only [mA_, mC_, mN_]); first|done|rfl|(simp only [lD_, lT_]; rfl)) ?_; (with_reducible refine (waystoneref07_within.calls a0_2 1024 false _ A5.out).mono ?_); rintro e w' ⟨rfl, ⟨nd, rfl⟩⟩; refine ⟨_, rfl, ?_⟩) | ((with_reducible refine gate_callee (f := 45) rfl ?_); refine goesL_ (some 25) rfl rfl Tryz.func45 (by kernel_rfl) rfl #[.int .i64 a0_6, .int .i64 3] rfl (by (try simp only [mA_, mC_, mN_]); first|done|rfl|(simp only [lD_, lT_]; rfl)) ?_; (with_reducible refine (waystoneref07_within.calls a0_6 3 t107 _ A26.out).mono ?_); rintro e w' ⟨rfl, ⟨nd, rfl⟩⟩; refine ⟨_, rfl, ?_⟩))
    go_ret
    exact ⟨by first | rfl | (simp [errW_none, errW_some] <;> rfl) | (simp [*, errW_none, errW_some] <;> rfl), by repeat first|(with_reducible first|exact HB.out|apply ba|apply bd|apply b1|refine bs ?_ GE101.out)|exact HB.out⟩
   ·replace c27 := Bool.eq_false_iff.mpr c27
    subst c27
    rw [if_neg (show ¬ (false = true) by decide)] at H
    obtain rfl := Option.some.inj H
    go_enter Tryz.func10, Tryz.ntmps10
    go_wp2_with (first | ((with_reducible refine gate_dst (N := 1) rfl ?_); refine box_event ?hg (N := 1) ?hd (cs := #[.int .i64 a0_0, .int .i64 a0_1, .int .i64 a0_2, .int .i64 a0_3, .int .u32 a0_4, .int .u32 a0_5, .int .i64 a0_6]) (t := 27) ?hr ?_; (case hd => rfl); (case hg => rfl); (case hr => first | (go_simp; done) | (go_simp; rfl)); intro gb101 hg w30 hbox hb; have n0_ := Aside0.mk (below_step (gB HB.out) hb); have n1_ := Aside0.mk (hbox); have n2_ := Aside0.mk ((by rw [hg]; exact (below_size (gB HB.out)) : w.heap.size ≤ gb101)); have n3_ := Aside0.mk ((by rw [hg]; exact (below_size (gB HB.out)) : w.heap.size ≤ gb101)); clear HB; have HB := n0_; have BK101 := n1_; have GW101 := n2_; have GE101 := n3_; clear n0_ n1_ n2_ n3_; clear hb hbox hg; have hcz31_0 : w30.cell? ⟨gb101, 0, none⟩ = some (.int .i64 a0_0) := (blk_cell BK101.out 0).trans rfl; have hcz31_1 : w30.cell? ⟨gb101, 1, none⟩ = some (.int .i64 a0_1) := (blk_cell BK101.out 1).trans rfl; have hcz31_2 : w30.cell? ⟨gb101, 2, none⟩ = some (.int .i64 a0_2) := (blk_cell BK101.out 2).trans rfl; have hcz31_3 : w30.cell? ⟨gb101, 3, none⟩ = some (.int .i64 a0_3) := (blk_cell BK101.out 3).trans rfl; have hcz31_4 : w30.cell? ⟨gb101, 4, none⟩ = some (.int .u32 a0_4) := (blk_cell BK101.out 4).trans rfl; have hcz31_5 : w30.cell? ⟨gb101, 5, none⟩ = some (.int .u32 a0_5) := (blk_cell BK101.out 5).trans rfl; have hcz31_6 : w30.cell? ⟨gb101, 6, none⟩ = some (.int .i64 a0_6) := (blk_cell BK101.out 6).trans rfl; have hfz31_0 := blk_frozen BK101.out 0; have hfz31_1 := blk_frozen BK101.out 1; have hfz31_2 := blk_frozen BK101.out 2; have hfz31_3 := blk_frozen BK101.out 3; have hfz31_4 := blk_frozen BK101.out 4; have hfz31_5 := blk_frozen BK101.out 5; have hfz31_6 := blk_frozen BK101.out 6) | ((with_reducible refine gate_callee (f := 45) rfl ?_); refine goesL_ (some 9) rfl rfl Tryz.func45 (by kernel_rfl) rfl #[.int .i64 (wrap64 (a0_0 - 1)), .int .i64 1048575] rfl (by (try simp only [mA_, mC_, mN_]); first|done|rfl|(simp only [lD_, lT_]; rfl)) ?_; (with_reducible refine (waystoneref07_within.calls (wrap64 (a0_0 - 1)) 1048575 true _ A2.out).mono ?_); rintro e w' ⟨rfl, ⟨nd, rfl⟩⟩; refine ⟨_, rfl, ?_⟩) | (go_at_call 45; (with_reducible refine (waystoneref07_within.calls a0_1 7 false _ A4.out).mono ?_); rintro e w' ⟨rfl, ⟨nd, rfl⟩⟩) | ((with_reducible refine gate_callee (f := 45) rfl ?_); refine goesL_ (some 17) rfl rfl Tryz.func45 (by kernel_rfl) rfl #[.int .i64 a0_2, .int .i64 1024] rfl (by (try simp only [mA_, mC_, mN_]); first|done|rfl|(simp only [lD_, lT_]; rfl)) ?_; (with_reducible refine (waystoneref07_within.calls a0_2 1024 false _ A5.out).mono ?_); rintro e w' ⟨rfl, ⟨nd, rfl⟩⟩; refine ⟨_, rfl, ?_⟩) | ((with_reducible refine gate_callee (f := 45) rfl ?_); refine goesL_ (some 25) rfl rfl Tryz.func45 (by kernel_rfl) rfl #[.int .i64 a0_6, .int .i64 3] rfl (by (try simp only [mA_, mC_, mN_]); first|done|rfl|(simp only [lD_, lT_]; rfl)) ?_; (with_reducible refine (waystoneref07_within.calls a0_6 3 t107 _ A26.out).mono ?_); rintro e w' ⟨rfl, ⟨nd, rfl⟩⟩; refine ⟨_, rfl, ?_⟩))
    go_ret
    exact ⟨by first | rfl | (simp [errW_none, errW_some] <;> rfl) | (simp [*, errW_none, errW_some] <;> rfl), by repeat first|(with_reducible first|exact HB.out|apply ba|apply bd|apply b1|refine bs ?_ GE101.out)|exact HB.out⟩
 ·replace c3 := Bool.eq_false_iff.mpr c3
  subst c3
  rw [if_neg (show ¬ (false = true) by decide)] at H
  replace H := Option.bind_eq_some_iff.mp H
  obtain ⟨t108, A320, H⟩ := H
  try dsimp only at H
  have A32 := Aside0.mk A320
  clear A320
  by_cases c33 : t108 = true
  ·subst c33
   rw [if_pos rfl] at H
   replace H := Option.bind_eq_some_iff.mp H
   obtain ⟨t109, A340, H⟩ := H
   try dsimp only at H
   have A34 := Aside0.mk A340
   clear A340
   replace H := Option.bind_eq_some_iff.mp H
   obtain ⟨t110, A350, H⟩ := H
   try dsimp only at H
   have A35 := Aside0.mk A350
   clear A350
   obtain rfl := Option.some.inj H
   go_enter Tryz.func10, Tryz.ntmps10
   go_wp2_with (first | ((with_reducible refine gate_dst (N := 1) rfl ?_); refine box_event ?hg (N := 1) ?hd (cs := #[.int .i64 a0_0, .int .i64 a0_1, .int .i64 a0_2, .int .i64 a0_3, .int .u32 a0_4, .int .u32 a0_5, .int .i64 a0_6]) (t := 27) ?hr ?_; (case hd => rfl); (case hg => rfl); (case hr => first | (go_simp; done) | (go_simp; rfl)); intro gb101 hg w36 hbox hb; have n0_ := Aside0.mk (below_step (gB HB.out) hb); have n1_ := Aside0.mk (hbox); have n2_ := Aside0.mk ((by rw [hg]; exact (below_size (gB HB.out)) : w.heap.size ≤ gb101)); have n3_ := Aside0.mk ((by rw [hg]; exact (below_size (gB HB.out)) : w.heap.size ≤ gb101)); clear HB; have HB := n0_; have BK101 := n1_; have GW101 := n2_; have GE101 := n3_; clear n0_ n1_ n2_ n3_; clear hb hbox hg; have hcz37_0 : w36.cell? ⟨gb101, 0, none⟩ = some (.int .i64 a0_0) := (blk_cell BK101.out 0).trans rfl; have hcz37_1 : w36.cell? ⟨gb101, 1, none⟩ = some (.int .i64 a0_1) := (blk_cell BK101.out 1).trans rfl; have hcz37_2 : w36.cell? ⟨gb101, 2, none⟩ = some (.int .i64 a0_2) := (blk_cell BK101.out 2).trans rfl; have hcz37_3 : w36.cell? ⟨gb101, 3, none⟩ = some (.int .i64 a0_3) := (blk_cell BK101.out 3).trans rfl; have hcz37_4 : w36.cell? ⟨gb101, 4, none⟩ = some (.int .u32 a0_4) := (blk_cell BK101.out 4).trans rfl; have hcz37_5 : w36.cell? ⟨gb101, 5, none⟩ = some (.int .u32 a0_5) := (blk_cell BK101.out 5).trans rfl; have hcz37_6 : w36.cell? ⟨gb101, 6, none⟩ = some (.int .i64 a0_6) := (blk_cell BK101.out 6).trans rfl; have hfz37_0 := blk_frozen BK101.out 0; have hfz37_1 := blk_frozen BK101.out 1; have hfz37_2 := blk_frozen BK101.out 2; have hfz37_3 := blk_frozen BK101.out 3; have hfz37_4 := blk_frozen BK101.out 4; have hfz37_5 := blk_frozen BK101.out 5; have hfz37_6 := blk_frozen BK101.out 6) | ((with_reducible refine gate_callee (f := 45) rfl ?_); refine goesL_ (some 9) rfl rfl Tryz.func45 (by kernel_rfl) rfl #[.int .i64 (wrap64 (a0_0 - 1)), .int .i64 1048575] rfl (by (try simp only [mA_, mC_, mN_]); first|done|rfl|(simp only [lD_, lT_]; rfl)) ?_; (with_reducible refine (waystoneref07_within.calls (wrap64 (a0_0 - 1)) 1048575 false _ A2.out).mono ?_); rintro e w' ⟨rfl, ⟨nd, rfl⟩⟩; refine ⟨_, rfl, ?_⟩) | ((with_reducible refine gate_callee (f := 45) rfl ?_); refine goesL_ (some 17) rfl rfl Tryz.func45 (by kernel_rfl) rfl #[.int .i64 a0_2, .int .i64 1024] rfl (by (try simp only [mA_, mC_, mN_]); first|done|rfl|(simp only [lD_, lT_]; rfl)) ?_; (with_reducible refine (waystoneref07_within.calls a0_2 1024 true _ A32.out).mono ?_); rintro e w' ⟨rfl, ⟨nd, rfl⟩⟩; refine ⟨_, rfl, ?_⟩) | (go_at_call 45; (with_reducible refine (waystoneref07_within.calls a0_3 3 t109 _ A34.out).mono ?_); rintro e w' ⟨rfl, ⟨nd, rfl⟩⟩) | ((with_reducible refine gate_callee (f := 45) rfl ?_); refine goesL_ (some 25) rfl rfl Tryz.func45 (by kernel_rfl) rfl #[.int .i64 a0_6, .int .i64 3] rfl (by (try simp only [mA_, mC_, mN_]); first|done|rfl|(simp only [lD_, lT_]; rfl)) ?_; (with_reducible refine (waystoneref07_within.calls a0_6 3 t110 _ A35.out).mono ?_); rintro e w' ⟨rfl, ⟨nd, rfl⟩⟩; refine ⟨_, rfl, ?_⟩))
   go_ret
   exact ⟨by first | rfl | (simp [errW_none, errW_some] <;> rfl) | (simp [*, errW_none, errW_some] <;> rfl), by repeat first|(with_reducible first|exact HB.out|apply ba|apply bd|apply b1|refine bs ?_ GE101.out)|exact HB.out⟩
  ·replace c33 := Bool.eq_false_iff.mpr c33
   subst c33
   rw [if_neg (show ¬ (false = true) by decide)] at H
   replace H := Option.bind_eq_some_iff.mp H
   obtain ⟨t111, A380, H⟩ := H
   try dsimp only at H
   have A38 := Aside0.mk A380
   clear A380
   obtain rfl := Option.some.inj H
   go_enter Tryz.func10, Tryz.ntmps10
   go_wp2_with (first | ((with_reducible refine gate_dst (N := 1) rfl ?_); refine box_event ?hg (N := 1) ?hd (cs := #[.int .i64 a0_0, .int .i64 a0_1, .int .i64 a0_2, .int .i64 a0_3, .int .u32 a0_4, .int .u32 a0_5, .int .i64 a0_6]) (t := 27) ?hr ?_; (case hd => rfl); (case hg => rfl); (case hr => first | (go_simp; done) | (go_simp; rfl)); intro gb101 hg w39 hbox hb; have n0_ := Aside0.mk (below_step (gB HB.out) hb); have n1_ := Aside0.mk (hbox); have n2_ := Aside0.mk ((by rw [hg]; exact (below_size (gB HB.out)) : w.heap.size ≤ gb101)); have n3_ := Aside0.mk ((by rw [hg]; exact (below_size (gB HB.out)) : w.heap.size ≤ gb101)); clear HB; have HB := n0_; have BK101 := n1_; have GW101 := n2_; have GE101 := n3_; clear n0_ n1_ n2_ n3_; clear hb hbox hg; have hcz40_0 : w39.cell? ⟨gb101, 0, none⟩ = some (.int .i64 a0_0) := (blk_cell BK101.out 0).trans rfl; have hcz40_1 : w39.cell? ⟨gb101, 1, none⟩ = some (.int .i64 a0_1) := (blk_cell BK101.out 1).trans rfl; have hcz40_2 : w39.cell? ⟨gb101, 2, none⟩ = some (.int .i64 a0_2) := (blk_cell BK101.out 2).trans rfl; have hcz40_3 : w39.cell? ⟨gb101, 3, none⟩ = some (.int .i64 a0_3) := (blk_cell BK101.out 3).trans rfl; have hcz40_4 : w39.cell? ⟨gb101, 4, none⟩ = some (.int .u32 a0_4) := (blk_cell BK101.out 4).trans rfl; have hcz40_5 : w39.cell? ⟨gb101, 5, none⟩ = some (.int .u32 a0_5) := (blk_cell BK101.out 5).trans rfl; have hcz40_6 : w39.cell? ⟨gb101, 6, none⟩ = some (.int .i64 a0_6) := (blk_cell BK101.out 6).trans rfl; have hfz40_0 := blk_frozen BK101.out 0; have hfz40_1 := blk_frozen BK101.out 1; have hfz40_2 := blk_frozen BK101.out 2; have hfz40_3 := blk_frozen BK101.out 3; have hfz40_4 := blk_frozen BK101.out 4; have hfz40_5 := blk_frozen BK101.out 5; have hfz40_6 := blk_frozen BK101.out 6) | ((with_reducible refine gate_callee (f := 45) rfl ?_); refine goesL_ (some 9) rfl rfl Tryz.func45 (by kernel_rfl) rfl #[.int .i64 (wrap64 (a0_0 - 1)), .int .i64 1048575] rfl (by (try simp only [mA_, mC_, mN_]); first|done|rfl|(simp only [lD_, lT_]; rfl)) ?_; (with_reducible refine (waystoneref07_within.calls (wrap64 (a0_0 - 1)) 1048575 false _ A2.out).mono ?_); rintro e w' ⟨rfl, ⟨nd, rfl⟩⟩; refine ⟨_, rfl, ?_⟩) | ((with_reducible refine gate_callee (f := 45) rfl ?_); refine goesL_ (some 17) rfl rfl Tryz.func45 (by kernel_rfl) rfl #[.int .i64 a0_2, .int .i64 1024] rfl (by (try simp only [mA_, mC_, mN_]); first|done|rfl|(simp only [lD_, lT_]; rfl)) ?_; (with_reducible refine (waystoneref07_within.calls a0_2 1024 false _ A32.out).mono ?_); rintro e w' ⟨rfl, ⟨nd, rfl⟩⟩; refine ⟨_, rfl, ?_⟩) | ((with_reducible refine gate_callee (f := 45) rfl ?_); refine goesL_ (some 25) rfl rfl Tryz.func45 (by kernel_rfl) rfl #[.int .i64 a0_6, .int .i64 3] rfl (by (try simp only [mA_, mC_, mN_]); first|done|rfl|(simp only [lD_, lT_]; rfl)) ?_; (with_reducible refine (waystoneref07_within.calls a0_6 3 t111 _ A38.out).mono ?_); rintro e w' ⟨rfl, ⟨nd, rfl⟩⟩; refine ⟨_, rfl, ?_⟩))
   go_ret
   exact ⟨by first | rfl | (simp [errW_none, errW_some] <;> rfl) | (simp [*, errW_none, errW_some] <;> rfl), by repeat first|(with_reducible first|exact HB.out|apply ba|apply bd|apply b1|refine bs ?_ GE101.out)|exact HB.out⟩
end Go.Proofs.YtfjamikpahmfhaaGreatDoor.P
end
section
set_option linter.unusedSimpArgs false
set_option linter.unusedVariables false
namespace Go.Proofs.YtfjamikpahmfhaaGreatDoor.P
open Go.RowKit Go.Proofs.YtfjamikpahmfhaaGreatDoor.T Go.Proofs.YtfjamikpahmfhaaGreatDoorW.PrintWords Go.Proofs.YtfjamikpahmfhaaGreatDoorW.PrintLast Go.Proofs.YtfjamikpahmfhaaGreatDoorW.PrintMore
theorem refWithin_f (a c : Int) : waystoneref07_within.f a c = some (decide (0 ≤ a ∧ a ≤ c)) := by
  unfold waystoneref07_within.f
  by_cases h1 : 0 ≤ a
  · rw [if_pos h1]; simp [h1]
  · rw [if_neg h1]; simp [h1]
theorem refRight_f (x : Rl) (h0 : -9223372036854775808 ≤ x.f0 ∧ x.f0 ≤ 9223372036854775807) : waystoneref07_Right.f x.f0 x.f1 x.f2 x.f3 x.f4.f0 x.f4.f1 x.f5 = some (rightB x) := by
  have hw : decide (0 ≤ wrap64 (x.f0 - 1) ∧ wrap64 (x.f0 - 1) ≤ 1048575) = decide (1 ≤ x.f0 ∧ x.f0 ≤ 1048576) := by
    congr 1
    apply propext
    unfold wrap64
    omega
  unfold waystoneref07_Right.f rightB
  simp only [refWithin_f, Option.bind_some, hw]
  cases h1 : decide (1 ≤ x.f0 ∧ x.f0 ≤ 1048576) <;> cases h2 : decide (0 ≤ x.f1 ∧ x.f1 ≤ 7) <;> cases h3 : decide (0 ≤ x.f2 ∧ x.f2 ≤ 1024) <;> cases h4 : decide (0 ≤ x.f3 ∧ x.f3 ≤ 3) <;> cases h5 : decide (0 ≤ x.f5 ∧ x.f5 ≤ 3) <;> by_cases h6 : x.f3 = 0 <;> by_cases h7 : x.f5 = 0 <;> by_cases h8 : x.f4.f0 ≤ x.f4.f1 <;> simp [h6, h7, h8]
end Go.Proofs.YtfjamikpahmfhaaGreatDoor.P
end
section
open List renaming map_toArray → mA_, map_cons → mC_, map_nil → mN_, length_drop → lD_, length_take → lT_, setIfInBounds_toArray → sI_, set_cons_zero → z0_, set_cons_succ → z1_
namespace Go.Proofs.YtfjamikpahmfhaaGreatDoor.P
open Go.RowKit Go.Proofs.YtfjamikpahmfhaaGreatDoorW.PrintWords Go.Proofs.YtfjamikpahmfhaaGreatDoorW.PrintLast Go.Proofs.YtfjamikpahmfhaaGreatDoorW.PrintMore
attribute [local go_sem] max2_int min2_int max_two min_two max_three min_three max_four min_four
set_option linter.unusedVariables false
set_option linter.unusedSimpArgs false
def waystoneref07_Digits.l0 : Nat → Int → ByteArray → Option (ByteArray)
 | 0, _, _ => none
 | k + 1, x0, x3 => if x3.toList = ([] : List UInt8) then (if 0 ≤ (Int.tmod x0 10) then (if (Int.tmod x0 10) ≤ (wrap64 ((Int.tmod x0 10) + 1)) then (if (wrap64 ((Int.tmod x0 10) + 1)) ≤ 10 then (if ((⟨#[48, 49, 50, 51, 52, 53, 54, 55, 56, 57]⟩ : ByteArray).extract ((Int.tmod x0 10) : Int).toNat ((wrap64 ((Int.tmod x0 10) + 1)) : Int).toNat).size + x3.size ≤ 9223372036854775807 then (waystoneref07_Digits.l0 k (wrap64 (Int.tdiv x0 10)) (((⟨#[48, 49, 50, 51, 52, 53, 54, 55, 56, 57]⟩ : ByteArray).extract ((Int.tmod x0 10) : Int).toNat ((wrap64 ((Int.tmod x0 10) + 1)) : Int).toNat) ++ x3)) else (none)) else (none)) else (none)) else (none)) else (if x0 > 0 then (if 0 ≤ (Int.tmod x0 10) then (if (Int.tmod x0 10) ≤ (wrap64 ((Int.tmod x0 10) + 1)) then (if (wrap64 ((Int.tmod x0 10) + 1)) ≤ 10 then (if ((⟨#[48, 49, 50, 51, 52, 53, 54, 55, 56, 57]⟩ : ByteArray).extract ((Int.tmod x0 10) : Int).toNat ((wrap64 ((Int.tmod x0 10) + 1)) : Int).toNat).size + x3.size ≤ 9223372036854775807 then (waystoneref07_Digits.l0 k (wrap64 (Int.tdiv x0 10)) (((⟨#[48, 49, 50, 51, 52, 53, 54, 55, 56, 57]⟩ : ByteArray).extract ((Int.tmod x0 10) : Int).toNat ((wrap64 ((Int.tmod x0 10) + 1)) : Int).toNat) ++ x3)) else (none)) else (none)) else (none)) else (none)) else (some x3))
def waystoneref07_Digits.f (k : Nat) (a0 : Int) : Option (ByteArray) := waystoneref07_Digits.l0 k a0 (⟨#[]⟩ : ByteArray)
set_option maxHeartbeats 8000000 in
set_option maxRecDepth 100000 in
theorem waystoneref07_Digits.calls (k : Nat) (a0 : Int) (r : ByteArray) (w : World) (h : waystoneref07_Digits.f k a0 = some r) :
  Calls Tryz.prog 51 #[.int .i64 a0] w fun e w' => e = .returned (.string r) ∧ Drawn0 w w' := by
 have H : (waystoneref07_Digits.l0 k a0 (⟨#[]⟩ : ByteArray)) = some r := h
 clear h
 have H' := Aside0.mk H
 clear H
 go_enter Tryz.func51, Tryz.ntmps51
 go_wp2
 go_loopg [0, 3] k (fun kq v0 v3 w' => ∃ (x0_1 : Int) (x3_1 : ByteArray), v0 = .int .i64 x0_1 ∧ v3 = .string x3_1 ∧ Aside0 (waystoneref07_Digits.l0 kq x0_1 x3_1 = some r) ∧ Aside0 (kq ≤ k) ∧ Drawn0 w w')
 case atStart => exact ⟨(a0), ((⟨#[]⟩ : ByteArray)), (by first | rfl | (simp; done) | (simp [*]; done)), (by first | rfl | (simp; done) | (simp [*]; done)), H', ⟨Nat.le_refl _⟩, by repeat (first | exact Drawn0.refl _ | apply Drawn0.step)⟩
 case round =>
  clear H'
  obtain ⟨x0_1, x3_1, rfl, rfl, HA, HK1, ⟨m1, rfl⟩⟩ := hrel
  cases gk with
  | zero => exact absurd HA.out (by simp [waystoneref07_Digits.l0])
  | succ k1 =>
   have H := HA.out
   clear HA
   simp only [waystoneref07_Digits.l0] at H
   by_cases c2 : x3_1.toList = ([] : List UInt8)
   ·rw [if_pos c2] at H
    have c2b0 : (x3_1.toList == ([] : List UInt8)) = true := beq_iff_eq.mpr c2
    have c2b1 : (x3_1.toList != ([] : List UInt8)) = false := bne_eq_false_iff_eq.mpr c2
    clear c2
    obtain ⟨ji3, hji3⟩ : ∃ j_ : Int, (Int.tmod x0_1 10) = j_ := ⟨_, rfl⟩
    replace H : (if 0 ≤ (ji3) then (if (ji3) ≤ (wrap64 ((ji3) + 1)) then (if (wrap64 ((ji3) + 1)) ≤ 10 then (if ((⟨#[48, 49, 50, 51, 52, 53, 54, 55, 56, 57]⟩ : ByteArray).extract ((ji3) : Int).toNat ((wrap64 ((ji3) + 1)) : Int).toNat).size + x3_1.size ≤ 9223372036854775807 then (waystoneref07_Digits.l0 k1 (wrap64 (Int.tdiv x0_1 10)) (((⟨#[48, 49, 50, 51, 52, 53, 54, 55, 56, 57]⟩ : ByteArray).extract ((ji3) : Int).toNat ((wrap64 ((ji3) + 1)) : Int).toNat) ++ x3_1)) else (none)) else (none)) else (none)) else (none)) = some r := by first | (rw [hji3] at H; exact H) | (simp only [hji3] at H ⊢; exact H)
    by_cases c4 : 0 ≤ (ji3)
    ·rw [if_pos c4] at H
     have c4b0 := eq_true c4
     have c4b1 : decide (0 ≤ (ji3)) = true := decide_eq_true c4
     clear c4
     by_cases c5 : (ji3) ≤ (wrap64 ((ji3) + 1))
     ·rw [if_pos c5] at H
      have c5b0 := eq_true c5
      have c5b1 : decide ((ji3) ≤ (wrap64 ((ji3) + 1))) = true := decide_eq_true c5
      by_cases c6 : (wrap64 ((ji3) + 1)) ≤ 10
      ·rw [if_pos c6] at H
       have c6b0 := eq_true c6
       have c6b1 : decide ((wrap64 ((ji3) + 1)) ≤ 10) = true := decide_eq_true c6
       by_cases c7 : ((⟨#[48, 49, 50, 51, 52, 53, 54, 55, 56, 57]⟩ : ByteArray).extract ((ji3) : Int).toNat ((wrap64 ((ji3) + 1)) : Int).toNat).size + x3_1.size ≤ 9223372036854775807
       ·rw [if_pos c7] at H
        have c7b0 := eq_true c7
        have c7b1 : decide (((⟨#[48, 49, 50, 51, 52, 53, 54, 55, 56, 57]⟩ : ByteArray).extract ((ji3) : Int).toNat ((wrap64 ((ji3) + 1)) : Int).toNat).size + x3_1.size ≤ 9223372036854775807) = true := decide_eq_true c7
        try have c7b2 : (9223372036854775807 < ((⟨#[48, 49, 50, 51, 52, 53, 54, 55, 56, 57]⟩ : ByteArray).extract ((ji3) : Int).toNat ((wrap64 ((ji3) + 1)) : Int).toNat).size + x3_1.size) = False := eq_false (Nat.not_lt.2 c7)
        have H' := Aside0.mk H
        clear H
        go_wp2
        go_roundg k1
        case measure => have := HK1.out; omega
        case rel => exact ⟨(wrap64 (Int.tdiv x0_1 10)), (((⟨#[48, 49, 50, 51, 52, 53, 54, 55, 56, 57]⟩ : ByteArray).extract ((ji3) : Int).toNat ((wrap64 ((ji3) + 1)) : Int).toNat) ++ x3_1), (by first | rfl | (simp; done) | (simp [*]; done)), (by first | rfl | (simp; done) | (simp only [← hji3] <;> (first | rfl | simp)) | (simp [*]; done)), H', ⟨by have := HK1.out; omega⟩, by repeat (first | exact Drawn0.refl _ | apply Drawn0.step)⟩
       ·rw [if_neg c7] at H
        exact absurd H (by simp)
      ·rw [if_neg c6] at H
       exact absurd H (by simp)
     ·rw [if_neg c5] at H
      exact absurd H (by simp)
    ·rw [if_neg c4] at H
     exact absurd H (by simp)
   ·rw [if_neg c2] at H
    have c2b0 : (x3_1.toList == ([] : List UInt8)) = false := beq_eq_false_iff_ne.mpr c2
    have c2b1 : (x3_1.toList != ([] : List UInt8)) = true := bne_iff_ne.mpr c2
    by_cases c8 : x0_1 > 0
    ·rw [if_pos c8] at H
     have c8b0 : decide (0 < x0_1) = true := decide_eq_true c8
     clear c8
     obtain ⟨ji9, hji9⟩ : ∃ j_ : Int, (Int.tmod x0_1 10) = j_ := ⟨_, rfl⟩
     replace H : (if 0 ≤ (ji9) then (if (ji9) ≤ (wrap64 ((ji9) + 1)) then (if (wrap64 ((ji9) + 1)) ≤ 10 then (if ((⟨#[48, 49, 50, 51, 52, 53, 54, 55, 56, 57]⟩ : ByteArray).extract ((ji9) : Int).toNat ((wrap64 ((ji9) + 1)) : Int).toNat).size + x3_1.size ≤ 9223372036854775807 then (waystoneref07_Digits.l0 k1 (wrap64 (Int.tdiv x0_1 10)) (((⟨#[48, 49, 50, 51, 52, 53, 54, 55, 56, 57]⟩ : ByteArray).extract ((ji9) : Int).toNat ((wrap64 ((ji9) + 1)) : Int).toNat) ++ x3_1)) else (none)) else (none)) else (none)) else (none)) = some r := by first | (rw [hji9] at H; exact H) | (simp only [hji9] at H ⊢; exact H)
     by_cases c10 : 0 ≤ (ji9)
     ·rw [if_pos c10] at H
      have c10b0 := eq_true c10
      have c10b1 : decide (0 ≤ (ji9)) = true := decide_eq_true c10
      clear c10
      by_cases c11 : (ji9) ≤ (wrap64 ((ji9) + 1))
      ·rw [if_pos c11] at H
       have c11b0 := eq_true c11
       have c11b1 : decide ((ji9) ≤ (wrap64 ((ji9) + 1))) = true := decide_eq_true c11
       by_cases c12 : (wrap64 ((ji9) + 1)) ≤ 10
       ·rw [if_pos c12] at H
        have c12b0 := eq_true c12
        have c12b1 : decide ((wrap64 ((ji9) + 1)) ≤ 10) = true := decide_eq_true c12
        by_cases c13 : ((⟨#[48, 49, 50, 51, 52, 53, 54, 55, 56, 57]⟩ : ByteArray).extract ((ji9) : Int).toNat ((wrap64 ((ji9) + 1)) : Int).toNat).size + x3_1.size ≤ 9223372036854775807
        ·rw [if_pos c13] at H
         have c13b0 := eq_true c13
         have c13b1 : decide (((⟨#[48, 49, 50, 51, 52, 53, 54, 55, 56, 57]⟩ : ByteArray).extract ((ji9) : Int).toNat ((wrap64 ((ji9) + 1)) : Int).toNat).size + x3_1.size ≤ 9223372036854775807) = true := decide_eq_true c13
         try have c13b2 : (9223372036854775807 < ((⟨#[48, 49, 50, 51, 52, 53, 54, 55, 56, 57]⟩ : ByteArray).extract ((ji9) : Int).toNat ((wrap64 ((ji9) + 1)) : Int).toNat).size + x3_1.size) = False := eq_false (Nat.not_lt.2 c13)
         have H' := Aside0.mk H
         clear H
         go_wp2
         go_roundg k1
         case measure => have := HK1.out; omega
         case rel => exact ⟨(wrap64 (Int.tdiv x0_1 10)), (((⟨#[48, 49, 50, 51, 52, 53, 54, 55, 56, 57]⟩ : ByteArray).extract ((ji9) : Int).toNat ((wrap64 ((ji9) + 1)) : Int).toNat) ++ x3_1), (by first | rfl | (simp; done) | (simp [*]; done)), (by first | rfl | (simp; done) | (simp only [← hji9] <;> (first | rfl | simp)) | (simp [*]; done)), H', ⟨by have := HK1.out; omega⟩, by repeat (first | exact Drawn0.refl _ | apply Drawn0.step)⟩
        ·rw [if_neg c13] at H
         exact absurd H (by simp)
       ·rw [if_neg c12] at H
        exact absurd H (by simp)
      ·rw [if_neg c11] at H
       exact absurd H (by simp)
     ·rw [if_neg c10] at H
      exact absurd H (by simp)
    ·rw [if_neg c8] at H
     have c8b0 : decide (0 < x0_1) = false := decide_eq_false c8
     clear c8
     obtain rfl := Option.some.inj H
     go_wp2
     go_ret
     exact ⟨by first | rfl | (simp; done) | (simp [*]; done), by repeat (first | exact Drawn0.refl _ | apply Drawn0.step)⟩
def waystoneref07_Kinds.f  : Option (List ByteArray) := some (([(⟨#[102, 111, 114, 119, 97, 114, 100]⟩ : ByteArray), (⟨#[100, 114, 111, 112]⟩ : ByteArray), (⟨#[112, 101, 114, 109, 105, 116]⟩ : ByteArray), (⟨#[100, 101, 110, 121]⟩ : ByteArray)] : List ByteArray))
set_option maxHeartbeats 8000000 in
set_option maxRecDepth 100000 in
theorem waystoneref07_Kinds.calls  (r : List ByteArray) (w : World) (h : waystoneref07_Kinds.f  = some r) :
  Calls Tryz.prog 52 #[] w fun e w' => ∃ v0_ : Value, e = .returned (v0_) ∧ Kd.R Kd.string 9 w' w.heap.size (fun _ => True) v0_ r ∧ Below w.heap.size w w' := by
 have HB := Aside0.mk (Below.refl w.heap.size w)
 have H : (some (([(⟨#[102, 111, 114, 119, 97, 114, 100]⟩ : ByteArray), (⟨#[100, 114, 111, 112]⟩ : ByteArray), (⟨#[112, 101, 114, 109, 105, 116]⟩ : ByteArray), (⟨#[100, 101, 110, 121]⟩ : ByteArray)] : List ByteArray))) = some r := h
 clear h
 obtain ⟨y112, hy112⟩ : ∃ y_ : List ByteArray, y_ = (([(⟨#[102, 111, 114, 119, 97, 114, 100]⟩ : ByteArray), (⟨#[100, 114, 111, 112]⟩ : ByteArray), (⟨#[112, 101, 114, 109, 105, 116]⟩ : ByteArray), (⟨#[100, 101, 110, 121]⟩ : ByteArray)] : List ByteArray)) := ⟨_, rfl⟩
 replace H : (some y112) = some r := by first | (rw [hy112]; with_reducible exact H) | (have H2_ := (Option.bind_some _ _).symm.trans H; rw [hy112]; with_reducible exact H2_) | (have H2_ := (Option.bind_some _ _).symm.trans H; with_reducible exact H2_) | with_reducible exact H | (rw [hy112]; exact H) | exact H
 have Ny112 := Aside0.mk hy112
 clear hy112
 obtain rfl := Option.some.inj H
 go_enter Tryz.func52, Tryz.ntmps52
 go_wp2_with (first | ((with_reducible refine gate_dst (N := 1) rfl ?_); refine Kd.R_lit Kd.string _ 9 ?hg (N := 1) ?hd (xs := ([(⟨#[102, 111, 114, 119, 97, 114, 100]⟩ : ByteArray), (⟨#[100, 114, 111, 112]⟩ : ByteArray), (⟨#[112, 101, 114, 109, 105, 116]⟩ : ByteArray), (⟨#[100, 101, 110, 121]⟩ : ByteArray)] : List ByteArray)) (inner := [.string (⟨#[102, 111, 114, 119, 97, 114, 100]⟩ : ByteArray), .string (⟨#[100, 114, 111, 112]⟩ : ByteArray), .string (⟨#[112, 101, 114, 109, 105, 116]⟩ : ByteArray), .string (⟨#[100, 101, 110, 121]⟩ : ByteArray)]) (ok := fun _ => True) (okp := fun _ => True) ?hr ?hp (fun _ hk => hk) trivial (Below.refl _ _) (Nat.le_refl _) (by simp) ?_; (case hd => rfl); (case hg => rfl); (case hr => first | (go_simp; done) | (go_simp; rfl)); (case hp => exact (Reps.one (show Kd.M Kd.string _ _ _ (⟨#[102, 111, 114, 119, 97, 114, 100]⟩ : ByteArray) [.string (⟨#[102, 111, 114, 119, 97, 114, 100]⟩ : ByteArray)] from rfl) (Reps.one (show Kd.M Kd.string _ _ _ (⟨#[100, 114, 111, 112]⟩ : ByteArray) [.string (⟨#[100, 114, 111, 112]⟩ : ByteArray)] from rfl) (Reps.one (show Kd.M Kd.string _ _ _ (⟨#[112, 101, 114, 109, 105, 116]⟩ : ByteArray) [.string (⟨#[112, 101, 114, 109, 105, 116]⟩ : ByteArray)] from rfl) (Reps.one (show Kd.M Kd.string _ _ _ (⟨#[100, 101, 110, 121]⟩ : ByteArray) [.string (⟨#[100, 101, 110, 121]⟩ : ByteArray)] from rfl) (Reps.none _ _)))))); intro v113 w1 ho2 hb hg_ hnew_; clear hg_ hnew_; (first | rw [← Ny112.out] at ho2 | (simp only [Int.reduceToNat] at ho2; rw [← Ny112.out] at ho2)); have n0_ := Aside0.mk (Kd.R_lower ho2 (below_size (gB HB.out))); have n1_ := Aside0.mk (below_step (gB HB.out) hb); clear HB; have HO114 := n0_; have HB := n1_; clear n0_ n1_; clear hb ho2))
 go_ret
 exact ⟨_, by first | rfl | (simp [errW_none, errW_some] <;> rfl) | (simp [*, errW_none, errW_some] <;> rfl), gR HO114.out, gB HB.out⟩
def waystoneref02_digits.l0 : Nat → Int → ByteArray → Option (ByteArray)
 | 0, _, _ => none
 | k + 1, x0, x3 => if x3.toList = ([] : List UInt8) then (if 0 ≤ (Int.tmod x0 10) then (if (Int.tmod x0 10) ≤ (wrap64 ((Int.tmod x0 10) + 1)) then (if (wrap64 ((Int.tmod x0 10) + 1)) ≤ 10 then (if ((⟨#[48, 49, 50, 51, 52, 53, 54, 55, 56, 57]⟩ : ByteArray).extract ((Int.tmod x0 10) : Int).toNat ((wrap64 ((Int.tmod x0 10) + 1)) : Int).toNat).size + x3.size ≤ 9223372036854775807 then (waystoneref02_digits.l0 k (wrap64 (Int.tdiv x0 10)) (((⟨#[48, 49, 50, 51, 52, 53, 54, 55, 56, 57]⟩ : ByteArray).extract ((Int.tmod x0 10) : Int).toNat ((wrap64 ((Int.tmod x0 10) + 1)) : Int).toNat) ++ x3)) else (none)) else (none)) else (none)) else (none)) else (if x0 > 0 then (if 0 ≤ (Int.tmod x0 10) then (if (Int.tmod x0 10) ≤ (wrap64 ((Int.tmod x0 10) + 1)) then (if (wrap64 ((Int.tmod x0 10) + 1)) ≤ 10 then (if ((⟨#[48, 49, 50, 51, 52, 53, 54, 55, 56, 57]⟩ : ByteArray).extract ((Int.tmod x0 10) : Int).toNat ((wrap64 ((Int.tmod x0 10) + 1)) : Int).toNat).size + x3.size ≤ 9223372036854775807 then (waystoneref02_digits.l0 k (wrap64 (Int.tdiv x0 10)) (((⟨#[48, 49, 50, 51, 52, 53, 54, 55, 56, 57]⟩ : ByteArray).extract ((Int.tmod x0 10) : Int).toNat ((wrap64 ((Int.tmod x0 10) + 1)) : Int).toNat) ++ x3)) else (none)) else (none)) else (none)) else (none)) else (some x3))
def waystoneref02_digits.f (k : Nat) (a0 : Int) : Option (ByteArray) := waystoneref02_digits.l0 k a0 (⟨#[]⟩ : ByteArray)
set_option maxHeartbeats 8000000 in
set_option maxRecDepth 100000 in
theorem waystoneref02_digits.calls (k : Nat) (a0 : Int) (r : ByteArray) (w : World) (h : waystoneref02_digits.f k a0 = some r) :
  Calls Tryz.prog 112 #[.int .i64 a0] w fun e w' => e = .returned (.string r) ∧ Drawn0 w w' := by
 have H : (waystoneref02_digits.l0 k a0 (⟨#[]⟩ : ByteArray)) = some r := h
 clear h
 have H' := Aside0.mk H
 clear H
 go_enter Tryz.func112, Tryz.ntmps112
 go_wp2
 go_loopg [0, 3] k (fun kq v0 v3 w' => ∃ (x0_1 : Int) (x3_1 : ByteArray), v0 = .int .i64 x0_1 ∧ v3 = .string x3_1 ∧ Aside0 (waystoneref02_digits.l0 kq x0_1 x3_1 = some r) ∧ Aside0 (kq ≤ k) ∧ Drawn0 w w')
 case atStart => exact ⟨(a0), ((⟨#[]⟩ : ByteArray)), (by first | rfl | (simp; done) | (simp [*]; done)), (by first | rfl | (simp; done) | (simp [*]; done)), H', ⟨Nat.le_refl _⟩, by repeat (first | exact Drawn0.refl _ | apply Drawn0.step)⟩
 case round =>
  clear H'
  try clear c1
  obtain ⟨x0_1, x3_1, rfl, rfl, HA, HK1, ⟨m1, rfl⟩⟩ := hrel
  cases gk with
  | zero => exact absurd HA.out (by simp [waystoneref02_digits.l0])
  | succ k1 =>
   have H := HA.out
   clear HA
   simp only [waystoneref02_digits.l0] at H
   by_cases c2 : x3_1.toList = ([] : List UInt8)
   ·rw [if_pos c2] at H
    have c2b0 : (x3_1.toList == ([] : List UInt8)) = true := beq_iff_eq.mpr c2
    have c2b1 : (x3_1.toList != ([] : List UInt8)) = false := bne_eq_false_iff_eq.mpr c2
    clear c2
    obtain ⟨ji3, hji3⟩ : ∃ j_ : Int, (Int.tmod x0_1 10) = j_ := ⟨_, rfl⟩
    replace H : (if 0 ≤ (ji3) then (if (ji3) ≤ (wrap64 ((ji3) + 1)) then (if (wrap64 ((ji3) + 1)) ≤ 10 then (if ((⟨#[48, 49, 50, 51, 52, 53, 54, 55, 56, 57]⟩ : ByteArray).extract ((ji3) : Int).toNat ((wrap64 ((ji3) + 1)) : Int).toNat).size + x3_1.size ≤ 9223372036854775807 then (waystoneref02_digits.l0 k1 (wrap64 (Int.tdiv x0_1 10)) (((⟨#[48, 49, 50, 51, 52, 53, 54, 55, 56, 57]⟩ : ByteArray).extract ((ji3) : Int).toNat ((wrap64 ((ji3) + 1)) : Int).toNat) ++ x3_1)) else (none)) else (none)) else (none)) else (none)) = some r := by first | (rw [hji3] at H; exact H) | (simp only [hji3] at H ⊢; exact H)
    by_cases c4 : 0 ≤ (ji3)
    ·rw [if_pos c4] at H
     have c4b0 := eq_true c4
     have c4b1 : decide (0 ≤ (ji3)) = true := decide_eq_true c4
     clear c4
     by_cases c5 : (ji3) ≤ (wrap64 ((ji3) + 1))
     ·rw [if_pos c5] at H
      have c5b0 := eq_true c5
      have c5b1 : decide ((ji3) ≤ (wrap64 ((ji3) + 1))) = true := decide_eq_true c5
      by_cases c6 : (wrap64 ((ji3) + 1)) ≤ 10
      ·rw [if_pos c6] at H
       have c6b0 := eq_true c6
       have c6b1 : decide ((wrap64 ((ji3) + 1)) ≤ 10) = true := decide_eq_true c6
       by_cases c7 : ((⟨#[48, 49, 50, 51, 52, 53, 54, 55, 56, 57]⟩ : ByteArray).extract ((ji3) : Int).toNat ((wrap64 ((ji3) + 1)) : Int).toNat).size + x3_1.size ≤ 9223372036854775807
       ·rw [if_pos c7] at H
        have c7b0 := eq_true c7
        have c7b1 : decide (((⟨#[48, 49, 50, 51, 52, 53, 54, 55, 56, 57]⟩ : ByteArray).extract ((ji3) : Int).toNat ((wrap64 ((ji3) + 1)) : Int).toNat).size + x3_1.size ≤ 9223372036854775807) = true := decide_eq_true c7
        try have c7b2 : (9223372036854775807 < ((⟨#[48, 49, 50, 51, 52, 53, 54, 55, 56, 57]⟩ : ByteArray).extract ((ji3) : Int).toNat ((wrap64 ((ji3) + 1)) : Int).toNat).size + x3_1.size) = False := eq_false (Nat.not_lt.2 c7)
        have H' := Aside0.mk H
        clear H
        go_wp2
        go_roundg k1
        case measure => have := HK1.out; omega
        case rel => exact ⟨(wrap64 (Int.tdiv x0_1 10)), (((⟨#[48, 49, 50, 51, 52, 53, 54, 55, 56, 57]⟩ : ByteArray).extract ((ji3) : Int).toNat ((wrap64 ((ji3) + 1)) : Int).toNat) ++ x3_1), (by first | rfl | (simp; done) | (simp [*]; done)), (by first | rfl | (simp; done) | (simp only [← hji3] <;> (first | rfl | simp)) | (simp [*]; done)), H', ⟨by have := HK1.out; omega⟩, by repeat (first | exact Drawn0.refl _ | apply Drawn0.step)⟩
       ·rw [if_neg c7] at H
        exact absurd H (by simp)
      ·rw [if_neg c6] at H
       exact absurd H (by simp)
     ·rw [if_neg c5] at H
      exact absurd H (by simp)
    ·rw [if_neg c4] at H
     exact absurd H (by simp)
   ·rw [if_neg c2] at H
    have c2b0 : (x3_1.toList == ([] : List UInt8)) = false := beq_eq_false_iff_ne.mpr c2
    have c2b1 : (x3_1.toList != ([] : List UInt8)) = true := bne_iff_ne.mpr c2
    by_cases c8 : x0_1 > 0
    ·rw [if_pos c8] at H
     have c8b0 : decide (0 < x0_1) = true := decide_eq_true c8
     clear c8
     obtain ⟨ji9, hji9⟩ : ∃ j_ : Int, (Int.tmod x0_1 10) = j_ := ⟨_, rfl⟩
     replace H : (if 0 ≤ (ji9) then (if (ji9) ≤ (wrap64 ((ji9) + 1)) then (if (wrap64 ((ji9) + 1)) ≤ 10 then (if ((⟨#[48, 49, 50, 51, 52, 53, 54, 55, 56, 57]⟩ : ByteArray).extract ((ji9) : Int).toNat ((wrap64 ((ji9) + 1)) : Int).toNat).size + x3_1.size ≤ 9223372036854775807 then (waystoneref02_digits.l0 k1 (wrap64 (Int.tdiv x0_1 10)) (((⟨#[48, 49, 50, 51, 52, 53, 54, 55, 56, 57]⟩ : ByteArray).extract ((ji9) : Int).toNat ((wrap64 ((ji9) + 1)) : Int).toNat) ++ x3_1)) else (none)) else (none)) else (none)) else (none)) = some r := by first | (rw [hji9] at H; exact H) | (simp only [hji9] at H ⊢; exact H)
     by_cases c10 : 0 ≤ (ji9)
     ·rw [if_pos c10] at H
      have c10b0 := eq_true c10
      have c10b1 : decide (0 ≤ (ji9)) = true := decide_eq_true c10
      clear c10
      by_cases c11 : (ji9) ≤ (wrap64 ((ji9) + 1))
      ·rw [if_pos c11] at H
       have c11b0 := eq_true c11
       have c11b1 : decide ((ji9) ≤ (wrap64 ((ji9) + 1))) = true := decide_eq_true c11
       by_cases c12 : (wrap64 ((ji9) + 1)) ≤ 10
       ·rw [if_pos c12] at H
        have c12b0 := eq_true c12
        have c12b1 : decide ((wrap64 ((ji9) + 1)) ≤ 10) = true := decide_eq_true c12
        by_cases c13 : ((⟨#[48, 49, 50, 51, 52, 53, 54, 55, 56, 57]⟩ : ByteArray).extract ((ji9) : Int).toNat ((wrap64 ((ji9) + 1)) : Int).toNat).size + x3_1.size ≤ 9223372036854775807
        ·rw [if_pos c13] at H
         have c13b0 := eq_true c13
         have c13b1 : decide (((⟨#[48, 49, 50, 51, 52, 53, 54, 55, 56, 57]⟩ : ByteArray).extract ((ji9) : Int).toNat ((wrap64 ((ji9) + 1)) : Int).toNat).size + x3_1.size ≤ 9223372036854775807) = true := decide_eq_true c13
         try have c13b2 : (9223372036854775807 < ((⟨#[48, 49, 50, 51, 52, 53, 54, 55, 56, 57]⟩ : ByteArray).extract ((ji9) : Int).toNat ((wrap64 ((ji9) + 1)) : Int).toNat).size + x3_1.size) = False := eq_false (Nat.not_lt.2 c13)
         have H' := Aside0.mk H
         clear H
         go_wp2
         go_roundg k1
         case measure => have := HK1.out; omega
         case rel => exact ⟨(wrap64 (Int.tdiv x0_1 10)), (((⟨#[48, 49, 50, 51, 52, 53, 54, 55, 56, 57]⟩ : ByteArray).extract ((ji9) : Int).toNat ((wrap64 ((ji9) + 1)) : Int).toNat) ++ x3_1), (by first | rfl | (simp; done) | (simp [*]; done)), (by first | rfl | (simp; done) | (simp only [← hji9] <;> (first | rfl | simp)) | (simp [*]; done)), H', ⟨by have := HK1.out; omega⟩, by repeat (first | exact Drawn0.refl _ | apply Drawn0.step)⟩
        ·rw [if_neg c13] at H
         exact absurd H (by simp)
       ·rw [if_neg c12] at H
        exact absurd H (by simp)
      ·rw [if_neg c11] at H
       exact absurd H (by simp)
     ·rw [if_neg c10] at H
      exact absurd H (by simp)
    ·rw [if_neg c8] at H
     have c8b0 : decide (0 < x0_1) = false := decide_eq_false c8
     clear c8
     obtain rfl := Option.some.inj H
     go_wp2
     go_ret
     exact ⟨by first | rfl | (simp; done) | (simp [*]; done), by repeat (first | exact Drawn0.refl _ | apply Drawn0.step)⟩
def waystoneref02_Addr.f (k : Nat) (a0 : Int) : Option (ByteArray) := (waystoneref02_digits.f k (wrap64 (Int.tdiv (wrap64 (a0)) 16777216))).bind fun t115 => (if t115.size + 1 ≤ 9223372036854775807 then ((waystoneref02_digits.f k (Int.tmod (wrap64 (Int.tdiv (wrap64 (a0)) 65536)) 256)).bind fun t116 => (if t115.size + 1 + t116.size ≤ 9223372036854775807 then (if t115.size + 1 + t116.size + 1 ≤ 9223372036854775807 then ((waystoneref02_digits.f k (Int.tmod (wrap64 (Int.tdiv (wrap64 (a0)) 256)) 256)).bind fun t117 => (if t115.size + 1 + t116.size + 1 + t117.size ≤ 9223372036854775807 then (if t115.size + 1 + t116.size + 1 + t117.size + 1 ≤ 9223372036854775807 then ((waystoneref02_digits.f k (Int.tmod (wrap64 (a0)) 256)).bind fun t118 => (if t115.size + 1 + t116.size + 1 + t117.size + 1 + t118.size ≤ 9223372036854775807 then (some ((((((t115 ++ (⟨#[46]⟩ : ByteArray)) ++ t116) ++ (⟨#[46]⟩ : ByteArray)) ++ t117) ++ (⟨#[46]⟩ : ByteArray)) ++ t118)) else (none))) else (none)) else (none))) else (none)) else (none))) else (none))
set_option maxHeartbeats 8000000 in
set_option maxRecDepth 100000 in
theorem waystoneref02_Addr.calls (k : Nat) (a0 : Int) (r : ByteArray) (w : World) (h : waystoneref02_Addr.f k a0 = some r) :
  Calls Tryz.prog 105 #[.int .u32 a0] w fun e w' => e = .returned (.string r) ∧ Drawn0 w w' := by
 have H : ((waystoneref02_digits.f k (wrap64 (Int.tdiv (wrap64 (a0)) 16777216))).bind fun t115 => (if t115.size + 1 ≤ 9223372036854775807 then ((waystoneref02_digits.f k (Int.tmod (wrap64 (Int.tdiv (wrap64 (a0)) 65536)) 256)).bind fun t116 => (if t115.size + 1 + t116.size ≤ 9223372036854775807 then (if t115.size + 1 + t116.size + 1 ≤ 9223372036854775807 then ((waystoneref02_digits.f k (Int.tmod (wrap64 (Int.tdiv (wrap64 (a0)) 256)) 256)).bind fun t117 => (if t115.size + 1 + t116.size + 1 + t117.size ≤ 9223372036854775807 then (if t115.size + 1 + t116.size + 1 + t117.size + 1 ≤ 9223372036854775807 then ((waystoneref02_digits.f k (Int.tmod (wrap64 (a0)) 256)).bind fun t118 => (if t115.size + 1 + t116.size + 1 + t117.size + 1 + t118.size ≤ 9223372036854775807 then (some ((((((t115 ++ (⟨#[46]⟩ : ByteArray)) ++ t116) ++ (⟨#[46]⟩ : ByteArray)) ++ t117) ++ (⟨#[46]⟩ : ByteArray)) ++ t118)) else (none))) else (none)) else (none))) else (none)) else (none))) else (none))) = some r := h
 clear h
 replace H := Option.bind_eq_some_iff.mp H
 obtain ⟨t115, A20, H⟩ := H
 try dsimp only at H
 have A2 := Aside0.mk A20
 clear A20
 by_cases c3 : t115.size + 1 ≤ 9223372036854775807
 ·rw [if_pos c3] at H
  have c3b0 := eq_true c3
  have c3b1 : decide (t115.size + 1 ≤ 9223372036854775807) = true := decide_eq_true c3
  try have c3b2 : (9223372036854775807 < t115.size + 1) = False := eq_false (Nat.not_lt.2 c3)
  replace H := Option.bind_eq_some_iff.mp H
  obtain ⟨t116, A40, H⟩ := H
  try dsimp only at H
  have A4 := Aside0.mk A40
  clear A40
  by_cases c5 : t115.size + 1 + t116.size ≤ 9223372036854775807
  ·rw [if_pos c5] at H
   have c5b0 := eq_true c5
   have c5b1 : decide (t115.size + 1 + t116.size ≤ 9223372036854775807) = true := decide_eq_true c5
   try have c5b2 : (9223372036854775807 < t115.size + 1 + t116.size) = False := eq_false (Nat.not_lt.2 c5)
   by_cases c6 : t115.size + 1 + t116.size + 1 ≤ 9223372036854775807
   ·rw [if_pos c6] at H
    have c6b0 := eq_true c6
    have c6b1 : decide (t115.size + 1 + t116.size + 1 ≤ 9223372036854775807) = true := decide_eq_true c6
    try have c6b2 : (9223372036854775807 < t115.size + 1 + t116.size + 1) = False := eq_false (Nat.not_lt.2 c6)
    replace H := Option.bind_eq_some_iff.mp H
    obtain ⟨t117, A70, H⟩ := H
    try dsimp only at H
    have A7 := Aside0.mk A70
    clear A70
    by_cases c8 : t115.size + 1 + t116.size + 1 + t117.size ≤ 9223372036854775807
    ·rw [if_pos c8] at H
     have c8b0 := eq_true c8
     have c8b1 : decide (t115.size + 1 + t116.size + 1 + t117.size ≤ 9223372036854775807) = true := decide_eq_true c8
     try have c8b2 : (9223372036854775807 < t115.size + 1 + t116.size + 1 + t117.size) = False := eq_false (Nat.not_lt.2 c8)
     by_cases c9 : t115.size + 1 + t116.size + 1 + t117.size + 1 ≤ 9223372036854775807
     ·rw [if_pos c9] at H
      have c9b0 := eq_true c9
      have c9b1 : decide (t115.size + 1 + t116.size + 1 + t117.size + 1 ≤ 9223372036854775807) = true := decide_eq_true c9
      try have c9b2 : (9223372036854775807 < t115.size + 1 + t116.size + 1 + t117.size + 1) = False := eq_false (Nat.not_lt.2 c9)
      replace H := Option.bind_eq_some_iff.mp H
      obtain ⟨t118, A100, H⟩ := H
      try dsimp only at H
      have A10 := Aside0.mk A100
      clear A100
      by_cases c11 : t115.size + 1 + t116.size + 1 + t117.size + 1 + t118.size ≤ 9223372036854775807
      ·rw [if_pos c11] at H
       have c11b0 := eq_true c11
       have c11b1 : decide (t115.size + 1 + t116.size + 1 + t117.size + 1 + t118.size ≤ 9223372036854775807) = true := decide_eq_true c11
       try have c11b2 : (9223372036854775807 < t115.size + 1 + t116.size + 1 + t117.size + 1 + t118.size) = False := eq_false (Nat.not_lt.2 c11)
       obtain rfl := Option.some.inj H
       go_enter Tryz.func105, Tryz.ntmps105
       go_wp2_with (first | ((with_reducible refine gate_callee (f := 112) rfl ?_); refine goesL_ (some 8) rfl rfl Tryz.func112 (by kernel_rfl) rfl #[.int .i64 (wrap64 (Int.tdiv (wrap64 (a0)) 16777216))] rfl (by (try simp only [mA_, mC_, mN_]); first|done|rfl|(simp only [lD_, lT_]; rfl)) ?_; (with_reducible refine (waystoneref02_digits.calls k (wrap64 (Int.tdiv (wrap64 (a0)) 16777216)) t115 _ A2.out).mono ?_); rintro e w' ⟨rfl, ⟨nd, rfl⟩⟩; refine ⟨_, rfl, ?_⟩) | ((with_reducible refine gate_callee (f := 112) rfl ?_); refine goesL_ (some 13) rfl rfl Tryz.func112 (by kernel_rfl) rfl #[.int .i64 (Int.tmod (wrap64 (Int.tdiv (wrap64 (a0)) 65536)) 256)] rfl (by (try simp only [mA_, mC_, mN_]); first|done|rfl|(simp only [lD_, lT_]; rfl)) ?_; (with_reducible refine (waystoneref02_digits.calls k (Int.tmod (wrap64 (Int.tdiv (wrap64 (a0)) 65536)) 256) t116 _ A4.out).mono ?_); rintro e w' ⟨rfl, ⟨nd, rfl⟩⟩; refine ⟨_, rfl, ?_⟩) | ((with_reducible refine gate_callee (f := 112) rfl ?_); refine goesL_ (some 19) rfl rfl Tryz.func112 (by kernel_rfl) rfl #[.int .i64 (Int.tmod (wrap64 (Int.tdiv (wrap64 (a0)) 256)) 256)] rfl (by (try simp only [mA_, mC_, mN_]); first|done|rfl|(simp only [lD_, lT_]; rfl)) ?_; (with_reducible refine (waystoneref02_digits.calls k (Int.tmod (wrap64 (Int.tdiv (wrap64 (a0)) 256)) 256) t117 _ A7.out).mono ?_); rintro e w' ⟨rfl, ⟨nd, rfl⟩⟩; refine ⟨_, rfl, ?_⟩) | ((with_reducible refine gate_callee (f := 112) rfl ?_); refine goesL_ (some 24) rfl rfl Tryz.func112 (by kernel_rfl) rfl #[.int .i64 (Int.tmod (wrap64 (a0)) 256)] rfl (by (try simp only [mA_, mC_, mN_]); first|done|rfl|(simp only [lD_, lT_]; rfl)) ?_; (with_reducible refine (waystoneref02_digits.calls k (Int.tmod (wrap64 (a0)) 256) t118 _ A10.out).mono ?_); rintro e w' ⟨rfl, ⟨nd, rfl⟩⟩; refine ⟨_, rfl, ?_⟩))
       go_ret
       exact ⟨by first | rfl | (simp; done) | (simp [*]; done), by repeat (first | exact Drawn0.refl _ | apply Drawn0.step)⟩
      ·rw [if_neg c11] at H
       exact absurd H (by simp)
     ·rw [if_neg c9] at H
      exact absurd H (by simp)
    ·rw [if_neg c8] at H
     exact absurd H (by simp)
   ·rw [if_neg c6] at H
    exact absurd H (by simp)
  ·rw [if_neg c5] at H
   exact absurd H (by simp)
 ·rw [if_neg c3] at H
  exact absurd H (by simp)
def waystoneref02_RangeText.f (k : Nat) (a0_0 : Int) (a0_1 : Int) : Option (ByteArray) := (waystoneref02_Addr.f k a0_0).bind fun t120 => (if t120.size + 1 ≤ 9223372036854775807 then ((waystoneref02_Addr.f k a0_1).bind fun t121 => (if t120.size + 1 + t121.size ≤ 9223372036854775807 then (some ((t120 ++ (⟨#[45]⟩ : ByteArray)) ++ t121)) else (none))) else (none))
set_option maxHeartbeats 8000000 in
set_option maxRecDepth 100000 in
theorem waystoneref02_RangeText.calls (k : Nat) (a0_0 : Int) (a0_1 : Int) (r : ByteArray) (w : World) (h : waystoneref02_RangeText.f k a0_0 a0_1 = some r) :
  Calls Tryz.prog 53 #[.agg #[.int .u32 a0_0, .int .u32 a0_1]] w fun e w' => e = .returned (.string r) ∧ Below w.heap.size w w' := by
 have hu25 := Tryz.underlying25
 have HB := Aside0.mk (Below.refl w.heap.size w)
 have H : ((waystoneref02_Addr.f k a0_0).bind fun t120 => (if t120.size + 1 ≤ 9223372036854775807 then ((waystoneref02_Addr.f k a0_1).bind fun t121 => (if t120.size + 1 + t121.size ≤ 9223372036854775807 then (some ((t120 ++ (⟨#[45]⟩ : ByteArray)) ++ t121)) else (none))) else (none))) = some r := h
 clear h
 replace H := Option.bind_eq_some_iff.mp H
 obtain ⟨t120, A20, H⟩ := H
 try dsimp only at H
 have A2 := Aside0.mk A20
 clear A20
 by_cases c3 : t120.size + 1 ≤ 9223372036854775807
 ·rw [if_pos c3] at H
  have c3b0 := eq_true c3
  have c3b1 : decide (t120.size + 1 ≤ 9223372036854775807) = true := decide_eq_true c3
  try have c3b2 : (9223372036854775807 < t120.size + 1) = False := eq_false (Nat.not_lt.2 c3)
  replace H := Option.bind_eq_some_iff.mp H
  obtain ⟨t121, A40, H⟩ := H
  try dsimp only at H
  have A4 := Aside0.mk A40
  clear A40
  by_cases c5 : t120.size + 1 + t121.size ≤ 9223372036854775807
  ·rw [if_pos c5] at H
   have c5b0 := eq_true c5
   have c5b1 : decide (t120.size + 1 + t121.size ≤ 9223372036854775807) = true := decide_eq_true c5
   try have c5b2 : (9223372036854775807 < t120.size + 1 + t121.size) = False := eq_false (Nat.not_lt.2 c5)
   obtain rfl := Option.some.inj H
   go_enter Tryz.func53, Tryz.ntmps53
   go_wp2_with (first | ((with_reducible refine gate_dst (N := 1) rfl ?_); refine box_event ?hg (N := 1) ?hd (cs := #[.int .u32 a0_0, .int .u32 a0_1]) (t := 25) ?hr ?_; (case hd => rfl); (case hg => rfl); (case hr => first | (go_simp; done) | (go_simp; rfl)); intro gb119 hg w6 hbox hb; have n0_ := Aside0.mk (below_step (gB HB.out) hb); have n1_ := Aside0.mk (hbox); have n2_ := Aside0.mk ((by rw [hg]; exact (below_size (gB HB.out)) : w.heap.size ≤ gb119)); have n3_ := Aside0.mk ((by rw [hg]; exact (below_size (gB HB.out)) : w.heap.size ≤ gb119)); clear HB; have HB := n0_; have BK119 := n1_; have GW119 := n2_; have GE119 := n3_; clear n0_ n1_ n2_ n3_; clear hb hbox hg; have hcz7_0 : w6.cell? ⟨gb119, 0, none⟩ = some (.int .u32 a0_0) := (blk_cell BK119.out 0).trans rfl; have hcz7_1 : w6.cell? ⟨gb119, 1, none⟩ = some (.int .u32 a0_1) := (blk_cell BK119.out 1).trans rfl; have hfz7_0 := blk_frozen BK119.out 0; have hfz7_1 := blk_frozen BK119.out 1) | (go_at_call 105; (with_reducible refine (waystoneref02_Addr.calls k a0_0 t120 _ A2.out).mono ?_); rintro e w' ⟨rfl, ⟨nd, rfl⟩⟩; (try first | exact ⟨rfl, _, World.drewN_drewN _ _ _⟩ | exact ⟨rfl, _, Eq.trans (World.drewN_drewN _ _ _) (congrArg (World.drewN _) (Nat.add_assoc _ _ _))⟩)) | (go_at_call 105; (with_reducible refine (waystoneref02_Addr.calls k a0_1 t121 _ A4.out).mono ?_); rintro e w' ⟨rfl, ⟨nd, rfl⟩⟩; (try first | exact ⟨rfl, _, World.drewN_drewN _ _ _⟩ | exact ⟨rfl, _, Eq.trans (World.drewN_drewN _ _ _) (congrArg (World.drewN _) (Nat.add_assoc _ _ _))⟩)))
   repeat (go_quiet (first | ((with_reducible refine gate_dst (N := 1) rfl ?_); refine box_event ?hg (N := 1) ?hd (cs := #[.int .u32 a0_0, .int .u32 a0_1]) (t := 25) ?hr ?_; (case hd => rfl); (case hg => rfl); (case hr => first | (go_simp; done) | (go_simp; rfl)); intro gb119 hg w6 hbox hb; have n0_ := Aside0.mk (below_step (gB HB.out) hb); have n1_ := Aside0.mk (hbox); have n2_ := Aside0.mk ((by rw [hg]; exact (below_size (gB HB.out)) : w.heap.size ≤ gb119)); have n3_ := Aside0.mk ((by rw [hg]; exact (below_size (gB HB.out)) : w.heap.size ≤ gb119)); clear HB; have HB := n0_; have BK119 := n1_; have GW119 := n2_; have GE119 := n3_; clear n0_ n1_ n2_ n3_; clear hb hbox hg; have hcz7_0 : w6.cell? ⟨gb119, 0, none⟩ = some (.int .u32 a0_0) := (blk_cell BK119.out 0).trans rfl; have hcz7_1 : w6.cell? ⟨gb119, 1, none⟩ = some (.int .u32 a0_1) := (blk_cell BK119.out 1).trans rfl; have hfz7_0 := blk_frozen BK119.out 0; have hfz7_1 := blk_frozen BK119.out 1) | (go_at_call 105; (with_reducible refine (waystoneref02_Addr.calls k a0_0 t120 _ A2.out).mono ?_); rintro e w' ⟨rfl, ⟨nd, rfl⟩⟩; (try first | exact ⟨rfl, _, World.drewN_drewN _ _ _⟩ | exact ⟨rfl, _, Eq.trans (World.drewN_drewN _ _ _) (congrArg (World.drewN _) (Nat.add_assoc _ _ _))⟩)) | (go_at_call 105; (with_reducible refine (waystoneref02_Addr.calls k a0_1 t121 _ A4.out).mono ?_); rintro e w' ⟨rfl, ⟨nd, rfl⟩⟩; (try first | exact ⟨rfl, _, World.drewN_drewN _ _ _⟩ | exact ⟨rfl, _, Eq.trans (World.drewN_drewN _ _ _) (congrArg (World.drewN _) (Nat.add_assoc _ _ _))⟩))); try go_wp2_with (first | ((with_reducible refine gate_dst (N := 1) rfl ?_); refine box_event ?hg (N := 1) ?hd (cs := #[.int .u32 a0_0, .int .u32 a0_1]) (t := 25) ?hr ?_; (case hd => rfl); (case hg => rfl); (case hr => first | (go_simp; done) | (go_simp; rfl)); intro gb119 hg w6 hbox hb; have n0_ := Aside0.mk (below_step (gB HB.out) hb); have n1_ := Aside0.mk (hbox); have n2_ := Aside0.mk ((by rw [hg]; exact (below_size (gB HB.out)) : w.heap.size ≤ gb119)); have n3_ := Aside0.mk ((by rw [hg]; exact (below_size (gB HB.out)) : w.heap.size ≤ gb119)); clear HB; have HB := n0_; have BK119 := n1_; have GW119 := n2_; have GE119 := n3_; clear n0_ n1_ n2_ n3_; clear hb hbox hg; have hcz7_0 : w6.cell? ⟨gb119, 0, none⟩ = some (.int .u32 a0_0) := (blk_cell BK119.out 0).trans rfl; have hcz7_1 : w6.cell? ⟨gb119, 1, none⟩ = some (.int .u32 a0_1) := (blk_cell BK119.out 1).trans rfl; have hfz7_0 := blk_frozen BK119.out 0; have hfz7_1 := blk_frozen BK119.out 1) | (go_at_call 105; (with_reducible refine (waystoneref02_Addr.calls k a0_0 t120 _ A2.out).mono ?_); rintro e w' ⟨rfl, ⟨nd, rfl⟩⟩; (try first | exact ⟨rfl, _, World.drewN_drewN _ _ _⟩ | exact ⟨rfl, _, Eq.trans (World.drewN_drewN _ _ _) (congrArg (World.drewN _) (Nat.add_assoc _ _ _))⟩)) | (go_at_call 105; (with_reducible refine (waystoneref02_Addr.calls k a0_1 t121 _ A4.out).mono ?_); rintro e w' ⟨rfl, ⟨nd, rfl⟩⟩; (try first | exact ⟨rfl, _, World.drewN_drewN _ _ _⟩ | exact ⟨rfl, _, Eq.trans (World.drewN_drewN _ _ _) (congrArg (World.drewN _) (Nat.add_assoc _ _ _))⟩))))
   go_ret
   exact ⟨by first | rfl | (simp [errW_none, errW_some] <;> rfl) | (simp [*, errW_none, errW_some] <;> rfl), by repeat first|(with_reducible first|exact HB.out|apply ba|apply bd|apply b1|refine bs ?_ GE119.out)|exact HB.out⟩
  ·rw [if_neg c5] at H
   exact absurd H (by simp)
 ·rw [if_neg c3] at H
  exact absurd H (by simp)
end Go.Proofs.YtfjamikpahmfhaaGreatDoor.P
end
section
namespace Go.Proofs.YtfjamikpahmfhaaGreatDoor.P
open Go.RowKit Go.Proofs.YtfjamikpahmfhaaGreatDoorW.PrintWords Go.Proofs.YtfjamikpahmfhaaGreatDoorW.PrintLast Go.Proofs.YtfjamikpahmfhaaGreatDoorW.PrintMore
theorem switch_aux {P : Program} {md : Region.Mode} {ops : Array Oper} {Q : Exit → Act → World → Prop} {S S' : World → Prop} (himp : ∀ w, S' w → S w) : ∀ (fuel : Nat) (l : Array Bool) (a : Act) (w : World), S' w → wpAnyLast P md ops Q S' [] fuel l a w → wpAnyLast P md ops Q S [] fuel l a w
  | 0, _, _, _, _, h => h
  | fuel + 1, _, _, _, hS, h => ⟨h.1, fun i hi => wpOp_mono (fun a' w' h' => ⟨fun _ _ => himp _ (h'.1 (by simp) hS), switch_aux himp fuel _ a' w' (h'.1 (by simp) hS) h'.2⟩) (h.2 i hi)⟩
theorem switch_ {P : Program} {md : Region.Mode} {ops : Array Oper} {Q : Exit → Act → World → Prop} {S S' : World → Prop} {fuel : Nat} {l : Array Bool} {a : Act} {w : World} (himp : ∀ w, S' w → S w) (hS : S' w) (h : S' w → wpAnyLast P md ops Q S' [] fuel l a w) : wpAnyLast P md ops Q S [] fuel l a w :=
  switch_aux himp fuel l a w hS (h hS)
end Go.Proofs.YtfjamikpahmfhaaGreatDoor.P
end
