/- Printed by a program of the session out of the translation: what each function answers (.f), and that a call of it answers so (.calls). -/
import Derived.Test.YtfjamikpahmfhaaGreatDoorPKinds
namespace Go.Proofs.YtfjamikpahmfhaaGreatDoor.P
open Go.RowKit Go.Proofs.YtfjamikpahmfhaaGreatDoorW.PrintWords Go.Proofs.YtfjamikpahmfhaaGreatDoorW.PrintLast Go.Proofs.YtfjamikpahmfhaaGreatDoorW.PrintMore
attribute [local go_sem] max2_int min2_int max_two min_two max_three min_three max_four min_four   -- for this text's walks alone
set_option linter.unusedVariables false
set_option linter.unusedSimpArgs false

/-! ### rule_takes: function 69 -/
def rule_takes.f (a0_0 : Int) (a0_1 : Int) (a0_2 : Int) (a0_3 : Int) (a0_4 : Int) (a0_5 : Int) (a0_6 : Int) (a1 : Int) (a2 : Int) : Option (Bool) := if a0_1 = a1 then (if a0_4 ≤ a2 then (some (decide (a2 ≤ a0_5))) else (some false)) else (some false)
set_option maxHeartbeats 8000000 in
set_option maxRecDepth 100000 in
theorem rule_takes.calls (a0_0 : Int) (a0_1 : Int) (a0_2 : Int) (a0_3 : Int) (a0_4 : Int) (a0_5 : Int) (a0_6 : Int) (a1 : Int) (a2 : Int) (r : Bool) (w : World) (h : rule_takes.f a0_0 a0_1 a0_2 a0_3 a0_4 a0_5 a0_6 a1 a2 = some r) :
    Calls Tryz.prog 69 #[.agg #[.int .i64 a0_0, .int .i64 a0_1, .int .i64 a0_2, .int .i64 a0_3, .int .u32 a0_4, .int .u32 a0_5, .int .i64 a0_6], .int .i64 a1, .int .u32 a2] w fun e w' => e = .returned (.bool r) ∧ Below w.heap.size w w' := by
  have hu27 := Tryz.underlying27
  have HB := Aside0.mk (Below.refl w.heap.size w)
  have H : (if a0_1 = a1 then (if a0_4 ≤ a2 then (some (decide (a2 ≤ a0_5))) else (some false)) else (some false)) = some r := h
  clear h
  by_cases c4 : a0_1 = a1
  · rw [if_pos c4] at H
    have c4b0 : (a0_1 == a1) = true := beq_iff_eq.mpr c4
    have c4b1 : (a0_1 != a1) = false := bne_eq_false_iff_eq.mpr c4
    clear c4
    by_cases c5 : a0_4 ≤ a2
    · rw [if_pos c5] at H
      have c5b0 : decide (a0_4 ≤ a2) = true := decide_eq_true c5
      clear c5
      obtain rfl := Option.some.inj H
      go_enter Tryz.func69, Tryz.ntmps69
      go_wp2_with (first | ((with_reducible refine gate_dst (N := 3) rfl ?_); refine box_event ?hg (N := 3) ?hd (cs := #[.int .i64 a0_0, .int .i64 a0_1, .int .i64 a0_2, .int .i64 a0_3, .int .u32 a0_4, .int .u32 a0_5, .int .i64 a0_6]) (t := 27) ?hr ?_; (case hd => rfl); (case hg => rfl); (case hr => first | (go_simp; done) | (go_simp; rfl)); intro gb441 hg w6 hbox hb; have n0_ := Aside0.mk (below_step (by repeat (first | (with_reducible first | exact HB.out | apply below_alloc | apply pw_below_drewN | apply below_drew1) | exact HB.out)) hb); have n1_ := Aside0.mk (hbox); have n2_ := Aside0.mk ((by rw [hg]; exact (below_size (by repeat (first | (with_reducible first | exact HB.out | apply below_alloc | apply pw_below_drewN | apply below_drew1) | exact HB.out))) : w.heap.size ≤ gb441)); have n3_ := Aside0.mk ((by rw [hg]; exact (below_size (by repeat (first | (with_reducible first | exact HB.out | apply below_alloc | apply pw_below_drewN | apply below_drew1) | exact HB.out))) : w.heap.size ≤ gb441)); clear HB; have HB := n0_; have BK441 := n1_; have GW441 := n2_; have GE441 := n3_; clear n0_ n1_ n2_ n3_; clear hb hbox hg; have hcz7_0 : w6.cell? ⟨gb441, 0, none⟩ = some (.int .i64 a0_0) := (blk_cell BK441.out 0).trans rfl; have hcz7_1 : w6.cell? ⟨gb441, 1, none⟩ = some (.int .i64 a0_1) := (blk_cell BK441.out 1).trans rfl; have hcz7_2 : w6.cell? ⟨gb441, 2, none⟩ = some (.int .i64 a0_2) := (blk_cell BK441.out 2).trans rfl; have hcz7_3 : w6.cell? ⟨gb441, 3, none⟩ = some (.int .i64 a0_3) := (blk_cell BK441.out 3).trans rfl; have hcz7_4 : w6.cell? ⟨gb441, 4, none⟩ = some (.int .u32 a0_4) := (blk_cell BK441.out 4).trans rfl; have hcz7_5 : w6.cell? ⟨gb441, 5, none⟩ = some (.int .u32 a0_5) := (blk_cell BK441.out 5).trans rfl; have hcz7_6 : w6.cell? ⟨gb441, 6, none⟩ = some (.int .i64 a0_6) := (blk_cell BK441.out 6).trans rfl; have hfz7_0 := blk_frozen BK441.out 0; have hfz7_1 := blk_frozen BK441.out 1; have hfz7_2 := blk_frozen BK441.out 2; have hfz7_3 := blk_frozen BK441.out 3; have hfz7_4 := blk_frozen BK441.out 4; have hfz7_5 := blk_frozen BK441.out 5; have hfz7_6 := blk_frozen BK441.out 6))
      go_ret
      exact ⟨by first | rfl | (simp [errW_none, errW_some] <;> rfl) | (simp [*, errW_none, errW_some] <;> rfl), by repeat (first | (with_reducible first | exact HB.out | apply below_alloc | apply pw_below_drewN | apply below_drew1 | refine below_set ?_ GE441.out) | exact HB.out)⟩
    · rw [if_neg c5] at H
      have c5b0 : decide (a0_4 ≤ a2) = false := decide_eq_false c5
      clear c5
      obtain rfl := Option.some.inj H
      go_enter Tryz.func69, Tryz.ntmps69
      go_wp2_with (first | ((with_reducible refine gate_dst (N := 3) rfl ?_); refine box_event ?hg (N := 3) ?hd (cs := #[.int .i64 a0_0, .int .i64 a0_1, .int .i64 a0_2, .int .i64 a0_3, .int .u32 a0_4, .int .u32 a0_5, .int .i64 a0_6]) (t := 27) ?hr ?_; (case hd => rfl); (case hg => rfl); (case hr => first | (go_simp; done) | (go_simp; rfl)); intro gb441 hg w8 hbox hb; have n0_ := Aside0.mk (below_step (by repeat (first | (with_reducible first | exact HB.out | apply below_alloc | apply pw_below_drewN | apply below_drew1) | exact HB.out)) hb); have n1_ := Aside0.mk (hbox); have n2_ := Aside0.mk ((by rw [hg]; exact (below_size (by repeat (first | (with_reducible first | exact HB.out | apply below_alloc | apply pw_below_drewN | apply below_drew1) | exact HB.out))) : w.heap.size ≤ gb441)); have n3_ := Aside0.mk ((by rw [hg]; exact (below_size (by repeat (first | (with_reducible first | exact HB.out | apply below_alloc | apply pw_below_drewN | apply below_drew1) | exact HB.out))) : w.heap.size ≤ gb441)); clear HB; have HB := n0_; have BK441 := n1_; have GW441 := n2_; have GE441 := n3_; clear n0_ n1_ n2_ n3_; clear hb hbox hg; have hcz9_0 : w8.cell? ⟨gb441, 0, none⟩ = some (.int .i64 a0_0) := (blk_cell BK441.out 0).trans rfl; have hcz9_1 : w8.cell? ⟨gb441, 1, none⟩ = some (.int .i64 a0_1) := (blk_cell BK441.out 1).trans rfl; have hcz9_2 : w8.cell? ⟨gb441, 2, none⟩ = some (.int .i64 a0_2) := (blk_cell BK441.out 2).trans rfl; have hcz9_3 : w8.cell? ⟨gb441, 3, none⟩ = some (.int .i64 a0_3) := (blk_cell BK441.out 3).trans rfl; have hcz9_4 : w8.cell? ⟨gb441, 4, none⟩ = some (.int .u32 a0_4) := (blk_cell BK441.out 4).trans rfl; have hcz9_5 : w8.cell? ⟨gb441, 5, none⟩ = some (.int .u32 a0_5) := (blk_cell BK441.out 5).trans rfl; have hcz9_6 : w8.cell? ⟨gb441, 6, none⟩ = some (.int .i64 a0_6) := (blk_cell BK441.out 6).trans rfl; have hfz9_0 := blk_frozen BK441.out 0; have hfz9_1 := blk_frozen BK441.out 1; have hfz9_2 := blk_frozen BK441.out 2; have hfz9_3 := blk_frozen BK441.out 3; have hfz9_4 := blk_frozen BK441.out 4; have hfz9_5 := blk_frozen BK441.out 5; have hfz9_6 := blk_frozen BK441.out 6))
      go_ret
      exact ⟨by first | rfl | (simp [errW_none, errW_some] <;> rfl) | (simp [*, errW_none, errW_some] <;> rfl), by repeat (first | (with_reducible first | exact HB.out | apply below_alloc | apply pw_below_drewN | apply below_drew1 | refine below_set ?_ GE441.out) | exact HB.out)⟩
  · rw [if_neg c4] at H
    have c4b0 : (a0_1 == a1) = false := beq_eq_false_iff_ne.mpr c4
    have c4b1 : (a0_1 != a1) = true := bne_iff_ne.mpr c4
    obtain rfl := Option.some.inj H
    go_enter Tryz.func69, Tryz.ntmps69
    go_wp2_with (first | ((with_reducible refine gate_dst (N := 3) rfl ?_); refine box_event ?hg (N := 3) ?hd (cs := #[.int .i64 a0_0, .int .i64 a0_1, .int .i64 a0_2, .int .i64 a0_3, .int .u32 a0_4, .int .u32 a0_5, .int .i64 a0_6]) (t := 27) ?hr ?_; (case hd => rfl); (case hg => rfl); (case hr => first | (go_simp; done) | (go_simp; rfl)); intro gb441 hg w10 hbox hb; have n0_ := Aside0.mk (below_step (by repeat (first | (with_reducible first | exact HB.out | apply below_alloc | apply pw_below_drewN | apply below_drew1) | exact HB.out)) hb); have n1_ := Aside0.mk (hbox); have n2_ := Aside0.mk ((by rw [hg]; exact (below_size (by repeat (first | (with_reducible first | exact HB.out | apply below_alloc | apply pw_below_drewN | apply below_drew1) | exact HB.out))) : w.heap.size ≤ gb441)); have n3_ := Aside0.mk ((by rw [hg]; exact (below_size (by repeat (first | (with_reducible first | exact HB.out | apply below_alloc | apply pw_below_drewN | apply below_drew1) | exact HB.out))) : w.heap.size ≤ gb441)); clear HB; have HB := n0_; have BK441 := n1_; have GW441 := n2_; have GE441 := n3_; clear n0_ n1_ n2_ n3_; clear hb hbox hg; have hcz11_0 : w10.cell? ⟨gb441, 0, none⟩ = some (.int .i64 a0_0) := (blk_cell BK441.out 0).trans rfl; have hcz11_1 : w10.cell? ⟨gb441, 1, none⟩ = some (.int .i64 a0_1) := (blk_cell BK441.out 1).trans rfl; have hcz11_2 : w10.cell? ⟨gb441, 2, none⟩ = some (.int .i64 a0_2) := (blk_cell BK441.out 2).trans rfl; have hcz11_3 : w10.cell? ⟨gb441, 3, none⟩ = some (.int .i64 a0_3) := (blk_cell BK441.out 3).trans rfl; have hcz11_4 : w10.cell? ⟨gb441, 4, none⟩ = some (.int .u32 a0_4) := (blk_cell BK441.out 4).trans rfl; have hcz11_5 : w10.cell? ⟨gb441, 5, none⟩ = some (.int .u32 a0_5) := (blk_cell BK441.out 5).trans rfl; have hcz11_6 : w10.cell? ⟨gb441, 6, none⟩ = some (.int .i64 a0_6) := (blk_cell BK441.out 6).trans rfl; have hfz11_0 := blk_frozen BK441.out 0; have hfz11_1 := blk_frozen BK441.out 1; have hfz11_2 := blk_frozen BK441.out 2; have hfz11_3 := blk_frozen BK441.out 3; have hfz11_4 := blk_frozen BK441.out 4; have hfz11_5 := blk_frozen BK441.out 5; have hfz11_6 := blk_frozen BK441.out 6))
    go_ret
    exact ⟨by first | rfl | (simp [errW_none, errW_some] <;> rfl) | (simp [*, errW_none, errW_some] <;> rfl), by repeat (first | (with_reducible first | exact HB.out | apply below_alloc | apply pw_below_drewN | apply below_drew1 | refine below_set ?_ GE441.out) | exact HB.out)⟩

end Go.Proofs.YtfjamikpahmfhaaGreatDoor.P
