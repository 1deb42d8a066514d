/- Printed by a program of the session out of the translation: what each function answers (.f), and that a call of it answers so (.calls). -/
import Derived.Test.YtfjamikpahmfhaaGreatDoorPKinds
namespace Go.Proofs.YtfjamikpahmfhaaGreatDoor.P
open Go.RowKit Go.Proofs.YtfjamikpahmfhaaGreatDoorW.PrintWords Go.Proofs.YtfjamikpahmfhaaGreatDoorW.PrintLast Go.Proofs.YtfjamikpahmfhaaGreatDoorW.PrintMore
attribute [local go_sem] max2_int min2_int max_two min_two max_three min_three max_four min_four   -- for this text's walks alone
set_option linter.unusedVariables false
set_option linter.unusedSimpArgs false

/-! ### waystoneref07_Find: function 18 -/
def waystoneref07_Find.l0 : Nat → List (S27) → Int → Int → Option (Int × Int × Int × Int × Int × Int × Int × Bool)
  | 0, _, _, _ => none
  | k + 1, x0, x1, x6 => if x6 < (x0.length : Int) then (if 0 ≤ x6 then (if ((rd_T27 x0 x6).f0) = x1 then (some ((rd_T27 x0 x6).f0, (rd_T27 x0 x6).f1, (rd_T27 x0 x6).f2, (rd_T27 x0 x6).f3, (rd_T27 x0 x6).f4.f0, (rd_T27 x0 x6).f4.f1, (rd_T27 x0 x6).f5, true)) else (waystoneref07_Find.l0 k x0 x1 (wrap64 (x6 + 1)))) else (none)) else (some (0, 0, 0, 0, 0, 0, 0, false))
def waystoneref07_Find.f (k : Nat) (l0 : List (S27)) (a1 : Int) : Option (Int × Int × Int × Int × Int × Int × Int × Bool) := waystoneref07_Find.l0 k l0 a1 0
theorem waystoneref07_Find.mono_l : ∀ k, (∀ y0 y1 y2, LeO (waystoneref07_Find.l0 k y0 y1 y2) (waystoneref07_Find.l0 (k + 1) y0 y1 y2))
  | 0 => fun _ _ _ r h => by simp [waystoneref07_Find.l0] at h
  | k + 1 => by
    have ih0 := waystoneref07_Find.mono_l k
    · intro y0 y1 y2
      unfold waystoneref07_Find.l0
      repeat' first
      | (with_reducible exact ih0 _ _ _)
      | (with_reducible exact LeO.refl _)
      | (with_reducible exact LeO.none _)
      | (with_reducible refine LeO.ite ?_ ?_)
      | (with_reducible refine LeO.bind ?_ (fun _ => ?_))
      | exact ih0 _ _ _
      | exact LeO.none _
      | refine LeO.ite ?_ ?_
      | refine LeO.bind ?_ (fun _ => ?_)
theorem waystoneref07_Find.mono : ∀ a0 a1 k, LeO (waystoneref07_Find.f k a0 a1) (waystoneref07_Find.f (k + 1) a0 a1) := by
  intro a0 a1 k
  have ih0 := waystoneref07_Find.mono_l k
  unfold waystoneref07_Find.f
  repeat' first
      | (with_reducible exact ih0 _ _ _)
      | (with_reducible exact LeO.refl _)
      | (with_reducible exact LeO.none _)
      | (with_reducible refine LeO.ite ?_ ?_)
      | (with_reducible refine LeO.bind ?_ (fun _ => ?_))
      | exact ih0 _ _ _
      | exact LeO.none _
      | refine LeO.ite ?_ ?_
      | refine LeO.bind ?_ (fun _ => ?_)
set_option maxHeartbeats 8000000 in
set_option maxRecDepth 100000 in
theorem waystoneref07_Find.calls (k : Nat) (A0 : Option Addr) (c0 : Nat) (l0 : List (S27)) (a1 : Int) (r1 : Int) (r2 : Int) (r3 : Int) (r4 : Int) (r5 : Int) (r6 : Int) (r7 : Int) (r8 : Bool) (w : World) (hr0 : Kd.C k27 w A0 l0.length l0) (hc0 : l0.length ≤ c0) (h : waystoneref07_Find.f k l0 a1 = some (r1, r2, r3, r4, r5, r6, r7, r8)) :
    Calls Tryz.prog 18 #[.slice A0 l0.length c0, .int .i64 a1] w fun e w' => e = .returned (.tuple #[.agg #[.int .i64 r1, .int .i64 r2, .int .i64 r3, .int .i64 r4, .int .u32 r5, .int .u32 r6, .int .i64 r7], .bool r8]) ∧ Below w.heap.size w w' := by
  have hu27 := Tryz.underlying27
  have HR0 := Aside0.mk hr0
  have HC0 := Aside0.mk hc0
  clear hr0 hc0
  have HB := Aside0.mk (Below.refl w.heap.size w)
  have H : (waystoneref07_Find.l0 k l0 a1 0) = some (r1, r2, r3, r4, r5, r6, r7, r8) := h
  clear h
  have H' := Aside0.mk H
  clear H
  go_enter Tryz.func18, Tryz.ntmps18
  go_wp2_with (first | ((with_reducible refine gate_dst (N := 4) rfl ?_); refine box_event ?hg (N := 4) ?hd (cs := #[.int .i64 0, .int .i64 0, .int .i64 0, .int .i64 0, .int .u32 0, .int .u32 0, .int .i64 0]) (t := 27) ?hr ?_; (case hd => rfl); (case hg => rfl); (case hr => first | (go_simp; done) | (go_simp; rfl)); intro gb314 hg w3 hbox hb; have n0_ := Aside0.mk (below_step (by repeat (first | (with_reducible first | exact HB.out | apply below_alloc | apply pw_below_drewN | apply below_drew1) | exact HB.out)) hb); have n1_ := Aside0.mk (hbox); have n2_ := Aside0.mk ((by rw [hg]; exact (below_size (by repeat (first | (with_reducible first | exact HB.out | apply below_alloc | apply pw_below_drewN | apply below_drew1) | exact HB.out))) : w.heap.size ≤ gb314)); have n3_ := Aside0.mk ((by rw [hg]; exact (below_size (by repeat (first | (with_reducible first | exact HB.out | apply below_alloc | apply pw_below_drewN | apply below_drew1) | exact HB.out))) : w.heap.size ≤ gb314)); clear HB; have HB := n0_; have BK314 := n1_; have GW314 := n2_; have GE314 := n3_; clear n0_ n1_ n2_ n3_; clear hb hbox hg))
  go_loopg [6] k (fun kq v6 w' => ∃ (x6_1 : Int) (x315000_1 : Int) (x315001_1 : Int) (x315002_1 : Int) (x315003_1 : Int) (x315004_1 : Int) (x315005_1 : Int) (x315006_1 : Int), v6 = .int .i64 x6_1 ∧ Aside0 (waystoneref07_Find.l0 kq l0 a1 x6_1 = some (r1, r2, r3, r4, r5, r6, r7, r8)) ∧ Aside0 (kq ≤ k) ∧ Aside0 (w'.heap[gb314]? = some (.cells #[.int .i64 x315000_1, .int .i64 x315001_1, .int .i64 x315002_1, .int .i64 x315003_1, .int .u32 x315004_1, .int .u32 x315005_1, .int .i64 x315006_1] 27 (0, 0))) ∧ Aside0 (Below w.heap.size w w'))
  case atStart => exact ⟨(0), (0), (0), (0), (0), (0), (0), (0), (by first | rfl | (simp; done) | (simp [*]; done)), H', ⟨Nat.le_refl _⟩, ⟨by (with_reducible repeat (first | refine blk_drewN ?_ _ | refine blk_drew ?_ | refine blk_alloc ?_ _)); exact BK314.out⟩, ⟨by repeat (first | (with_reducible first | exact HB.out | apply below_alloc | apply pw_below_drewN | apply below_drew1 | refine below_set ?_ GE314.out) | exact HB.out)⟩⟩
  case round =>
    clear H'
    try clear c1
    try clear p2
    obtain ⟨x6_1, x315000_1, x315001_1, x315002_1, x315003_1, x315004_1, x315005_1, x315006_1, rfl, HA, HK1, BK314, HB⟩ := hrel
    cases gk with
    | zero => exact absurd HA.out (by simp [waystoneref07_Find.l0])
    | succ k1 =>
      have H := HA.out
      clear HA
      simp only [waystoneref07_Find.l0] at H
      by_cases c4 : x6_1 < (l0.length : Int)
      · rw [if_pos c4] at H
        have c4b0 : decide (x6_1 < (l0.length : Int)) = true := decide_eq_true c4
        clear c4
        by_cases c5 : 0 ≤ x6_1
        · rw [if_pos c5] at H
          have c5b0 : decide (0 ≤ x6_1) = true := decide_eq_true c5
          clear c5
          by_cases c6 : ((rd_T27 l0 x6_1).f0) = a1
          · rw [if_pos c6] at H
            have c6b0 : (((rd_T27 l0 x6_1).f0) == a1) = true := beq_iff_eq.mpr c6
            have c6b1 : (((rd_T27 l0 x6_1).f0) != a1) = false := bne_eq_false_iff_eq.mpr c6
            clear c6
            simp only [Option.some.injEq, Prod.mk.injEq] at H
            obtain ⟨rfl, rfl, rfl, rfl, rfl, rfl, rfl, rfl⟩ := H
            have p315 : 0 ≤ (x6_1 : Int) := of_decide_eq_true (by first | (with_reducible assumption) | assumption)
            have q315 : x6_1 < (l0.length : Int) := of_decide_eq_true (by first | (with_reducible assumption) | assumption)
            obtain ⟨ad315, e315, hx315_0, hx315_1, hx315_2, hx315_3, hx315_4, hx315_5, hx315_6⟩ := at_T27 HR0.out x6_1 p315 q315
            cases e315
            replace hx315_0 := (HB.out.cell (World.block_lt_of_cell? w _ hx315_0)).trans hx315_0
            replace hx315_1 := (HB.out.cell (World.block_lt_of_cell? w _ hx315_1)).trans hx315_1
            replace hx315_2 := (HB.out.cell (World.block_lt_of_cell? w _ hx315_2)).trans hx315_2
            replace hx315_3 := (HB.out.cell (World.block_lt_of_cell? w _ hx315_3)).trans hx315_3
            replace hx315_4 := (HB.out.cell (World.block_lt_of_cell? w _ hx315_4)).trans hx315_4
            replace hx315_5 := (HB.out.cell (World.block_lt_of_cell? w _ hx315_5)).trans hx315_5
            replace hx315_6 := (HB.out.cell (World.block_lt_of_cell? w _ hx315_6)).trans hx315_6
            replace p315 := eq_true p315
            replace q315 := eq_true q315
            have p316 : 0 ≤ (x6_1 : Int) := of_decide_eq_true (by first | (with_reducible assumption) | assumption)
            have q316 : x6_1 < (l0.length : Int) := of_decide_eq_true (by first | (with_reducible assumption) | assumption)
            obtain ⟨ad316, e316, hx316_0, hx316_1, hx316_2, hx316_3, hx316_4, hx316_5, hx316_6⟩ := at_T27 HR0.out x6_1 p316 q316
            obtain rfl : ad315 = ad316 := (by injection e316)
            replace hx316_0 := (HB.out.cell (World.block_lt_of_cell? w _ hx316_0)).trans hx316_0
            replace hx316_1 := (HB.out.cell (World.block_lt_of_cell? w _ hx316_1)).trans hx316_1
            replace hx316_2 := (HB.out.cell (World.block_lt_of_cell? w _ hx316_2)).trans hx316_2
            replace hx316_3 := (HB.out.cell (World.block_lt_of_cell? w _ hx316_3)).trans hx316_3
            replace hx316_4 := (HB.out.cell (World.block_lt_of_cell? w _ hx316_4)).trans hx316_4
            replace hx316_5 := (HB.out.cell (World.block_lt_of_cell? w _ hx316_5)).trans hx316_5
            replace hx316_6 := (HB.out.cell (World.block_lt_of_cell? w _ hx316_6)).trans hx316_6
            replace p316 := eq_true p316
            replace q316 := eq_true q316
            have hcz7_0 : wr.cell? ⟨gb314, 0, none⟩ = some (.int .i64 x315000_1) := (blk_cell BK314.out 0).trans rfl
            have hcz7_1 : wr.cell? ⟨gb314, 1, none⟩ = some (.int .i64 x315001_1) := (blk_cell BK314.out 1).trans rfl
            have hcz7_2 : wr.cell? ⟨gb314, 2, none⟩ = some (.int .i64 x315002_1) := (blk_cell BK314.out 2).trans rfl
            have hcz7_3 : wr.cell? ⟨gb314, 3, none⟩ = some (.int .i64 x315003_1) := (blk_cell BK314.out 3).trans rfl
            have hcz7_4 : wr.cell? ⟨gb314, 4, none⟩ = some (.int .u32 x315004_1) := (blk_cell BK314.out 4).trans rfl
            have hcz7_5 : wr.cell? ⟨gb314, 5, none⟩ = some (.int .u32 x315005_1) := (blk_cell BK314.out 5).trans rfl
            have hcz7_6 : wr.cell? ⟨gb314, 6, none⟩ = some (.int .i64 x315006_1) := (blk_cell BK314.out 6).trans rfl
            have hfz7_0 := blk_frozen BK314.out 0
            have hfz7_1 := blk_frozen BK314.out 1
            have hfz7_2 := blk_frozen BK314.out 2
            have hfz7_3 := blk_frozen BK314.out 3
            have hfz7_4 := blk_frozen BK314.out 4
            have hfz7_5 := blk_frozen BK314.out 5
            have hfz7_6 := blk_frozen BK314.out 6
            go_wp2
            refine bodyPost_ret (results_ct rfl _ _ gb314 27 #[.int .i64 ((rd_T27 l0 x6_1).f0), .int .i64 ((rd_T27 l0 x6_1).f1), .int .i64 ((rd_T27 l0 x6_1).f2), .int .i64 ((rd_T27 l0 x6_1).f3), .int .u32 ((rd_T27 l0 x6_1).f4.f0), .int .u32 ((rd_T27 l0 x6_1).f4.f1), .int .i64 ((rd_T27 l0 x6_1).f5)] (0, 0) _ rfl (by (with_reducible repeat (first | refine blk_drewN ?_ _ | refine blk_drew ?_ | refine blk_alloc ?_ _)); refine blk_put (cs := #[.int .i64 ((rd_T27 l0 x6_1).f0), .int .i64 ((rd_T27 l0 x6_1).f1), .int .i64 ((rd_T27 l0 x6_1).f2), .int .i64 ((rd_T27 l0 x6_1).f3), .int .u32 ((rd_T27 l0 x6_1).f4.f0), .int .u32 ((rd_T27 l0 x6_1).f4.f1), .int .i64 x315006_1]) ?_ 6 _ rfl; (with_reducible repeat (first | refine blk_drewN ?_ _ | refine blk_drew ?_ | refine blk_alloc ?_ _)); refine blk_put (cs := #[.int .i64 ((rd_T27 l0 x6_1).f0), .int .i64 ((rd_T27 l0 x6_1).f1), .int .i64 ((rd_T27 l0 x6_1).f2), .int .i64 ((rd_T27 l0 x6_1).f3), .int .u32 ((rd_T27 l0 x6_1).f4.f0), .int .u32 x315005_1, .int .i64 x315006_1]) ?_ 5 _ rfl; (with_reducible repeat (first | refine blk_drewN ?_ _ | refine blk_drew ?_ | refine blk_alloc ?_ _)); refine blk_put (cs := #[.int .i64 ((rd_T27 l0 x6_1).f0), .int .i64 ((rd_T27 l0 x6_1).f1), .int .i64 ((rd_T27 l0 x6_1).f2), .int .i64 ((rd_T27 l0 x6_1).f3), .int .u32 x315004_1, .int .u32 x315005_1, .int .i64 x315006_1]) ?_ 4 _ rfl; (with_reducible repeat (first | refine blk_drewN ?_ _ | refine blk_drew ?_ | refine blk_alloc ?_ _)); refine blk_put (cs := #[.int .i64 ((rd_T27 l0 x6_1).f0), .int .i64 ((rd_T27 l0 x6_1).f1), .int .i64 ((rd_T27 l0 x6_1).f2), .int .i64 x315003_1, .int .u32 x315004_1, .int .u32 x315005_1, .int .i64 x315006_1]) ?_ 3 _ rfl; (with_reducible repeat (first | refine blk_drewN ?_ _ | refine blk_drew ?_ | refine blk_alloc ?_ _)); refine blk_put (cs := #[.int .i64 ((rd_T27 l0 x6_1).f0), .int .i64 ((rd_T27 l0 x6_1).f1), .int .i64 x315002_1, .int .i64 x315003_1, .int .u32 x315004_1, .int .u32 x315005_1, .int .i64 x315006_1]) ?_ 2 _ rfl; (with_reducible repeat (first | refine blk_drewN ?_ _ | refine blk_drew ?_ | refine blk_alloc ?_ _)); refine blk_put (cs := #[.int .i64 ((rd_T27 l0 x6_1).f0), .int .i64 x315001_1, .int .i64 x315002_1, .int .i64 x315003_1, .int .u32 x315004_1, .int .u32 x315005_1, .int .i64 x315006_1]) ?_ 1 _ rfl; (with_reducible repeat (first | refine blk_drewN ?_ _ | refine blk_drew ?_ | refine blk_alloc ?_ _)); refine blk_put (cs := #[.int .i64 x315000_1, .int .i64 x315001_1, .int .i64 x315002_1, .int .i64 x315003_1, .int .u32 x315004_1, .int .u32 x315005_1, .int .i64 x315006_1]) ?_ 0 _ rfl; (with_reducible repeat (first | refine blk_drewN ?_ _ | refine blk_drew ?_ | refine blk_alloc ?_ _)); exact BK314.out) Tryz.underlying27 rfl (by kernel_rfl)) rfl ?_
            exact ⟨by first | rfl | (simp [errW_none, errW_some] <;> rfl) | (simp [*, errW_none, errW_some] <;> rfl), by repeat (first | (with_reducible first | exact HB.out | apply below_alloc | apply pw_below_drewN | apply below_drew1 | refine below_set ?_ GE314.out) | exact HB.out)⟩
          · rw [if_neg c6] at H
            have c6b0 : (((rd_T27 l0 x6_1).f0) == a1) = false := beq_eq_false_iff_ne.mpr c6
            have c6b1 : (((rd_T27 l0 x6_1).f0) != a1) = true := bne_iff_ne.mpr c6
            have H' := Aside0.mk H
            clear H
            have p315 : 0 ≤ (x6_1 : Int) := of_decide_eq_true (by first | (with_reducible assumption) | assumption)
            have q315 : x6_1 < (l0.length : Int) := of_decide_eq_true (by first | (with_reducible assumption) | assumption)
            obtain ⟨ad315, e315, hx315_0, hx315_1, hx315_2, hx315_3, hx315_4, hx315_5, hx315_6⟩ := at_T27 HR0.out x6_1 p315 q315
            cases e315
            replace hx315_0 := (HB.out.cell (World.block_lt_of_cell? w _ hx315_0)).trans hx315_0
            replace hx315_1 := (HB.out.cell (World.block_lt_of_cell? w _ hx315_1)).trans hx315_1
            replace hx315_2 := (HB.out.cell (World.block_lt_of_cell? w _ hx315_2)).trans hx315_2
            replace hx315_3 := (HB.out.cell (World.block_lt_of_cell? w _ hx315_3)).trans hx315_3
            replace hx315_4 := (HB.out.cell (World.block_lt_of_cell? w _ hx315_4)).trans hx315_4
            replace hx315_5 := (HB.out.cell (World.block_lt_of_cell? w _ hx315_5)).trans hx315_5
            replace hx315_6 := (HB.out.cell (World.block_lt_of_cell? w _ hx315_6)).trans hx315_6
            replace p315 := eq_true p315
            replace q315 := eq_true q315
            go_wp2
            go_roundg k1
            case measure => have := HK1.out; omega
            case rel => exact ⟨(wrap64 (x6_1 + 1)), (x315000_1), (x315001_1), (x315002_1), (x315003_1), (x315004_1), (x315005_1), (x315006_1), (by first | rfl | (simp; done) | (simp [*]; done)), H', ⟨by have := HK1.out; omega⟩, ⟨by (with_reducible repeat (first | refine blk_drewN ?_ _ | refine blk_drew ?_ | refine blk_alloc ?_ _)); exact BK314.out⟩, ⟨by repeat (first | (with_reducible first | exact HB.out | apply below_alloc | apply pw_below_drewN | apply below_drew1 | refine below_set ?_ GE314.out) | exact HB.out)⟩⟩
        · rw [if_neg c5] at H
          exact absurd H (by simp)
      · rw [if_neg c4] at H
        have c4b0 : decide (x6_1 < (l0.length : Int)) = false := decide_eq_false c4
        clear c4
        simp only [Option.some.injEq, Prod.mk.injEq] at H
        obtain ⟨rfl, rfl, rfl, rfl, rfl, rfl, rfl, rfl⟩ := H
        have hcz8_0 : wr.cell? ⟨gb314, 0, none⟩ = some (.int .i64 x315000_1) := (blk_cell BK314.out 0).trans rfl
        have hcz8_1 : wr.cell? ⟨gb314, 1, none⟩ = some (.int .i64 x315001_1) := (blk_cell BK314.out 1).trans rfl
        have hcz8_2 : wr.cell? ⟨gb314, 2, none⟩ = some (.int .i64 x315002_1) := (blk_cell BK314.out 2).trans rfl
        have hcz8_3 : wr.cell? ⟨gb314, 3, none⟩ = some (.int .i64 x315003_1) := (blk_cell BK314.out 3).trans rfl
        have hcz8_4 : wr.cell? ⟨gb314, 4, none⟩ = some (.int .u32 x315004_1) := (blk_cell BK314.out 4).trans rfl
        have hcz8_5 : wr.cell? ⟨gb314, 5, none⟩ = some (.int .u32 x315005_1) := (blk_cell BK314.out 5).trans rfl
        have hcz8_6 : wr.cell? ⟨gb314, 6, none⟩ = some (.int .i64 x315006_1) := (blk_cell BK314.out 6).trans rfl
        have hfz8_0 := blk_frozen BK314.out 0
        have hfz8_1 := blk_frozen BK314.out 1
        have hfz8_2 := blk_frozen BK314.out 2
        have hfz8_3 := blk_frozen BK314.out 3
        have hfz8_4 := blk_frozen BK314.out 4
        have hfz8_5 := blk_frozen BK314.out 5
        have hfz8_6 := blk_frozen BK314.out 6
        go_wp2
        refine bodyPost_ret (results_ct rfl _ _ gb314 27 #[.int .i64 0, .int .i64 0, .int .i64 0, .int .i64 0, .int .u32 0, .int .u32 0, .int .i64 0] (0, 0) _ rfl (by (with_reducible repeat (first | refine blk_drewN ?_ _ | refine blk_drew ?_ | refine blk_alloc ?_ _)); refine blk_put (cs := #[.int .i64 0, .int .i64 0, .int .i64 0, .int .i64 0, .int .u32 0, .int .u32 0, .int .i64 x315006_1]) ?_ 6 _ rfl; (with_reducible repeat (first | refine blk_drewN ?_ _ | refine blk_drew ?_ | refine blk_alloc ?_ _)); refine blk_put (cs := #[.int .i64 0, .int .i64 0, .int .i64 0, .int .i64 0, .int .u32 0, .int .u32 x315005_1, .int .i64 x315006_1]) ?_ 5 _ rfl; (with_reducible repeat (first | refine blk_drewN ?_ _ | refine blk_drew ?_ | refine blk_alloc ?_ _)); refine blk_put (cs := #[.int .i64 0, .int .i64 0, .int .i64 0, .int .i64 0, .int .u32 x315004_1, .int .u32 x315005_1, .int .i64 x315006_1]) ?_ 4 _ rfl; (with_reducible repeat (first | refine blk_drewN ?_ _ | refine blk_drew ?_ | refine blk_alloc ?_ _)); refine blk_put (cs := #[.int .i64 0, .int .i64 0, .int .i64 0, .int .i64 x315003_1, .int .u32 x315004_1, .int .u32 x315005_1, .int .i64 x315006_1]) ?_ 3 _ rfl; (with_reducible repeat (first | refine blk_drewN ?_ _ | refine blk_drew ?_ | refine blk_alloc ?_ _)); refine blk_put (cs := #[.int .i64 0, .int .i64 0, .int .i64 x315002_1, .int .i64 x315003_1, .int .u32 x315004_1, .int .u32 x315005_1, .int .i64 x315006_1]) ?_ 2 _ rfl; (with_reducible repeat (first | refine blk_drewN ?_ _ | refine blk_drew ?_ | refine blk_alloc ?_ _)); refine blk_put (cs := #[.int .i64 0, .int .i64 x315001_1, .int .i64 x315002_1, .int .i64 x315003_1, .int .u32 x315004_1, .int .u32 x315005_1, .int .i64 x315006_1]) ?_ 1 _ rfl; (with_reducible repeat (first | refine blk_drewN ?_ _ | refine blk_drew ?_ | refine blk_alloc ?_ _)); refine blk_put (cs := #[.int .i64 x315000_1, .int .i64 x315001_1, .int .i64 x315002_1, .int .i64 x315003_1, .int .u32 x315004_1, .int .u32 x315005_1, .int .i64 x315006_1]) ?_ 0 _ rfl; (with_reducible repeat (first | refine blk_drewN ?_ _ | refine blk_drew ?_ | refine blk_alloc ?_ _)); exact BK314.out) Tryz.underlying27 rfl (by kernel_rfl)) rfl ?_
        exact ⟨by first | rfl | (simp [errW_none, errW_some] <;> rfl) | (simp [*, errW_none, errW_some] <;> rfl), by repeat (first | (with_reducible first | exact HB.out | apply below_alloc | apply pw_below_drewN | apply below_drew1 | refine below_set ?_ GE314.out) | exact HB.out)⟩

end Go.Proofs.YtfjamikpahmfhaaGreatDoor.P
