/- Printed by a program of the session out of the translation: what each function answers (.f), and that a call of it answers so (.calls). -/
import Derived.Test.YtfjamikpahmfhaaDoorPKinds
import Derived.Test.YtfjamikpahmfhaaDoorPEq0
import Derived.Test.YtfjamikpahmfhaaDoorPEq1
import Derived.Test.YtfjamikpahmfhaaDoorPPrefixParse
import Derived.Test.YtfjamikpahmfhaaDoorPPrefixRange
import Derived.Test.YtfjamikpahmfhaaDoorXAddr
import Derived.Test.YtfjamikpahmfhaaDoorXRange
namespace Go.Proofs.YtfjamikpahmfhaaDoor.P
open Go.RowKit Go.Proofs.YtfjamikpahmfhaaDoorW.PrintWords Go.Proofs.YtfjamikpahmfhaaDoorW.PrintLast Go.Proofs.YtfjamikpahmfhaaDoorW.PrintMore
attribute [local go_sem] max2_int min2_int max_two min_two max_three min_three max_four min_four   -- for this text's walks alone
set_option linter.unusedVariables false
set_option linter.unusedSimpArgs false

attribute [local go_sem high] eqA24 eqA26
/-! ### waystonelaw02_alive: function 13 -/
def waystonelaw02_alive.f (k : Nat)  : Option (Bool) := (prefix_Parse.f k (⟨#[49, 48, 46, 48, 46, 48, 46, 48, 47, 56]⟩ : ByteArray)).bind fun bt141 => ((prefix_Range.f bt141.1 bt141.2.1).bind fun bt145 => ((prefix_Split.f 1 6).bind fun bt149 => (if bt141.2.2 = 0 then (if bt145.2.2 = 0 then (if bt149.2 = 0 then (if (bt145.1 == 167772160 && (bt145.2.1 == 184549375)) = true then (if (bt149.1.length : Int) = 4 then (if 1 < (bt149.1.length : Int) then (if (((rd_T24 bt149.1 1).f0) == 2 && (((rd_T24 bt149.1 1).f1) == 31)) = true then ((prefix_Addr.f 258).bind fun t154 => (some (t154.toList == ([48, 46, 48, 46, 49, 46, 50] : List UInt8)))) else (none)) else (none)) else (none)) else (none)) else (none)) else (none)) else (none))))
theorem waystonelaw02_alive.mono : ∀ k, LeO (waystonelaw02_alive.f k ) (waystonelaw02_alive.f (k + 1) ) := by
  intro  k
  unfold waystonelaw02_alive.f
  repeat' first
      | (with_reducible exact prefix_Parse.mono _ _)
      | (with_reducible exact LeO.refl _)
      | (with_reducible exact LeO.none _)
      | (with_reducible refine LeO.ite ?_ ?_)
      | (with_reducible refine LeO.bind ?_ (fun _ => ?_))
      | exact prefix_Parse.mono _ _
      | exact LeO.none _
      | refine LeO.ite ?_ ?_
      | refine LeO.bind ?_ (fun _ => ?_)
set_option maxHeartbeats 8000000 in
set_option maxRecDepth 100000 in
theorem waystonelaw02_alive.calls (k : Nat)  (r : Bool) (w : World) (HLd : Laid w) (h : waystonelaw02_alive.f k  = some r) :
    Calls Tryd.prog 13 #[] w fun e w' => e = .returned (.bool r) ∧ Below w.heap.size w w' := by
  have hu24 := Tryd.underlying24
  have hu26 := Tryd.underlying26
  have HB := Aside0.mk (Below.refl w.heap.size w)
  have H : ((prefix_Parse.f k (⟨#[49, 48, 46, 48, 46, 48, 46, 48, 47, 56]⟩ : ByteArray)).bind fun bt141 => ((prefix_Range.f bt141.1 bt141.2.1).bind fun bt145 => ((prefix_Split.f 1 6).bind fun bt149 => (if bt141.2.2 = 0 then (if bt145.2.2 = 0 then (if bt149.2 = 0 then (if (bt145.1 == 167772160 && (bt145.2.1 == 184549375)) = true then (if (bt149.1.length : Int) = 4 then (if 1 < (bt149.1.length : Int) then (if (((rd_T24 bt149.1 1).f0) == 2 && (((rd_T24 bt149.1 1).f1) == 31)) = true then ((prefix_Addr.f 258).bind fun t154 => (some (t154.toList == ([48, 46, 48, 46, 49, 46, 50] : List UInt8)))) else (none)) else (none)) else (none)) else (none)) else (none)) else (none)) else (none))))) = some r := h
  clear h
  replace H := Option.bind_eq_some_iff.mp H
  obtain ⟨⟨t141, t142, t143⟩, A10, H⟩ := H
  replace H : ((prefix_Range.f t141 t142).bind fun bt145 => ((prefix_Split.f 1 6).bind fun bt149 => (if t143 = 0 then (if bt145.2.2 = 0 then (if bt149.2 = 0 then (if (bt145.1 == 167772160 && (bt145.2.1 == 184549375)) = true then (if (bt149.1.length : Int) = 4 then (if 1 < (bt149.1.length : Int) then (if (((rd_T24 bt149.1 1).f0) == 2 && (((rd_T24 bt149.1 1).f1) == 31)) = true then ((prefix_Addr.f 258).bind fun t154 => (some (t154.toList == ([48, 46, 48, 46, 49, 46, 50] : List UInt8)))) else (none)) else (none)) else (none)) else (none)) else (none)) else (none)) else (none)))) = some r := H
  have A1 := Aside0.mk A10
  clear A10
  replace H := Option.bind_eq_some_iff.mp H
  obtain ⟨⟨t145, t146, t147⟩, A20, H⟩ := H
  replace H : ((prefix_Split.f 1 6).bind fun bt149 => (if t143 = 0 then (if t147 = 0 then (if bt149.2 = 0 then (if (t145 == 167772160 && (t146 == 184549375)) = true then (if (bt149.1.length : Int) = 4 then (if 1 < (bt149.1.length : Int) then (if (((rd_T24 bt149.1 1).f0) == 2 && (((rd_T24 bt149.1 1).f1) == 31)) = true then ((prefix_Addr.f 258).bind fun t154 => (some (t154.toList == ([48, 46, 48, 46, 49, 46, 50] : List UInt8)))) else (none)) else (none)) else (none)) else (none)) else (none)) else (none)) else (none))) = some r := H
  have A2 := Aside0.mk A20
  clear A20
  replace H := Option.bind_eq_some_iff.mp H
  obtain ⟨⟨t149, t152⟩, A30, H⟩ := H
  replace H : (if t143 = 0 then (if t147 = 0 then (if t152 = 0 then (if (t145 == 167772160 && (t146 == 184549375)) = true then (if (t149.length : Int) = 4 then (if 1 < (t149.length : Int) then (if (((rd_T24 t149 1).f0) == 2 && (((rd_T24 t149 1).f1) == 31)) = true then ((prefix_Addr.f 258).bind fun t154 => (some (t154.toList == ([48, 46, 48, 46, 49, 46, 50] : List UInt8)))) else (none)) else (none)) else (none)) else (none)) else (none)) else (none)) else (none)) = some r := H
  have A3 := Aside0.mk A30
  clear A30
  by_cases c4 : t143 = 0
  · rw [if_pos c4] at H
    have c4b0 : (t143 == 0) = true := beq_iff_eq.mpr c4
    have c4b1 : (t143 != 0) = false := bne_eq_false_iff_eq.mpr c4
    clear c4
    by_cases c5 : t147 = 0
    · rw [if_pos c5] at H
      have c5b0 : (t147 == 0) = true := beq_iff_eq.mpr c5
      have c5b1 : (t147 != 0) = false := bne_eq_false_iff_eq.mpr c5
      clear c5
      by_cases c6 : t152 = 0
      · rw [if_pos c6] at H
        have c6b0 : (t152 == 0) = true := beq_iff_eq.mpr c6
        have c6b1 : (t152 != 0) = false := bne_eq_false_iff_eq.mpr c6
        clear c6
        by_cases c7 : (t145 == 167772160 && (t146 == 184549375)) = true
        · rw [if_pos c7] at H
          have c7b0 : (t145 == 167772160 && (t146 == 184549375)) = true := c7
          (try (have c7b1 : decide (t145 = 167772160 && (t146 == 184549375)) = true := by simpa using c7))
          (try (have c7b2 : (t145 == 167772160 && (t146 == 184549375)) = true := by simpa using c7))
          clear c7
          by_cases c8 : (t149.length : Int) = 4
          · rw [if_pos c8] at H
            have c8b0 : ((t149.length : Int) == 4) = true := beq_iff_eq.mpr c8
            have c8b1 : ((t149.length : Int) != 4) = false := bne_eq_false_iff_eq.mpr c8
            clear c8
            by_cases c9 : 1 < (t149.length : Int)
            · rw [if_pos c9] at H
              have c9b0 : decide (1 < (t149.length : Int)) = true := decide_eq_true c9
              have c9b1 : decide (1 < t149.length) = true := decide_eq_true (by omega)
              clear c9
              by_cases c10 : (((rd_T24 t149 1).f0) == 2 && (((rd_T24 t149 1).f1) == 31)) = true
              · rw [if_pos c10] at H
                have c10b0 : (((rd_T24 t149 1).f0) == 2 && (((rd_T24 t149 1).f1) == 31)) = true := c10
                (try (have c10b1 : decide (((rd_T24 t149 1).f0) = 2 && (((rd_T24 t149 1).f1) == 31)) = true := by simpa using c10))
                (try (have c10b2 : (((rd_T24 t149 1).f0) == 2 && (((rd_T24 t149 1).f1) == 31)) = true := by simpa using c10))
                clear c10
                replace H := Option.bind_eq_some_iff.mp H
                obtain ⟨t154, A110, H⟩ := H
                replace H : (some (t154.toList == ([48, 46, 48, 46, 49, 46, 50] : List UInt8))) = some r := H
                have A11 := Aside0.mk A110
                clear A110
                obtain rfl := Option.some.inj H
                go_enter Tryd.func13, Tryd.ntmps13
                go_wp2_with (first | ((with_reducible refine gate_callee (f := 14) rfl ?_); refine goesL_ (some 8) rfl rfl Tryd.func14 (by kernel_rfl) rfl #[.string (⟨#[49, 48, 46, 48, 46, 48, 46, 48, 47, 56]⟩ : ByteArray)] rfl (by (try simp only [List.map_toArray, List.map_cons, List.map_nil]); first | done | rfl | (simp only [List.length_drop, List.length_take]; rfl)) ?_; (with_reducible refine (prefix_Parse.calls k (⟨#[49, 48, 46, 48, 46, 48, 46, 48, 47, 56]⟩ : ByteArray) t141 t142 t143 _ ?side1 A1.out).mono ?_); (case side1 => exact HLd.below (by repeat (first | (with_reducible first | exact HB.out | apply below_alloc | apply pw_below_drewN | apply below_drew1) | exact HB.out))); rintro e w12 ⟨rfl, hb⟩; refine ⟨_, rfl, ?_⟩; have n0_ := Aside0.mk (below_step (by repeat (first | (with_reducible first | exact HB.out | apply below_alloc | apply pw_below_drewN | apply below_drew1) | exact HB.out)) hb); clear HB; have HB := n0_; clear n0_; (try clear hb); (try clear hb2); (try clear hk); (try clear hi)) | ((with_reducible refine gate_dst (N := 1) rfl ?_); refine box_event ?hg (N := 1) ?hd (cs := #[.int .u32 0, .int .i64 0]) (t := 24) ?hr ?_; (case hd => rfl); (case hg => rfl); (case hr => first | (go_simp; done) | (go_simp; rfl)); intro gb144 hg w13 hbox hb; have n0_ := Aside0.mk (below_step (by repeat (first | (with_reducible first | exact HB.out | apply below_alloc | apply pw_below_drewN | apply below_drew1) | exact HB.out)) hb); have n1_ := Aside0.mk (hbox); have n2_ := Aside0.mk ((by rw [hg]; exact (below_size (by repeat (first | (with_reducible first | exact HB.out | apply below_alloc | apply pw_below_drewN | apply below_drew1) | exact HB.out))) : w.heap.size ≤ gb144)); have n3_ := Aside0.mk ((by rw [hg]; exact (below_size (by repeat (first | (with_reducible first | exact HB.out | apply below_alloc | apply pw_below_drewN | apply below_drew1) | exact HB.out))) : w.heap.size ≤ gb144)); clear HB; have HB := n0_; have BK144 := n1_; have GW144 := n2_; have GE144 := n3_; clear n0_ n1_ n2_ n3_; clear hb hbox hg; have hcz14_0 : w13.cell? ⟨gb144, 0, none⟩ = some (.int .u32 0) := (blk_cell BK144.out 0).trans rfl; have hcz14_1 : w13.cell? ⟨gb144, 1, none⟩ = some (.int .i64 0) := (blk_cell BK144.out 1).trans rfl; have hfz14_0 := blk_frozen BK144.out 0; have hfz14_1 := blk_frozen BK144.out 1) | ((with_reducible refine gate_callee (f := 16) rfl ?_); refine goesL_ (some 13) rfl rfl Tryd.func16 (by kernel_rfl) rfl #[.agg #[.int .u32 t141, .int .i64 t142]] rfl (by (try simp only [List.map_toArray, List.map_cons, List.map_nil]); first | done | rfl | (simp only [List.length_drop, List.length_take]; rfl)) ?_; (with_reducible refine (prefix_Range.calls t141 t142 t145 t146 t147 _ A2.out).mono ?_); rintro e w15 ⟨rfl, hb⟩; refine ⟨_, rfl, ?_⟩; have n0_ := Aside0.mk (blk_below (g := gb144) (o := .cells #[.int .u32 t141, .int .i64 t142] 24 (0, 0)) (by (with_reducible repeat (first | refine blk_drewN ?_ _ | refine blk_drew ?_ | refine blk_alloc ?_ _)); refine blk_put (cs := #[.int .u32 t141, .int .i64 0]) ?_ 1 _ rfl; (with_reducible repeat (first | refine blk_drewN ?_ _ | refine blk_drew ?_ | refine blk_alloc ?_ _)); refine blk_put (cs := #[.int .u32 0, .int .i64 0]) ?_ 0 _ rfl; (with_reducible repeat (first | refine blk_drewN ?_ _ | refine blk_drew ?_ | refine blk_alloc ?_ _)); exact BK144.out) hb); have n1_ := Aside0.mk (below_step (by repeat (first | (with_reducible first | exact HB.out | apply below_alloc | apply pw_below_drewN | apply below_drew1 | refine below_set ?_ GE144.out) | exact HB.out)) hb); clear BK144; clear HB; have BK144 := n0_; have HB := n1_; clear n0_ n1_; (try clear hb); (try clear hb2); (try clear hk); (try clear hi)) | ((with_reducible refine gate_dst (N := 3) rfl ?_); refine box_event ?hg (N := 3) ?hd (cs := #[.int .u32 0, .int .u32 0]) (t := 26) ?hr ?_; (case hd => rfl); (case hg => rfl); (case hr => first | (go_simp; done) | (go_simp; rfl)); intro gb148 hg w16 hbox hb; have n0_ := Aside0.mk (blk_below (g := gb144) (o := .cells #[.int .u32 t141, .int .i64 t142] 24 (0, 0)) (by (with_reducible repeat (first | refine blk_drewN ?_ _ | refine blk_drew ?_ | refine blk_alloc ?_ _)); exact BK144.out) hb); have n1_ := Aside0.mk (below_step (by repeat (first | (with_reducible first | exact HB.out | apply below_alloc | apply pw_below_drewN | apply below_drew1 | refine below_set ?_ GE144.out) | exact HB.out)) hb); have n2_ := Aside0.mk (hbox); have n3_ := Aside0.mk ((by rw [hg]; exact (below_size (by repeat (first | (with_reducible first | exact HB.out | apply below_alloc | apply pw_below_drewN | apply below_drew1 | refine below_set ?_ GE144.out) | exact HB.out))) : w.heap.size ≤ gb148)); have n4_ := Aside0.mk ((by rw [hg]; exact (below_size (by repeat (first | (with_reducible first | exact HB.out | apply below_alloc | apply pw_below_drewN | apply below_drew1 | refine below_set ?_ GE144.out) | exact HB.out))) : w.heap.size ≤ gb148)); have n5_ := Aside0.mk ((by rw [hg]; exact Nat.ne_of_lt (blk_lt (g := gb144) (o := .cells #[.int .u32 t141, .int .i64 t142] 24 (0, 0)) (by (with_reducible repeat (first | refine blk_drewN ?_ _ | refine blk_drew ?_ | refine blk_alloc ?_ _)); exact BK144.out)) : gb144 ≠ gb148)); have n6_ := Aside0.mk ((by rw [hg]; exact Nat.ne_of_gt (blk_lt (g := gb144) (o := .cells #[.int .u32 t141, .int .i64 t142] 24 (0, 0)) (by (with_reducible repeat (first | refine blk_drewN ?_ _ | refine blk_drew ?_ | refine blk_alloc ?_ _)); exact BK144.out)) : gb148 ≠ gb144)); clear BK144; clear HB; have BK144 := n0_; have HB := n1_; have BK148 := n2_; have GW148 := n3_; have GE148 := n4_; have NB144_148 := n5_; have NB148_144 := n6_; clear n0_ n1_ n2_ n3_ n4_ n5_ n6_; clear hb hbox hg; have hnb17 := NB148_144.out; have hnc17 := NB144_148.out; have hcz18_0 : w16.cell? ⟨gb148, 0, none⟩ = some (.int .u32 0) := (blk_cell BK148.out 0).trans rfl; have hcz18_1 : w16.cell? ⟨gb148, 1, none⟩ = some (.int .u32 0) := (blk_cell BK148.out 1).trans rfl; have hfz18_0 := blk_frozen BK148.out 0; have hfz18_1 := blk_frozen BK148.out 1) | ((with_reducible refine gate_callee (f := 36) rfl ?_); refine goesL_ (some 18) rfl rfl Tryd.func36 (by kernel_rfl) rfl #[.agg #[.int .u32 1, .int .u32 6]] rfl (by (try simp only [List.map_toArray, List.map_cons, List.map_nil]); first | done | rfl | (simp only [List.length_drop, List.length_take]; rfl)) ?_; (with_reducible refine (prefix_Split.calls 1 6 t149 t152 _ ?side1 A3.out).mono ?_); (case side1 => exact HLd.below (by repeat (first | (with_reducible first | exact HB.out | apply below_alloc | apply pw_below_drewN | apply below_drew1 | refine below_set ?_ GE144.out | refine below_set ?_ GE148.out) | exact HB.out))); rintro e w19 ⟨v150, rfl, ho0, hb⟩; refine ⟨_, rfl, ?_⟩; have n0_ := Aside0.mk (Kd.R_lower (Kd.R_newB ho0 (g := gb144) (o := .cells #[.int .u32 t141, .int .i64 t142] 24 (0, 0)) (by (with_reducible repeat (first | refine blk_drewN ?_ _ | refine blk_drew ?_ | refine blk_alloc ?_ _)); refine blk_far ?_ NB144_148.out _; (with_reducible repeat (first | refine blk_drewN ?_ _ | refine blk_drew ?_ | refine blk_alloc ?_ _)); refine blk_far ?_ NB144_148.out _; (with_reducible repeat (first | refine blk_drewN ?_ _ | refine blk_drew ?_ | refine blk_alloc ?_ _)); exact BK144.out)) (below_size (by repeat (first | (with_reducible first | exact HB.out | apply below_alloc | apply pw_below_drewN | apply below_drew1 | refine below_set ?_ GE144.out | refine below_set ?_ GE148.out) | exact HB.out)))); have n1_ := Aside0.mk (blk_below (g := gb144) (o := .cells #[.int .u32 t141, .int .i64 t142] 24 (0, 0)) (by (with_reducible repeat (first | refine blk_drewN ?_ _ | refine blk_drew ?_ | refine blk_alloc ?_ _)); refine blk_far ?_ NB144_148.out _; (with_reducible repeat (first | refine blk_drewN ?_ _ | refine blk_drew ?_ | refine blk_alloc ?_ _)); refine blk_far ?_ NB144_148.out _; (with_reducible repeat (first | refine blk_drewN ?_ _ | refine blk_drew ?_ | refine blk_alloc ?_ _)); exact BK144.out) hb); have n2_ := Aside0.mk (blk_below (g := gb148) (o := .cells #[.int .u32 t145, .int .u32 t146] 26 (0, 0)) (by (with_reducible repeat (first | refine blk_drewN ?_ _ | refine blk_drew ?_ | refine blk_alloc ?_ _)); refine blk_put (cs := #[.int .u32 t145, .int .u32 0]) ?_ 1 _ rfl; (with_reducible repeat (first | refine blk_drewN ?_ _ | refine blk_drew ?_ | refine blk_alloc ?_ _)); refine blk_put (cs := #[.int .u32 0, .int .u32 0]) ?_ 0 _ rfl; (with_reducible repeat (first | refine blk_drewN ?_ _ | refine blk_drew ?_ | refine blk_alloc ?_ _)); exact BK148.out) hb); have n3_ := Aside0.mk (below_step (by repeat (first | (with_reducible first | exact HB.out | apply below_alloc | apply pw_below_drewN | apply below_drew1 | refine below_set ?_ GE144.out | refine below_set ?_ GE148.out) | exact HB.out)) hb); clear BK144; clear BK148; clear HB; have HO151 := n0_; have BK144 := n1_; have BK148 := n2_; have HB := n3_; clear n0_ n1_ n2_ n3_; (try clear hb); (try clear hb2); (try clear hk); (try clear hi); (try clear ho0); have hcz20_0 : w19.cell? ⟨gb148, 0, none⟩ = some (.int .u32 t145) := (blk_cell BK148.out 0).trans rfl; have hcz20_1 : w19.cell? ⟨gb148, 1, none⟩ = some (.int .u32 t146) := (blk_cell BK148.out 1).trans rfl; have hfz20_0 := blk_frozen BK148.out 0; have hfz20_1 := blk_frozen BK148.out 1; obtain ⟨Ao21, co21, eo21⟩ := Kd.R_slice HO151.out; subst eo21; have p153 : 0 ≤ (1 : Int) := (by omega); have q153 : 1 < (t149.length : Int) := of_decide_eq_true (by first | (with_reducible assumption) | assumption); obtain ⟨ad153, e153, hx153_0, hx153_1⟩ := at_T24 (Kd.R_reads' HO151.out).2.2 1 p153 q153; cases e153; (try simp only [show (1 : Int).toNat = 1 from rfl, Nat.reduceMul, Nat.reduceEqDiff, Go.Addr.add, ↓reduceIte] at hx153_0); (try simp only [show (1 : Int).toNat = 1 from rfl, Nat.reduceMul, Nat.reduceEqDiff, Go.Addr.add, ↓reduceIte] at hx153_1); have qi153 : (1 < t149.length) = True := eq_true (by omega); (try rw [show ((1 : Int)).toNat = 1 from rfl] at hx153_0); (try rw [show 1 * 2 = 2 from rfl] at hx153_0); (try rw [show ((1 : Int)).toNat = 1 from rfl] at hx153_1); (try rw [show 1 * 2 = 2 from rfl] at hx153_1); replace p153 := eq_true p153; replace q153 := eq_true q153) | (go_at_call 9; (with_reducible refine (prefix_Addr.calls 258 t154 _ ?side1 A11.out).mono ?_); (case side1 => exact HLd.below (by repeat (first | (with_reducible first | exact HB.out | apply below_alloc | apply pw_below_drewN | apply below_drew1 | refine below_set ?_ GE144.out | refine below_set ?_ GE148.out) | exact HB.out))); rintro e w22 ⟨rfl, hb⟩; have n0_ := Aside0.mk (Kd.R_below (by (with_reducible repeat (first | apply Kd.R_alloc | apply Kd.R_drewN | apply Kd.R_drew)); exact HO151.out) hb); have n1_ := Aside0.mk (blk_below (g := gb144) (o := .cells #[.int .u32 t141, .int .i64 t142] 24 (0, 0)) (by (with_reducible repeat (first | refine blk_drewN ?_ _ | refine blk_drew ?_ | refine blk_alloc ?_ _)); exact BK144.out) hb); have n2_ := Aside0.mk (blk_below (g := gb148) (o := .cells #[.int .u32 t145, .int .u32 t146] 26 (0, 0)) (by (with_reducible repeat (first | refine blk_drewN ?_ _ | refine blk_drew ?_ | refine blk_alloc ?_ _)); exact BK148.out) hb); have n3_ := Aside0.mk (below_step (by repeat (first | (with_reducible first | exact HB.out | apply below_alloc | apply pw_below_drewN | apply below_drew1 | refine below_set ?_ GE144.out | refine below_set ?_ GE148.out) | exact HB.out)) hb); clear HO151; clear BK144; clear BK148; clear HB; have HO151 := n0_; have BK144 := n1_; have BK148 := n2_; have HB := n3_; clear n0_ n1_ n2_ n3_; (try clear hb); (try clear hb2); (try clear hk); (try clear hi)))
                go_ret
                exact ⟨by first | rfl | (simp [errW_none, errW_some] <;> rfl) | (simp [*, errW_none, errW_some] <;> rfl), by repeat (first | (with_reducible first | exact HB.out | apply below_alloc | apply pw_below_drewN | apply below_drew1 | refine below_set ?_ GE144.out | refine below_set ?_ GE148.out) | exact HB.out)⟩
              · rw [if_neg c10] at H
                exact absurd H (by simp)
            · rw [if_neg c9] at H
              exact absurd H (by simp)
          · rw [if_neg c8] at H
            exact absurd H (by simp)
        · rw [if_neg c7] at H
          exact absurd H (by simp)
      · rw [if_neg c6] at H
        exact absurd H (by simp)
    · rw [if_neg c5] at H
      exact absurd H (by simp)
  · rw [if_neg c4] at H
    exact absurd H (by simp)

end Go.Proofs.YtfjamikpahmfhaaDoor.P
