/- Printed by a program of the session out of the translation: what each function answers (.f), and that a call of it answers so (.calls). -/
import Derived.Test.YtfjamikpahmfhaaGreatDoorPKinds
import Derived.Test.YtfjamikpahmfhaaGreatDoorPEq0
import Derived.Test.YtfjamikpahmfhaaGreatDoorPWaystonelaw07Alive
import Derived.Test.YtfjamikpahmfhaaGreatDoorPWaystoneref07All
import Derived.Test.YtfjamikpahmfhaaGreatDoorPWaystoneref07Find
import Derived.Test.YtfjamikpahmfhaaGreatDoorPWaystoneref07Match
import Derived.Test.YtfjamikpahmfhaaGreatDoorPWaystoneref07Same
import Derived.Test.YtfjamikpahmfhaaGreatDoorPWaystoneref07Denies
import Derived.Test.YtfjamikpahmfhaaGreatDoorXFind
import Derived.Test.YtfjamikpahmfhaaGreatDoorXMatch
namespace Go.Proofs.YtfjamikpahmfhaaGreatDoor.P
open Go.RowKit Go.Proofs.YtfjamikpahmfhaaGreatDoorW.PrintWords Go.Proofs.YtfjamikpahmfhaaGreatDoorW.PrintLast Go.Proofs.YtfjamikpahmfhaaGreatDoorW.PrintMore
attribute [local go_sem] max2_int min2_int max_two min_two max_three min_three max_four min_four   -- for this text's walks alone
set_option linter.unusedVariables false
set_option linter.unusedSimpArgs false

attribute [local go_sem high] eqA27
/-! ### waystonelaw07_RuleMatches: function 4 -/
def waystonelaw07_RuleMatches.j0 : Nat → List (S27) → Int → Bool → Int → Int → Option (Bool)
  | 0, _, _, _, _, _ => none
  | k + 1, x0, x2, x26, x342000, x342001 => if x26 = true then ((waystonelaw07_alive.f k).bind fun t343 => (some t343)) else ((some (([] : List (S27)) : List (S27))).bind fun y344 => (if y344.length + x0.length < 2932031007402 then ((rule_Find.f x0 x342000).bind fun bt350 => ((waystoneref07_Find.f k x0 x342000).bind fun bt359 => ((rule_Match.f x0 x342001 x2).bind fun bt368 => ((waystoneref07_Match.f k x0 x342001 x2).bind fun bt377 => ((waystoneref07_Same.f k x0 (y344 ++ x0)).bind fun t386 => ((waystonelaw07_alive.f k).bind fun t387 => (if t387 = true then (if (bt350.1 == bt359.1 && (bt350.2.1 == bt359.2.1 && (bt350.2.2.1 == bt359.2.2.1 && (bt350.2.2.2.1 == bt359.2.2.2.1 && ((bt350.2.2.2.2.1 == bt359.2.2.2.2.1 && (bt350.2.2.2.2.2.1 == bt359.2.2.2.2.2.1)) && (bt350.2.2.2.2.2.2.1 == bt359.2.2.2.2.2.2.1)))))) = true then (if (bt350.2.2.2.2.2.2.2 == bt359.2.2.2.2.2.2.2) = true then (if (bt368.1 == bt377.1 && (bt368.2.1 == bt377.2.1 && (bt368.2.2.1 == bt377.2.2.1 && (bt368.2.2.2.1 == bt377.2.2.2.1 && ((bt368.2.2.2.2.1 == bt377.2.2.2.2.1 && (bt368.2.2.2.2.2.1 == bt377.2.2.2.2.2.1)) && (bt368.2.2.2.2.2.2.1 == bt377.2.2.2.2.2.2.1)))))) = true then (if (bt368.2.2.2.2.2.2.2 == bt377.2.2.2.2.2.2.2) = true then ((rule_Denies.f x0 x342001 x2).bind fun t388 => ((waystoneref07_Denies.f k x0 x342001 x2).bind fun t389 => (if (t388 == t389) = true then (some t386) else (none)))) else (none)) else (none)) else (none)) else (none)) else (none)))))))) else (none)))
def waystonelaw07_RuleMatches.f (k : Nat) (l0 : List (S27)) (a1_0 : Int) (a1_1 : Int) (a2 : Int) : Option (Bool) := (waystoneref07_All.f k l0).bind fun t342 => (if (l0.length : Int) > 60 then (waystonelaw07_RuleMatches.j0 k l0 a2 true a1_0 a1_1) else (waystonelaw07_RuleMatches.j0 k l0 a2 (!t342) a1_0 a1_1))
theorem waystonelaw07_RuleMatches.mono_l : ∀ k, (∀ y0 y1 y2 y3 y4, LeO (waystonelaw07_RuleMatches.j0 k y0 y1 y2 y3 y4) (waystonelaw07_RuleMatches.j0 (k + 1) y0 y1 y2 y3 y4))
  | 0 => fun _ _ _ _ _ r h => by simp [waystonelaw07_RuleMatches.j0] at h
  | k + 1 => by
    have ih0 := waystonelaw07_RuleMatches.mono_l k
    · intro y0 y1 y2 y3 y4
      unfold waystonelaw07_RuleMatches.j0
      repeat' first
      | (with_reducible exact ih0 _ _ _ _ _)
      | (with_reducible exact waystonelaw07_alive.mono _)
      | (with_reducible exact waystoneref07_All.mono _ _)
      | (with_reducible exact waystoneref07_Denies.mono _ _ _ _)
      | (with_reducible exact waystoneref07_Find.mono _ _ _)
      | (with_reducible exact waystoneref07_Match.mono _ _ _ _)
      | (with_reducible exact waystoneref07_Same.mono _ _ _)
      | (with_reducible exact LeO.refl _)
      | (with_reducible exact LeO.none _)
      | (with_reducible refine LeO.ite ?_ ?_)
      | (with_reducible refine LeO.bind ?_ (fun _ => ?_))
      | exact ih0 _ _ _ _ _
      | exact waystonelaw07_alive.mono _
      | exact waystoneref07_All.mono _ _
      | exact waystoneref07_Denies.mono _ _ _ _
      | exact waystoneref07_Find.mono _ _ _
      | exact waystoneref07_Match.mono _ _ _ _
      | exact waystoneref07_Same.mono _ _ _
      | exact LeO.none _
      | refine LeO.ite ?_ ?_
      | refine LeO.bind ?_ (fun _ => ?_)
theorem waystonelaw07_RuleMatches.mono : ∀ a0 a1 a2 a3 k, LeO (waystonelaw07_RuleMatches.f k a0 a1 a2 a3) (waystonelaw07_RuleMatches.f (k + 1) a0 a1 a2 a3) := by
  intro a0 a1 a2 a3 k
  have ih0 := waystonelaw07_RuleMatches.mono_l k
  unfold waystonelaw07_RuleMatches.f
  repeat' first
      | (with_reducible exact ih0 _ _ _ _ _)
      | (with_reducible exact waystonelaw07_alive.mono _)
      | (with_reducible exact waystoneref07_All.mono _ _)
      | (with_reducible exact waystoneref07_Denies.mono _ _ _ _)
      | (with_reducible exact waystoneref07_Find.mono _ _ _)
      | (with_reducible exact waystoneref07_Match.mono _ _ _ _)
      | (with_reducible exact waystoneref07_Same.mono _ _ _)
      | (with_reducible exact LeO.refl _)
      | (with_reducible exact LeO.none _)
      | (with_reducible refine LeO.ite ?_ ?_)
      | (with_reducible refine LeO.bind ?_ (fun _ => ?_))
      | exact ih0 _ _ _ _ _
      | exact waystonelaw07_alive.mono _
      | exact waystoneref07_All.mono _ _
      | exact waystoneref07_Denies.mono _ _ _ _
      | exact waystoneref07_Find.mono _ _ _
      | exact waystoneref07_Match.mono _ _ _ _
      | exact waystoneref07_Same.mono _ _ _
      | exact LeO.none _
      | refine LeO.ite ?_ ?_
      | refine LeO.bind ?_ (fun _ => ?_)
def waystonelaw07_RuleMatches.T10 : Bool × List (List Nat × List Nat) := (true, [([], []), ([0, 0], [0]), ([1], [1]), ([1], [1]), ([2, 3, 1], [1, 2, 3]), ([1, 4], [1, 4]), ([5, 1], [5]), ([6], [6]), ([6], [6]), ([7, 8, 6], [6, 7, 8]), ([6, 9], [6, 9]), ([10, 6], [10]), ([11], [11]), ([11], [11]), ([12, 13, 11], [11, 12, 13]), ([11, 14], [11, 14]), ([15, 11], [15]), ([16], [16]), ([16], [16]), ([17, 18, 16], [16, 17, 18]), ([16, 19], [16, 19]), ([20, 16], [20]), ([21], [21]), ([21], [21]), ([23, 21], [21, 23]), ([21], [21]), ([22, 24, 25, 21, 21], [21, 22, 24, 25]), ([21], [21]), ([21], [21]), ([28, 21], [21, 28]), ([21], [21]), ([27, 29, 30, 26, 21], [21, 27, 29, 30]), ([26, 31, 21], [21, 26, 31]), ([21, 32], [21, 32]), ([33, 31], [33]), ([34], [34]), ([34, 35], [34, 35]), ([36, 34, 0, 1, 2, 3, 4, 5, 6, 7, 8, 9, 10, 11, 12, 13, 14, 15, 16, 17, 18, 19, 20, 21, 22, 23, 24, 25, 26, 27, 28, 29, 30, 31, 32, 33, 34, 35, 36], [36])])
def waystonelaw07_RuleMatches.B10 : List Nat := [0, 1, 3, 3, 15, 31, 63, 127, 127, 511, 1023, 2047, 4095, 4095, 16383, 32767, 65535, 131071, 131071, 524287, 1048575, 2097151, 4194303, 4194303, 12582911, 4194303, 67108863, 4194303, 4194303, 272629759, 4194303, 2147483647, 4294967295, 8589934591, 17179869183, 34359738367, 68719476735, 137438953471]
theorem waystonelaw07_RuleMatches.tab10 : rtab .any (opsOf Tryz.f4 10) = waystonelaw07_RuleMatches.T10 := by kernel_rfl
theorem waystonelaw07_RuleMatches.bits10 : waitsOk waystonelaw07_RuleMatches.T10.2 waystonelaw07_RuleMatches.B10 = true := by kernel_rfl
set_option maxHeartbeats 8000000 in
set_option maxRecDepth 100000 in
theorem waystonelaw07_RuleMatches.calls (k : Nat) (A0 : Option Addr) (c0 : Nat) (l0 : List (S27)) (a1_0 : Int) (a1_1 : Int) (a2 : Int) (r : Bool) (w : World) (hr0 : Kd.C k27 w A0 l0.length l0) (hc0 : l0.length ≤ c0) (HLd : Laid w) (h : waystonelaw07_RuleMatches.f k l0 a1_0 a1_1 a2 = some r) :
    Calls Tryz.prog 4 #[.slice A0 l0.length c0, .agg #[.int .i64 a1_0, .int .i64 a1_1], .int .u32 a2] w fun e w' => e = .returned (.bool r) ∧ Below w.heap.size w w' := by
  have hu36 := Tryz.underlying36
  have hu27 := Tryz.underlying27
  have HR0 := Aside0.mk hr0
  have HC0 := Aside0.mk hc0
  clear hr0 hc0
  have HB := Aside0.mk (Below.refl w.heap.size w)
  have H : ((waystoneref07_All.f k l0).bind fun t342 => (if (l0.length : Int) > 60 then (waystonelaw07_RuleMatches.j0 k l0 a2 true a1_0 a1_1) else (waystonelaw07_RuleMatches.j0 k l0 a2 (!t342) a1_0 a1_1))) = some r := h
  clear h
  replace H := Option.bind_eq_some_iff.mp H
  obtain ⟨t342, A40, H⟩ := H
  replace H : (if (l0.length : Int) > 60 then (waystonelaw07_RuleMatches.j0 k l0 a2 true a1_0 a1_1) else (waystonelaw07_RuleMatches.j0 k l0 a2 (!t342) a1_0 a1_1)) = some r := H
  have A4 := Aside0.mk A40
  clear A40
  have HC5 := Aside0.mk H
  clear H
  go_enter Tryz.func4, Tryz.ntmps4
  go_upto_region 2 with (first | ((with_reducible refine gate_dst (N := 4) rfl ?_); refine box_event ?hg (N := 4) ?hd (cs := #[.int .i64 a1_0, .int .i64 a1_1]) (t := 36) ?hr ?_; (case hd => rfl); (case hg => rfl); (case hr => first | (go_simp; done) | (go_simp; rfl)); intro gb341 hg w6 hbox hb; have n0_ := Aside0.mk (below_step (by repeat (first | (with_reducible first | exact HB.out | apply below_alloc | apply pw_below_drewN | apply below_drew1) | exact HB.out)) hb); have n1_ := Aside0.mk (hbox); have n2_ := Aside0.mk ((by rw [hg]; exact (below_size (by repeat (first | (with_reducible first | exact HB.out | apply below_alloc | apply pw_below_drewN | apply below_drew1) | exact HB.out))) : w.heap.size ≤ gb341)); have n3_ := Aside0.mk ((by rw [hg]; exact (below_size (by repeat (first | (with_reducible first | exact HB.out | apply below_alloc | apply pw_below_drewN | apply below_drew1) | exact HB.out))) : w.heap.size ≤ gb341)); clear HB; have HB := n0_; have BK341 := n1_; have GW341 := n2_; have GE341 := n3_; clear n0_ n1_ n2_ n3_; clear hb hbox hg) | ((with_reducible refine gate_callee (f := 16) rfl ?_); refine goesL_ (some 19) rfl rfl Tryz.func16 (by kernel_rfl) rfl #[.slice A0 l0.length c0] rfl (by (try simp only [List.map_toArray, List.map_cons, List.map_nil]); first | done | rfl | (simp only [List.length_drop, List.length_take]; rfl)) ?_; (with_reducible refine (waystoneref07_All.calls k _ _ l0 t342 _ ?side1 ?side2 A4.out).mono ?_); (case side1 => repeat (first | exact (Kd.C_below HR0.out HB.out) | (with_reducible refine Kd.C_alloc ?_ _) | (with_reducible refine Kd.C_drewN ?_ _) | (with_reducible refine Kd.C_drew ?_))); (case side2 => exact HC0.out); rintro e w7 ⟨rfl, hb⟩; refine ⟨_, rfl, ?_⟩; have n0_ := Aside0.mk (blk_below (g := gb341) (o := .cells #[.int .i64 a1_0, .int .i64 a1_1] 36 (0, 0)) (by (with_reducible repeat (first | refine blk_drewN ?_ _ | refine blk_drew ?_ | refine blk_alloc ?_ _)); exact BK341.out) hb); have n1_ := Aside0.mk (below_step (by repeat (first | (with_reducible first | exact HB.out | apply below_alloc | apply pw_below_drewN | apply below_drew1 | refine below_set ?_ GE341.out) | exact HB.out)) hb); clear BK341; clear HB; have BK341 := n0_; have HB := n1_; clear n0_ n1_; (try clear hb); (try clear hb2); (try clear hk); (try clear hi)))
  (try simp only [Act.put, List.setIfInBounds_toArray, List.set_cons_zero, List.set_cons_succ])
  go_cut [26] (fun v26 wc => ∃ (kq : Nat) (x26_4 : Bool), v26 = .bool x26_4 ∧ Aside0 (waystonelaw07_RuleMatches.j0 kq l0 a2 x26_4 a1_0 a1_1 = some r) ∧ Aside0 (kq ≤ k) ∧ Aside0 (wc.heap[gb341]? = some (.cells #[.int .i64 a1_0, .int .i64 a1_1] 36 (0, 0))) ∧ Aside0 (Below w.heap.size w wc))
  case first =>
    have H := HC5.out
    clear HC5
    by_cases c8 : (l0.length : Int) > 60
    · rw [if_pos c8] at H
      have c8b0 : decide (60 < (l0.length : Int)) = true := decide_eq_true c8
      have c8b1 : decide (60 < l0.length) = true := decide_eq_true (by omega)
      clear c8
      (first | rw [c8b0] | (simp only [i64_w, i32_w]; rw [c8b0]) | skip)
      have H' := Aside0.mk H
      clear H
      go_wp2
      go_meet
      case rel => exact ⟨_, (true), (by first | rfl | (simp; done) | (simp [*]; done)), H', ⟨by first | omega | exact Nat.le_refl _⟩, ⟨by (with_reducible repeat (first | refine blk_drewN ?_ _ | refine blk_drew ?_ | refine blk_alloc ?_ _)); exact BK341.out⟩, ⟨by repeat (first | (with_reducible first | exact HB.out | apply below_alloc | apply pw_below_drewN | apply below_drew1 | refine below_set ?_ GE341.out) | exact HB.out)⟩⟩
    · rw [if_neg c8] at H
      have c8b0 : decide (60 < (l0.length : Int)) = false := decide_eq_false c8
      have c8b1 : decide (60 < l0.length) = false := decide_eq_false (by omega)
      clear c8
      (first | rw [c8b0] | (simp only [i64_w, i32_w]; rw [c8b0]) | skip)
      have H' := Aside0.mk H
      clear H
      go_wp2
      go_meet
      case rel => exact ⟨_, (!t342), (by first | rfl | (simp; done) | (simp [*]; done)), H', ⟨by first | omega | exact Nat.le_refl _⟩, ⟨by (with_reducible repeat (first | refine blk_drewN ?_ _ | refine blk_drew ?_ | refine blk_alloc ?_ _)); exact BK341.out⟩, ⟨by repeat (first | (with_reducible first | exact HB.out | apply below_alloc | apply pw_below_drewN | apply below_drew1 | refine below_set ?_ GE341.out) | exact HB.out)⟩⟩
  case rest =>
    clear HC5
    try clear c1
    try clear p2
    try clear c4
    try clear c8
    try clear c8b0
    try clear c8b1
    obtain ⟨kq, x26_4, rfl, HA, HJ4, BK341, HB⟩ := hcut
    cases kq with
    | zero => exact absurd HA.out (by simp [waystonelaw07_RuleMatches.j0])
    | succ kj4 =>
      have H := HA.out
      clear HA
      simp only [waystonelaw07_RuleMatches.j0] at H
      by_cases c9 : x26_4 = true
      · subst c9
        have H1 : ((waystonelaw07_alive.f kj4).bind fun t343 => (some t343)) = some r := by rw [if_pos rfl] at H; exact H
        clear H
        have H := H1
        clear H1
        replace H := Option.bind_eq_some_iff.mp H
        obtain ⟨t343, A100, H⟩ := H
        replace H : (some t343) = some r := H
        have A10 := Aside0.mk A100
        clear A100
        obtain rfl := Option.some.inj H
        go_wp2_with (first | ((with_reducible refine gate_callee (f := 13) rfl ?_); refine goesL_ (some 27) rfl rfl Tryz.func13 (by kernel_rfl) rfl #[] rfl (by (try simp only [List.map_toArray, List.map_cons, List.map_nil]); first | done | rfl | (simp only [List.length_drop, List.length_take]; rfl)) ?_; (with_reducible refine (waystonelaw07_alive.calls kj4  t343 _ ?side1 A10.out).mono ?_); (case side1 => exact HLd.below (by repeat (first | (with_reducible first | exact HB.out | apply below_alloc | apply pw_below_drewN | apply below_drew1 | refine below_set ?_ GE341.out) | exact HB.out))); rintro e w11 ⟨rfl, hb⟩; refine ⟨_, rfl, ?_⟩; have n0_ := Aside0.mk (blk_below (g := gb341) (o := .cells #[.int .i64 a1_0, .int .i64 a1_1] 36 (0, 0)) (by (with_reducible repeat (first | refine blk_drewN ?_ _ | refine blk_drew ?_ | refine blk_alloc ?_ _)); exact BK341.out) hb); have n1_ := Aside0.mk (below_step (by repeat (first | (with_reducible first | exact HB.out | apply below_alloc | apply pw_below_drewN | apply below_drew1 | refine below_set ?_ GE341.out) | exact HB.out)) hb); clear BK341; clear HB; have BK341 := n0_; have HB := n1_; clear n0_ n1_; (try clear hb); (try clear hb2); (try clear hk); (try clear hi)))
        go_ret
        exact ⟨by first | rfl | (simp [errW_none, errW_some] <;> rfl) | (simp [*, errW_none, errW_some] <;> rfl), by repeat (first | (with_reducible first | exact HB.out | apply below_alloc | apply pw_below_drewN | apply below_drew1 | refine below_set ?_ GE341.out) | exact HB.out)⟩
      · replace c9 := Bool.eq_false_iff.mpr c9
        subst c9
        have H1 : ((some (([] : List (S27)) : List (S27))).bind fun y344 => (if y344.length + l0.length < 2932031007402 then ((rule_Find.f l0 a1_0).bind fun bt350 => ((waystoneref07_Find.f kj4 l0 a1_0).bind fun bt359 => ((rule_Match.f l0 a1_1 a2).bind fun bt368 => ((waystoneref07_Match.f kj4 l0 a1_1 a2).bind fun bt377 => ((waystoneref07_Same.f kj4 l0 (y344 ++ l0)).bind fun t386 => ((waystonelaw07_alive.f kj4).bind fun t387 => (if t387 = true then (if (bt350.1 == bt359.1 && (bt350.2.1 == bt359.2.1 && (bt350.2.2.1 == bt359.2.2.1 && (bt350.2.2.2.1 == bt359.2.2.2.1 && ((bt350.2.2.2.2.1 == bt359.2.2.2.2.1 && (bt350.2.2.2.2.2.1 == bt359.2.2.2.2.2.1)) && (bt350.2.2.2.2.2.2.1 == bt359.2.2.2.2.2.2.1)))))) = true then (if (bt350.2.2.2.2.2.2.2 == bt359.2.2.2.2.2.2.2) = true then (if (bt368.1 == bt377.1 && (bt368.2.1 == bt377.2.1 && (bt368.2.2.1 == bt377.2.2.1 && (bt368.2.2.2.1 == bt377.2.2.2.1 && ((bt368.2.2.2.2.1 == bt377.2.2.2.2.1 && (bt368.2.2.2.2.2.1 == bt377.2.2.2.2.2.1)) && (bt368.2.2.2.2.2.2.1 == bt377.2.2.2.2.2.2.1)))))) = true then (if (bt368.2.2.2.2.2.2.2 == bt377.2.2.2.2.2.2.2) = true then ((rule_Denies.f l0 a1_1 a2).bind fun t388 => ((waystoneref07_Denies.f kj4 l0 a1_1 a2).bind fun t389 => (if (t388 == t389) = true then (some t386) else (none)))) else (none)) else (none)) else (none)) else (none)) else (none)))))))) else (none))) = some r := by rw [if_neg (show ¬ (false = true) by decide)] at H; exact H
        clear H
        have H := H1
        clear H1
        obtain ⟨y344, hy344⟩ : ∃ y_ : List (S27), y_ = (([] : List (S27))) := ⟨_, rfl⟩
        replace H : (if y344.length + l0.length < 2932031007402 then ((rule_Find.f l0 a1_0).bind fun bt350 => ((waystoneref07_Find.f kj4 l0 a1_0).bind fun bt359 => ((rule_Match.f l0 a1_1 a2).bind fun bt368 => ((waystoneref07_Match.f kj4 l0 a1_1 a2).bind fun bt377 => ((waystoneref07_Same.f kj4 l0 (y344 ++ l0)).bind fun t386 => ((waystonelaw07_alive.f kj4).bind fun t387 => (if t387 = true then (if (bt350.1 == bt359.1 && (bt350.2.1 == bt359.2.1 && (bt350.2.2.1 == bt359.2.2.1 && (bt350.2.2.2.1 == bt359.2.2.2.1 && ((bt350.2.2.2.2.1 == bt359.2.2.2.2.1 && (bt350.2.2.2.2.2.1 == bt359.2.2.2.2.2.1)) && (bt350.2.2.2.2.2.2.1 == bt359.2.2.2.2.2.2.1)))))) = true then (if (bt350.2.2.2.2.2.2.2 == bt359.2.2.2.2.2.2.2) = true then (if (bt368.1 == bt377.1 && (bt368.2.1 == bt377.2.1 && (bt368.2.2.1 == bt377.2.2.1 && (bt368.2.2.2.1 == bt377.2.2.2.1 && ((bt368.2.2.2.2.1 == bt377.2.2.2.2.1 && (bt368.2.2.2.2.2.1 == bt377.2.2.2.2.2.1)) && (bt368.2.2.2.2.2.2.1 == bt377.2.2.2.2.2.2.1)))))) = true then (if (bt368.2.2.2.2.2.2.2 == bt377.2.2.2.2.2.2.2) = true then ((rule_Denies.f l0 a1_1 a2).bind fun t388 => ((waystoneref07_Denies.f kj4 l0 a1_1 a2).bind fun t389 => (if (t388 == t389) = true then (some t386) else (none)))) else (none)) else (none)) else (none)) else (none)) else (none)))))))) else (none)) = some r := by first | (rw [hy344]; with_reducible exact H) | (have H2_ := (Option.bind_some _ _).symm.trans H; rw [hy344]; with_reducible exact H2_) | (have H2_ := (Option.bind_some _ _).symm.trans H; with_reducible exact H2_) | with_reducible exact H | (rw [hy344]; exact H) | exact H
        have Ny344 := Aside0.mk hy344
        clear hy344
        by_cases c12 : y344.length + l0.length < 2932031007402
        · rw [if_pos c12] at H
          have LMc12 := Aside0.mk c12
          clear c12
          obtain ⟨y347, hy347⟩ : ∃ y_ : List (S27), y_ = (y344 ++ l0) := ⟨_, rfl⟩
          replace H : ((rule_Find.f l0 a1_0).bind fun bt350 => ((waystoneref07_Find.f kj4 l0 a1_0).bind fun bt359 => ((rule_Match.f l0 a1_1 a2).bind fun bt368 => ((waystoneref07_Match.f kj4 l0 a1_1 a2).bind fun bt377 => ((waystoneref07_Same.f kj4 l0 y347).bind fun t386 => ((waystonelaw07_alive.f kj4).bind fun t387 => (if t387 = true then (if (bt350.1 == bt359.1 && (bt350.2.1 == bt359.2.1 && (bt350.2.2.1 == bt359.2.2.1 && (bt350.2.2.2.1 == bt359.2.2.2.1 && ((bt350.2.2.2.2.1 == bt359.2.2.2.2.1 && (bt350.2.2.2.2.2.1 == bt359.2.2.2.2.2.1)) && (bt350.2.2.2.2.2.2.1 == bt359.2.2.2.2.2.2.1)))))) = true then (if (bt350.2.2.2.2.2.2.2 == bt359.2.2.2.2.2.2.2) = true then (if (bt368.1 == bt377.1 && (bt368.2.1 == bt377.2.1 && (bt368.2.2.1 == bt377.2.2.1 && (bt368.2.2.2.1 == bt377.2.2.2.1 && ((bt368.2.2.2.2.1 == bt377.2.2.2.2.1 && (bt368.2.2.2.2.2.1 == bt377.2.2.2.2.2.1)) && (bt368.2.2.2.2.2.2.1 == bt377.2.2.2.2.2.2.1)))))) = true then (if (bt368.2.2.2.2.2.2.2 == bt377.2.2.2.2.2.2.2) = true then ((rule_Denies.f l0 a1_1 a2).bind fun t388 => ((waystoneref07_Denies.f kj4 l0 a1_1 a2).bind fun t389 => (if (t388 == t389) = true then (some t386) else (none)))) else (none)) else (none)) else (none)) else (none)) else (none)))))))) = some r := by first | (rw [hy347]; with_reducible exact H) | (have H2_ := (Option.bind_some _ _).symm.trans H; rw [hy347]; with_reducible exact H2_) | (have H2_ := (Option.bind_some _ _).symm.trans H; with_reducible exact H2_) | with_reducible exact H | (rw [hy347]; exact H) | exact H
          have Ny347 := Aside0.mk hy347
          clear hy347
          replace H := Option.bind_eq_some_iff.mp H
          obtain ⟨⟨t350, t351, t352, t353, t354, t355, t356, t357⟩, A130, H⟩ := H
          replace H : ((waystoneref07_Find.f kj4 l0 a1_0).bind fun bt359 => ((rule_Match.f l0 a1_1 a2).bind fun bt368 => ((waystoneref07_Match.f kj4 l0 a1_1 a2).bind fun bt377 => ((waystoneref07_Same.f kj4 l0 y347).bind fun t386 => ((waystonelaw07_alive.f kj4).bind fun t387 => (if t387 = true then (if (t350 == bt359.1 && (t351 == bt359.2.1 && (t352 == bt359.2.2.1 && (t353 == bt359.2.2.2.1 && ((t354 == bt359.2.2.2.2.1 && (t355 == bt359.2.2.2.2.2.1)) && (t356 == bt359.2.2.2.2.2.2.1)))))) = true then (if (t357 == bt359.2.2.2.2.2.2.2) = true then (if (bt368.1 == bt377.1 && (bt368.2.1 == bt377.2.1 && (bt368.2.2.1 == bt377.2.2.1 && (bt368.2.2.2.1 == bt377.2.2.2.1 && ((bt368.2.2.2.2.1 == bt377.2.2.2.2.1 && (bt368.2.2.2.2.2.1 == bt377.2.2.2.2.2.1)) && (bt368.2.2.2.2.2.2.1 == bt377.2.2.2.2.2.2.1)))))) = true then (if (bt368.2.2.2.2.2.2.2 == bt377.2.2.2.2.2.2.2) = true then ((rule_Denies.f l0 a1_1 a2).bind fun t388 => ((waystoneref07_Denies.f kj4 l0 a1_1 a2).bind fun t389 => (if (t388 == t389) = true then (some t386) else (none)))) else (none)) else (none)) else (none)) else (none)) else (none))))))) = some r := H
          have A13 := Aside0.mk A130
          clear A130
          replace H := Option.bind_eq_some_iff.mp H
          obtain ⟨⟨t359, t360, t361, t362, t363, t364, t365, t366⟩, A140, H⟩ := H
          replace H : ((rule_Match.f l0 a1_1 a2).bind fun bt368 => ((waystoneref07_Match.f kj4 l0 a1_1 a2).bind fun bt377 => ((waystoneref07_Same.f kj4 l0 y347).bind fun t386 => ((waystonelaw07_alive.f kj4).bind fun t387 => (if t387 = true then (if (t350 == t359 && (t351 == t360 && (t352 == t361 && (t353 == t362 && ((t354 == t363 && (t355 == t364)) && (t356 == t365)))))) = true then (if (t357 == t366) = true then (if (bt368.1 == bt377.1 && (bt368.2.1 == bt377.2.1 && (bt368.2.2.1 == bt377.2.2.1 && (bt368.2.2.2.1 == bt377.2.2.2.1 && ((bt368.2.2.2.2.1 == bt377.2.2.2.2.1 && (bt368.2.2.2.2.2.1 == bt377.2.2.2.2.2.1)) && (bt368.2.2.2.2.2.2.1 == bt377.2.2.2.2.2.2.1)))))) = true then (if (bt368.2.2.2.2.2.2.2 == bt377.2.2.2.2.2.2.2) = true then ((rule_Denies.f l0 a1_1 a2).bind fun t388 => ((waystoneref07_Denies.f kj4 l0 a1_1 a2).bind fun t389 => (if (t388 == t389) = true then (some t386) else (none)))) else (none)) else (none)) else (none)) else (none)) else (none)))))) = some r := H
          have A14 := Aside0.mk A140
          clear A140
          replace H := Option.bind_eq_some_iff.mp H
          obtain ⟨⟨t368, t369, t370, t371, t372, t373, t374, t375⟩, A150, H⟩ := H
          replace H : ((waystoneref07_Match.f kj4 l0 a1_1 a2).bind fun bt377 => ((waystoneref07_Same.f kj4 l0 y347).bind fun t386 => ((waystonelaw07_alive.f kj4).bind fun t387 => (if t387 = true then (if (t350 == t359 && (t351 == t360 && (t352 == t361 && (t353 == t362 && ((t354 == t363 && (t355 == t364)) && (t356 == t365)))))) = true then (if (t357 == t366) = true then (if (t368 == bt377.1 && (t369 == bt377.2.1 && (t370 == bt377.2.2.1 && (t371 == bt377.2.2.2.1 && ((t372 == bt377.2.2.2.2.1 && (t373 == bt377.2.2.2.2.2.1)) && (t374 == bt377.2.2.2.2.2.2.1)))))) = true then (if (t375 == bt377.2.2.2.2.2.2.2) = true then ((rule_Denies.f l0 a1_1 a2).bind fun t388 => ((waystoneref07_Denies.f kj4 l0 a1_1 a2).bind fun t389 => (if (t388 == t389) = true then (some t386) else (none)))) else (none)) else (none)) else (none)) else (none)) else (none))))) = some r := H
          have A15 := Aside0.mk A150
          clear A150
          replace H := Option.bind_eq_some_iff.mp H
          obtain ⟨⟨t377, t378, t379, t380, t381, t382, t383, t384⟩, A160, H⟩ := H
          replace H : ((waystoneref07_Same.f kj4 l0 y347).bind fun t386 => ((waystonelaw07_alive.f kj4).bind fun t387 => (if t387 = true then (if (t350 == t359 && (t351 == t360 && (t352 == t361 && (t353 == t362 && ((t354 == t363 && (t355 == t364)) && (t356 == t365)))))) = true then (if (t357 == t366) = true then (if (t368 == t377 && (t369 == t378 && (t370 == t379 && (t371 == t380 && ((t372 == t381 && (t373 == t382)) && (t374 == t383)))))) = true then (if (t375 == t384) = true then ((rule_Denies.f l0 a1_1 a2).bind fun t388 => ((waystoneref07_Denies.f kj4 l0 a1_1 a2).bind fun t389 => (if (t388 == t389) = true then (some t386) else (none)))) else (none)) else (none)) else (none)) else (none)) else (none)))) = some r := H
          have A16 := Aside0.mk A160
          clear A160
          replace H := Option.bind_eq_some_iff.mp H
          obtain ⟨t386, A170, H⟩ := H
          replace H : ((waystonelaw07_alive.f kj4).bind fun t387 => (if t387 = true then (if (t350 == t359 && (t351 == t360 && (t352 == t361 && (t353 == t362 && ((t354 == t363 && (t355 == t364)) && (t356 == t365)))))) = true then (if (t357 == t366) = true then (if (t368 == t377 && (t369 == t378 && (t370 == t379 && (t371 == t380 && ((t372 == t381 && (t373 == t382)) && (t374 == t383)))))) = true then (if (t375 == t384) = true then ((rule_Denies.f l0 a1_1 a2).bind fun t388 => ((waystoneref07_Denies.f kj4 l0 a1_1 a2).bind fun t389 => (if (t388 == t389) = true then (some t386) else (none)))) else (none)) else (none)) else (none)) else (none)) else (none))) = some r := H
          have A17 := Aside0.mk A170
          clear A170
          replace H := Option.bind_eq_some_iff.mp H
          obtain ⟨t387, A180, H⟩ := H
          replace H : (if t387 = true then (if (t350 == t359 && (t351 == t360 && (t352 == t361 && (t353 == t362 && ((t354 == t363 && (t355 == t364)) && (t356 == t365)))))) = true then (if (t357 == t366) = true then (if (t368 == t377 && (t369 == t378 && (t370 == t379 && (t371 == t380 && ((t372 == t381 && (t373 == t382)) && (t374 == t383)))))) = true then (if (t375 == t384) = true then ((rule_Denies.f l0 a1_1 a2).bind fun t388 => ((waystoneref07_Denies.f kj4 l0 a1_1 a2).bind fun t389 => (if (t388 == t389) = true then (some t386) else (none)))) else (none)) else (none)) else (none)) else (none)) else (none)) = some r := H
          have A18 := Aside0.mk A180
          clear A180
          by_cases c19 : t387 = true
          · subst c19
            have H1 : (if (t350 == t359 && (t351 == t360 && (t352 == t361 && (t353 == t362 && ((t354 == t363 && (t355 == t364)) && (t356 == t365)))))) = true then (if (t357 == t366) = true then (if (t368 == t377 && (t369 == t378 && (t370 == t379 && (t371 == t380 && ((t372 == t381 && (t373 == t382)) && (t374 == t383)))))) = true then (if (t375 == t384) = true then ((rule_Denies.f l0 a1_1 a2).bind fun t388 => ((waystoneref07_Denies.f kj4 l0 a1_1 a2).bind fun t389 => (if (t388 == t389) = true then (some t386) else (none)))) else (none)) else (none)) else (none)) else (none)) = some r := by rw [if_pos rfl] at H; exact H
            clear H
            have H := H1
            clear H1
            by_cases c20 : (t350 == t359 && (t351 == t360 && (t352 == t361 && (t353 == t362 && ((t354 == t363 && (t355 == t364)) && (t356 == t365)))))) = true
            · rw [if_pos c20] at H
              have c20b0 : (t350 == t359 && (t351 == t360 && (t352 == t361 && (t353 == t362 && ((t354 == t363 && (t355 == t364)) && (t356 == t365)))))) = true := c20
              (try (have c20b1 : decide (t350 = t359 && (t351 == t360 && (t352 == t361 && (t353 == t362 && ((t354 == t363 && (t355 == t364)) && (t356 == t365)))))) = true := by simpa using c20))
              (try (have c20b2 : (t350 == t359 && (t351 == t360 && (t352 == t361 && (t353 == t362 && ((t354 == t363 && (t355 == t364)) && (t356 == t365)))))) = true := by simpa using c20))
              clear c20
              by_cases c21 : (t357 == t366) = true
              · rw [if_pos c21] at H
                have c21b0 : (t357 == t366) = true := c21
                (try (have c21b1 : decide (t357 = t366) = true := by simpa using c21))
                (try (have c21b2 : (t357 == t366) = true := by simpa using c21))
                clear c21
                by_cases c22 : (t368 == t377 && (t369 == t378 && (t370 == t379 && (t371 == t380 && ((t372 == t381 && (t373 == t382)) && (t374 == t383)))))) = true
                · rw [if_pos c22] at H
                  have c22b0 : (t368 == t377 && (t369 == t378 && (t370 == t379 && (t371 == t380 && ((t372 == t381 && (t373 == t382)) && (t374 == t383)))))) = true := c22
                  (try (have c22b1 : decide (t368 = t377 && (t369 == t378 && (t370 == t379 && (t371 == t380 && ((t372 == t381 && (t373 == t382)) && (t374 == t383)))))) = true := by simpa using c22))
                  (try (have c22b2 : (t368 == t377 && (t369 == t378 && (t370 == t379 && (t371 == t380 && ((t372 == t381 && (t373 == t382)) && (t374 == t383)))))) = true := by simpa using c22))
                  clear c22
                  by_cases c23 : (t375 == t384) = true
                  · rw [if_pos c23] at H
                    have c23b0 : (t375 == t384) = true := c23
                    (try (have c23b1 : decide (t375 = t384) = true := by simpa using c23))
                    (try (have c23b2 : (t375 == t384) = true := by simpa using c23))
                    clear c23
                    replace H := Option.bind_eq_some_iff.mp H
                    obtain ⟨t388, A240, H⟩ := H
                    replace H : ((waystoneref07_Denies.f kj4 l0 a1_1 a2).bind fun t389 => (if (t388 == t389) = true then (some t386) else (none))) = some r := H
                    have A24 := Aside0.mk A240
                    clear A240
                    replace H := Option.bind_eq_some_iff.mp H
                    obtain ⟨t389, A250, H⟩ := H
                    replace H : (if (t388 == t389) = true then (some t386) else (none)) = some r := H
                    have A25 := Aside0.mk A250
                    clear A250
                    by_cases c26 : (t388 == t389) = true
                    · rw [if_pos c26] at H
                      have c26b0 : (t388 == t389) = true := c26
                      (try (have c26b1 : decide (t388 = t389) = true := by simpa using c26))
                      (try (have c26b2 : (t388 == t389) = true := by simpa using c26))
                      clear c26
                      obtain rfl := Option.some.inj H
                      try go_wp2_with (first | ((with_reducible refine gate_dst (N := 28) rfl ?_); refine Kd.R_lit k27 _ 27 ?hg (N := 28) ?hd (xs := ([] : List (S27))) (inner := []) (ok := fun _ => True) (okp := fun _ => True) ?hr ?hp (fun _ hk => hk) trivial (Below.refl _ _) (Nat.le_refl _) (by simp) ?_; (case hd => rfl); (case hg => rfl); (case hr => first | (go_simp; done) | (go_simp; rfl)); (case hp => exact (Reps.none _ _)); intro v345 w27 ho28 hb hg_ hnew_; clear hg_ hnew_; (first | rw [← Ny344.out] at ho28 | (simp only [Int.reduceToNat] at ho28; rw [← Ny344.out] at ho28)); have n0_ := Aside0.mk (Kd.R_lower ho28 (below_size (by repeat (first | (with_reducible first | exact HB.out | apply below_alloc | apply pw_below_drewN | apply below_drew1 | refine below_set ?_ GE341.out) | exact HB.out)))); have n1_ := Aside0.mk (blk_below (g := gb341) (o := .cells #[.int .i64 a1_0, .int .i64 a1_1] 36 (0, 0)) (by (with_reducible repeat (first | refine blk_drewN ?_ _ | refine blk_drew ?_ | refine blk_alloc ?_ _)); exact BK341.out) hb); have n2_ := Aside0.mk (below_step (by repeat (first | (with_reducible first | exact HB.out | apply below_alloc | apply pw_below_drewN | apply below_drew1 | refine below_set ?_ GE341.out) | exact HB.out)) hb); clear BK341; clear HB; have HO346 := n0_; have BK341 := n1_; have HB := n2_; clear n0_ n1_ n2_; clear hb ho28) | ((with_reducible refine gate_builtin (b := .append) (xs := #[.tmp 28, .tmp 29]) rfl ?_); at_builtin; refine Kd.R_append_rows k27 (w0 := w) w.heap.size rfl (.tmp 28) (.tmp 29) 35 27 (.agg #[(.int .i64 0), (.int .i64 0), (.int .i64 0), (.int .i64 0), (.int .u32 0), (.int .u32 0), (.int .i64 0)]) 48 rfl Tryz.underlying35 info27 rfl (by decide) (by omega) v345 y344 l0 _ _ _ (fun _ => True) (fun _ => False) rfl rfl ?aO ?aR (fun _ _ h => h) (fun _ h => h.elim) ?aF ?aB ?aS ?aL ?_; (case aR => repeat (first | exact (Kd.C_below HR0.out HB.out) | (with_reducible refine Kd.C_alloc ?_ _) | (with_reducible refine Kd.C_drewN ?_ _) | (with_reducible refine Kd.C_drew ?_))); (case aB => exact (by repeat (first | (with_reducible first | exact HB.out | apply below_alloc | apply pw_below_drewN | apply below_drew1 | refine below_set ?_ GE341.out) | exact HB.out))); (case aF => exact (fun _ _ => trivial)); (case aO => exact (by (with_reducible repeat (first | apply Kd.R_alloc | apply Kd.R_drewN | apply Kd.R_drew)); exact HO346.out)); (case aS => exact (below_size (by repeat (first | (with_reducible first | exact HB.out | apply below_alloc | apply pw_below_drewN | apply below_drew1 | refine below_set ?_ GE341.out) | exact HB.out)))); (case aL => have := LMc12.out; omega); intro v348 w29 ho hb hg hat; rw [← Ny347.out] at ho; have n0_ := Aside0.mk (blk_grown (g := gb341) (o := .cells #[.int .i64 a1_0, .int .i64 a1_1] 36 (0, 0)) (by (with_reducible repeat (first | refine blk_drewN ?_ _ | refine blk_drew ?_ | refine blk_alloc ?_ _)); exact BK341.out) hg (Kd.R_ne HO346.out BK341.out (by decide))); have n1_ := Aside0.mk (hb); have n2_ := Aside0.mk (ho); clear BK341; clear HB; clear HO346; have BK341 := n0_; have HB := n1_; have HO349 := n2_; clear n0_ n1_ n2_; clear ho hb hg hat; have hcz30_0 : w29.cell? ⟨gb341, 0, none⟩ = some (.int .i64 a1_0) := (blk_cell BK341.out 0).trans rfl; have hcz30_1 : w29.cell? ⟨gb341, 1, none⟩ = some (.int .i64 a1_1) := (blk_cell BK341.out 1).trans rfl; have hfz30_0 := blk_frozen BK341.out 0; have hfz30_1 := blk_frozen BK341.out 1) | ((with_reducible refine gate_callee (f := 17) rfl ?_); refine goesL_ (some 35) rfl rfl Tryz.func17 (by kernel_rfl) rfl #[.slice A0 l0.length c0, .int .i64 a1_0] rfl (by (try simp only [List.map_toArray, List.map_cons, List.map_nil]); first | done | rfl | (simp only [List.length_drop, List.length_take]; rfl)) ?_; (with_reducible refine (rule_Find.calls _ _ l0 a1_0 t350 t351 t352 t353 t354 t355 t356 t357 _ ?side1 ?side2 A13.out).mono ?_); (case side1 => repeat (first | exact (Kd.C_below HR0.out HB.out) | (with_reducible refine Kd.C_alloc ?_ _) | (with_reducible refine Kd.C_drewN ?_ _) | (with_reducible refine Kd.C_drew ?_))); (case side2 => exact HC0.out); rintro e w31 ⟨rfl, hb⟩; refine ⟨_, rfl, ?_⟩; have n0_ := Aside0.mk (Kd.R_below (by (with_reducible repeat (first | apply Kd.R_alloc | apply Kd.R_drewN | apply Kd.R_drew)); exact HO349.out) hb); have n1_ := Aside0.mk (blk_below (g := gb341) (o := .cells #[.int .i64 a1_0, .int .i64 a1_1] 36 (0, 0)) (by (with_reducible repeat (first | refine blk_drewN ?_ _ | refine blk_drew ?_ | refine blk_alloc ?_ _)); exact BK341.out) hb); have n2_ := Aside0.mk (below_step (by repeat (first | (with_reducible first | exact HB.out | apply below_alloc | apply pw_below_drewN | apply below_drew1 | refine below_set ?_ GE341.out) | exact HB.out)) hb); clear HO349; clear BK341; clear HB; have HO349 := n0_; have BK341 := n1_; have HB := n2_; clear n0_ n1_ n2_; (try clear hb); (try clear hb2); (try clear hk); (try clear hi)) | ((with_reducible refine gate_dst (N := 9) rfl ?_); refine box_event ?hg (N := 9) ?hd (cs := #[.int .i64 0, .int .i64 0, .int .i64 0, .int .i64 0, .int .u32 0, .int .u32 0, .int .i64 0]) (t := 27) ?hr ?_; (case hd => rfl); (case hg => rfl); (case hr => first | (go_simp; done) | (go_simp; rfl)); intro gb358 hg w32 hbox hb; have n0_ := Aside0.mk (Kd.R_below (Kd.R_elderB (by (with_reducible repeat (first | apply Kd.R_alloc | apply Kd.R_drewN | apply Kd.R_drew)); exact HO349.out) gb358 (Nat.le_of_eq hg.symm)) hb); have n1_ := Aside0.mk (blk_below (g := gb341) (o := .cells #[.int .i64 a1_0, .int .i64 a1_1] 36 (0, 0)) (by (with_reducible repeat (first | refine blk_drewN ?_ _ | refine blk_drew ?_ | refine blk_alloc ?_ _)); exact BK341.out) hb); have n2_ := Aside0.mk (below_step (by repeat (first | (with_reducible first | exact HB.out | apply below_alloc | apply pw_below_drewN | apply below_drew1 | refine below_set ?_ GE341.out) | exact HB.out)) hb); have n3_ := Aside0.mk (hbox); have n4_ := Aside0.mk ((by rw [hg]; exact (below_size (by repeat (first | (with_reducible first | exact HB.out | apply below_alloc | apply pw_below_drewN | apply below_drew1 | refine below_set ?_ GE341.out) | exact HB.out))) : w.heap.size ≤ gb358)); have n5_ := Aside0.mk ((by rw [hg]; exact (below_size (by repeat (first | (with_reducible first | exact HB.out | apply below_alloc | apply pw_below_drewN | apply below_drew1 | refine below_set ?_ GE341.out) | exact HB.out))) : w.heap.size ≤ gb358)); have n6_ := Aside0.mk ((by rw [hg]; exact Nat.ne_of_lt (blk_lt (g := gb341) (o := .cells #[.int .i64 a1_0, .int .i64 a1_1] 36 (0, 0)) (by (with_reducible repeat (first | refine blk_drewN ?_ _ | refine blk_drew ?_ | refine blk_alloc ?_ _)); exact BK341.out)) : gb341 ≠ gb358)); have n7_ := Aside0.mk ((by rw [hg]; exact Nat.ne_of_gt (blk_lt (g := gb341) (o := .cells #[.int .i64 a1_0, .int .i64 a1_1] 36 (0, 0)) (by (with_reducible repeat (first | refine blk_drewN ?_ _ | refine blk_drew ?_ | refine blk_alloc ?_ _)); exact BK341.out)) : gb358 ≠ gb341)); clear HO349; clear BK341; clear HB; have HO349 := n0_; have BK341 := n1_; have HB := n2_; have BK358 := n3_; have GW358 := n4_; have GE358 := n5_; have NB341_358 := n6_; have NB358_341 := n7_; clear n0_ n1_ n2_ n3_ n4_ n5_ n6_ n7_; clear hb hbox hg; have hnb33 := NB358_341.out; have hnc33 := NB341_358.out; have hcz34_0 : w32.cell? ⟨gb358, 0, none⟩ = some (.int .i64 0) := (blk_cell BK358.out 0).trans rfl; have hcz34_1 : w32.cell? ⟨gb358, 1, none⟩ = some (.int .i64 0) := (blk_cell BK358.out 1).trans rfl; have hcz34_2 : w32.cell? ⟨gb358, 2, none⟩ = some (.int .i64 0) := (blk_cell BK358.out 2).trans rfl; have hcz34_3 : w32.cell? ⟨gb358, 3, none⟩ = some (.int .i64 0) := (blk_cell BK358.out 3).trans rfl; have hcz34_4 : w32.cell? ⟨gb358, 4, none⟩ = some (.int .u32 0) := (blk_cell BK358.out 4).trans rfl; have hcz34_5 : w32.cell? ⟨gb358, 5, none⟩ = some (.int .u32 0) := (blk_cell BK358.out 5).trans rfl; have hcz34_6 : w32.cell? ⟨gb358, 6, none⟩ = some (.int .i64 0) := (blk_cell BK358.out 6).trans rfl; have hfz34_0 := blk_frozen BK358.out 0; have hfz34_1 := blk_frozen BK358.out 1; have hfz34_2 := blk_frozen BK358.out 2; have hfz34_3 := blk_frozen BK358.out 3; have hfz34_4 := blk_frozen BK358.out 4; have hfz34_5 := blk_frozen BK358.out 5; have hfz34_6 := blk_frozen BK358.out 6; have hcz35_0 : w32.cell? ⟨gb341, 0, none⟩ = some (.int .i64 a1_0) := (blk_cell BK341.out 0).trans rfl; have hcz35_1 : w32.cell? ⟨gb341, 1, none⟩ = some (.int .i64 a1_1) := (blk_cell BK341.out 1).trans rfl; have hfz35_0 := blk_frozen BK341.out 0; have hfz35_1 := blk_frozen BK341.out 1) | ((with_reducible refine gate_callee (f := 18) rfl ?_); refine goesL_ (some 42) rfl rfl Tryz.func18 (by kernel_rfl) rfl #[.slice A0 l0.length c0, .int .i64 a1_0] rfl (by (try simp only [List.map_toArray, List.map_cons, List.map_nil]); first | done | rfl | (simp only [List.length_drop, List.length_take]; rfl)) ?_; (with_reducible refine (waystoneref07_Find.calls kj4 _ _ l0 a1_0 t359 t360 t361 t362 t363 t364 t365 t366 _ ?side1 ?side2 A14.out).mono ?_); (case side1 => exact Kd.C_below HR0.out (by repeat (first | (with_reducible first | exact HB.out | apply below_alloc | apply pw_below_drewN | apply below_drew1 | refine below_set ?_ GE341.out | refine below_set ?_ GE358.out) | exact HB.out))); (case side2 => exact HC0.out); rintro e w36 ⟨rfl, hb⟩; refine ⟨_, rfl, ?_⟩; have n0_ := Aside0.mk (Kd.R_below (by (with_reducible repeat (first | apply Kd.R_alloc | apply Kd.R_drewN | apply Kd.R_drew)); exact (Kd.R_mono (Kd.R_far (p := ⟨gb358, 6, none⟩) (Kd.R_far (p := ⟨gb358, 5, none⟩) (Kd.R_far (p := ⟨gb358, 4, none⟩) (Kd.R_far (p := ⟨gb358, 3, none⟩) (Kd.R_far (p := ⟨gb358, 2, none⟩) (Kd.R_far (p := ⟨gb358, 1, none⟩) (Kd.R_far (p := ⟨gb358, 0, none⟩) (Kd.R_mono HO349.out (fun k_ hk => (⟨hk, hk.2⟩ : _ ∧ k_ ≠ gb358))) (fun _ hk => hk.2) (.int .i64 t350)) (fun _ hk => hk.2) (.int .i64 t351)) (fun _ hk => hk.2) (.int .i64 t352)) (fun _ hk => hk.2) (.int .i64 t353)) (fun _ hk => hk.2) (.int .u32 t354)) (fun _ hk => hk.2) (.int .u32 t355)) (fun _ hk => hk.2) (.int .i64 t356)) (fun _ h_ => h_.1))) hb); have n1_ := Aside0.mk (blk_below (g := gb341) (o := .cells #[.int .i64 a1_0, .int .i64 a1_1] 36 (0, 0)) (by (with_reducible repeat (first | refine blk_drewN ?_ _ | refine blk_drew ?_ | refine blk_alloc ?_ _)); refine blk_far ?_ NB341_358.out _; (with_reducible repeat (first | refine blk_drewN ?_ _ | refine blk_drew ?_ | refine blk_alloc ?_ _)); refine blk_far ?_ NB341_358.out _; (with_reducible repeat (first | refine blk_drewN ?_ _ | refine blk_drew ?_ | refine blk_alloc ?_ _)); refine blk_far ?_ NB341_358.out _; (with_reducible repeat (first | refine blk_drewN ?_ _ | refine blk_drew ?_ | refine blk_alloc ?_ _)); refine blk_far ?_ NB341_358.out _; (with_reducible repeat (first | refine blk_drewN ?_ _ | refine blk_drew ?_ | refine blk_alloc ?_ _)); refine blk_far ?_ NB341_358.out _; (with_reducible repeat (first | refine blk_drewN ?_ _ | refine blk_drew ?_ | refine blk_alloc ?_ _)); refine blk_far ?_ NB341_358.out _; (with_reducible repeat (first | refine blk_drewN ?_ _ | refine blk_drew ?_ | refine blk_alloc ?_ _)); refine blk_far ?_ NB341_358.out _; (with_reducible repeat (first | refine blk_drewN ?_ _ | refine blk_drew ?_ | refine blk_alloc ?_ _)); exact BK341.out) hb); have n2_ := Aside0.mk (blk_below (g := gb358) (o := .cells #[.int .i64 t350, .int .i64 t351, .int .i64 t352, .int .i64 t353, .int .u32 t354, .int .u32 t355, .int .i64 t356] 27 (0, 0)) (by (with_reducible repeat (first | refine blk_drewN ?_ _ | refine blk_drew ?_ | refine blk_alloc ?_ _)); refine blk_put (cs := #[.int .i64 t350, .int .i64 t351, .int .i64 t352, .int .i64 t353, .int .u32 t354, .int .u32 t355, .int .i64 0]) ?_ 6 _ rfl; (with_reducible repeat (first | refine blk_drewN ?_ _ | refine blk_drew ?_ | refine blk_alloc ?_ _)); refine blk_put (cs := #[.int .i64 t350, .int .i64 t351, .int .i64 t352, .int .i64 t353, .int .u32 t354, .int .u32 0, .int .i64 0]) ?_ 5 _ rfl; (with_reducible repeat (first | refine blk_drewN ?_ _ | refine blk_drew ?_ | refine blk_alloc ?_ _)); refine blk_put (cs := #[.int .i64 t350, .int .i64 t351, .int .i64 t352, .int .i64 t353, .int .u32 0, .int .u32 0, .int .i64 0]) ?_ 4 _ rfl; (with_reducible repeat (first | refine blk_drewN ?_ _ | refine blk_drew ?_ | refine blk_alloc ?_ _)); refine blk_put (cs := #[.int .i64 t350, .int .i64 t351, .int .i64 t352, .int .i64 0, .int .u32 0, .int .u32 0, .int .i64 0]) ?_ 3 _ rfl; (with_reducible repeat (first | refine blk_drewN ?_ _ | refine blk_drew ?_ | refine blk_alloc ?_ _)); refine blk_put (cs := #[.int .i64 t350, .int .i64 t351, .int .i64 0, .int .i64 0, .int .u32 0, .int .u32 0, .int .i64 0]) ?_ 2 _ rfl; (with_reducible repeat (first | refine blk_drewN ?_ _ | refine blk_drew ?_ | refine blk_alloc ?_ _)); refine blk_put (cs := #[.int .i64 t350, .int .i64 0, .int .i64 0, .int .i64 0, .int .u32 0, .int .u32 0, .int .i64 0]) ?_ 1 _ rfl; (with_reducible repeat (first | refine blk_drewN ?_ _ | refine blk_drew ?_ | refine blk_alloc ?_ _)); refine blk_put (cs := #[.int .i64 0, .int .i64 0, .int .i64 0, .int .i64 0, .int .u32 0, .int .u32 0, .int .i64 0]) ?_ 0 _ rfl; (with_reducible repeat (first | refine blk_drewN ?_ _ | refine blk_drew ?_ | refine blk_alloc ?_ _)); exact BK358.out) hb); have n3_ := Aside0.mk (below_step (by repeat (first | (with_reducible first | exact HB.out | apply below_alloc | apply pw_below_drewN | apply below_drew1 | refine below_set ?_ GE341.out | refine below_set ?_ GE358.out) | exact HB.out)) hb); clear HO349; clear BK341; clear BK358; clear HB; have HO349 := n0_; have BK341 := n1_; have BK358 := n2_; have HB := n3_; clear n0_ n1_ n2_ n3_; (try clear hb); (try clear hb2); (try clear hk); (try clear hi)) | ((with_reducible refine gate_dst (N := 11) rfl ?_); refine box_event ?hg (N := 11) ?hd (cs := #[.int .i64 0, .int .i64 0, .int .i64 0, .int .i64 0, .int .u32 0, .int .u32 0, .int .i64 0]) (t := 27) ?hr ?_; (case hd => rfl); (case hg => rfl); (case hr => first | (go_simp; done) | (go_simp; rfl)); intro gb367 hg w37 hbox hb; have n0_ := Aside0.mk (Kd.R_below (Kd.R_elderB (by (with_reducible repeat (first | apply Kd.R_alloc | apply Kd.R_drewN | apply Kd.R_drew)); exact HO349.out) gb367 (Nat.le_of_eq hg.symm)) hb); have n1_ := Aside0.mk (blk_below (g := gb341) (o := .cells #[.int .i64 a1_0, .int .i64 a1_1] 36 (0, 0)) (by (with_reducible repeat (first | refine blk_drewN ?_ _ | refine blk_drew ?_ | refine blk_alloc ?_ _)); exact BK341.out) hb); have n2_ := Aside0.mk (blk_below (g := gb358) (o := .cells #[.int .i64 t350, .int .i64 t351, .int .i64 t352, .int .i64 t353, .int .u32 t354, .int .u32 t355, .int .i64 t356] 27 (0, 0)) (by (with_reducible repeat (first | refine blk_drewN ?_ _ | refine blk_drew ?_ | refine blk_alloc ?_ _)); exact BK358.out) hb); have n3_ := Aside0.mk (below_step (by repeat (first | (with_reducible first | exact HB.out | apply below_alloc | apply pw_below_drewN | apply below_drew1 | refine below_set ?_ GE341.out | refine below_set ?_ GE358.out) | exact HB.out)) hb); have n4_ := Aside0.mk (hbox); have n5_ := Aside0.mk ((by rw [hg]; exact (below_size (by repeat (first | (with_reducible first | exact HB.out | apply below_alloc | apply pw_below_drewN | apply below_drew1 | refine below_set ?_ GE341.out | refine below_set ?_ GE358.out) | exact HB.out))) : w.heap.size ≤ gb367)); have n6_ := Aside0.mk ((by rw [hg]; exact (below_size (by repeat (first | (with_reducible first | exact HB.out | apply below_alloc | apply pw_below_drewN | apply below_drew1 | refine below_set ?_ GE341.out | refine below_set ?_ GE358.out) | exact HB.out))) : w.heap.size ≤ gb367)); have n7_ := Aside0.mk ((by rw [hg]; exact Nat.ne_of_lt (blk_lt (g := gb341) (o := .cells #[.int .i64 a1_0, .int .i64 a1_1] 36 (0, 0)) (by (with_reducible repeat (first | refine blk_drewN ?_ _ | refine blk_drew ?_ | refine blk_alloc ?_ _)); exact BK341.out)) : gb341 ≠ gb367)); have n8_ := Aside0.mk ((by rw [hg]; exact Nat.ne_of_gt (blk_lt (g := gb341) (o := .cells #[.int .i64 a1_0, .int .i64 a1_1] 36 (0, 0)) (by (with_reducible repeat (first | refine blk_drewN ?_ _ | refine blk_drew ?_ | refine blk_alloc ?_ _)); exact BK341.out)) : gb367 ≠ gb341)); have n9_ := Aside0.mk ((by rw [hg]; exact Nat.ne_of_lt (blk_lt (g := gb358) (o := .cells #[.int .i64 t350, .int .i64 t351, .int .i64 t352, .int .i64 t353, .int .u32 t354, .int .u32 t355, .int .i64 t356] 27 (0, 0)) (by (with_reducible repeat (first | refine blk_drewN ?_ _ | refine blk_drew ?_ | refine blk_alloc ?_ _)); exact BK358.out)) : gb358 ≠ gb367)); have n10_ := Aside0.mk ((by rw [hg]; exact Nat.ne_of_gt (blk_lt (g := gb358) (o := .cells #[.int .i64 t350, .int .i64 t351, .int .i64 t352, .int .i64 t353, .int .u32 t354, .int .u32 t355, .int .i64 t356] 27 (0, 0)) (by (with_reducible repeat (first | refine blk_drewN ?_ _ | refine blk_drew ?_ | refine blk_alloc ?_ _)); exact BK358.out)) : gb367 ≠ gb358)); clear HO349; clear BK341; clear BK358; clear HB; have HO349 := n0_; have BK341 := n1_; have BK358 := n2_; have HB := n3_; have BK367 := n4_; have GW367 := n5_; have GE367 := n6_; have NB341_367 := n7_; have NB367_341 := n8_; have NB358_367 := n9_; have NB367_358 := n10_; clear n0_ n1_ n2_ n3_ n4_ n5_ n6_ n7_ n8_ n9_ n10_; clear hb hbox hg; have hnb38 := NB367_341.out; have hnc38 := NB341_367.out; have hnb39 := NB367_358.out; have hnc39 := NB358_367.out; have hcz40_0 : w37.cell? ⟨gb367, 0, none⟩ = some (.int .i64 0) := (blk_cell BK367.out 0).trans rfl; have hcz40_1 : w37.cell? ⟨gb367, 1, none⟩ = some (.int .i64 0) := (blk_cell BK367.out 1).trans rfl; have hcz40_2 : w37.cell? ⟨gb367, 2, none⟩ = some (.int .i64 0) := (blk_cell BK367.out 2).trans rfl; have hcz40_3 : w37.cell? ⟨gb367, 3, none⟩ = some (.int .i64 0) := (blk_cell BK367.out 3).trans rfl; have hcz40_4 : w37.cell? ⟨gb367, 4, none⟩ = some (.int .u32 0) := (blk_cell BK367.out 4).trans rfl; have hcz40_5 : w37.cell? ⟨gb367, 5, none⟩ = some (.int .u32 0) := (blk_cell BK367.out 5).trans rfl; have hcz40_6 : w37.cell? ⟨gb367, 6, none⟩ = some (.int .i64 0) := (blk_cell BK367.out 6).trans rfl; have hfz40_0 := blk_frozen BK367.out 0; have hfz40_1 := blk_frozen BK367.out 1; have hfz40_2 := blk_frozen BK367.out 2; have hfz40_3 := blk_frozen BK367.out 3; have hfz40_4 := blk_frozen BK367.out 4; have hfz40_5 := blk_frozen BK367.out 5; have hfz40_6 := blk_frozen BK367.out 6; have hcz41_0 : w37.cell? ⟨gb341, 0, none⟩ = some (.int .i64 a1_0) := (blk_cell BK341.out 0).trans rfl; have hcz41_1 : w37.cell? ⟨gb341, 1, none⟩ = some (.int .i64 a1_1) := (blk_cell BK341.out 1).trans rfl; have hfz41_0 := blk_frozen BK341.out 0; have hfz41_1 := blk_frozen BK341.out 1) | ((with_reducible refine gate_callee (f := 19) rfl ?_); refine goesL_ (some 50) rfl rfl Tryz.func19 (by kernel_rfl) rfl #[.slice A0 l0.length c0, .int .i64 a1_1, .int .u32 a2] rfl (by (try simp only [List.map_toArray, List.map_cons, List.map_nil]); first | done | rfl | (simp only [List.length_drop, List.length_take]; rfl)) ?_; (with_reducible refine (rule_Match.calls _ _ l0 a1_1 a2 t368 t369 t370 t371 t372 t373 t374 t375 _ ?side1 ?side2 A15.out).mono ?_); (case side1 => exact Kd.C_below HR0.out (by repeat (first | (with_reducible first | exact HB.out | apply below_alloc | apply pw_below_drewN | apply below_drew1 | refine below_set ?_ GE341.out | refine below_set ?_ GE358.out | refine below_set ?_ GE367.out) | exact HB.out))); (case side2 => exact HC0.out); rintro e w42 ⟨rfl, hb⟩; refine ⟨_, rfl, ?_⟩; have n0_ := Aside0.mk (Kd.R_below (by (with_reducible repeat (first | apply Kd.R_alloc | apply Kd.R_drewN | apply Kd.R_drew)); exact (Kd.R_mono (Kd.R_far (p := ⟨gb367, 6, none⟩) (Kd.R_far (p := ⟨gb367, 5, none⟩) (Kd.R_far (p := ⟨gb367, 4, none⟩) (Kd.R_far (p := ⟨gb367, 3, none⟩) (Kd.R_far (p := ⟨gb367, 2, none⟩) (Kd.R_far (p := ⟨gb367, 1, none⟩) (Kd.R_far (p := ⟨gb367, 0, none⟩) (Kd.R_mono HO349.out (fun k_ hk => (⟨hk, hk.2⟩ : _ ∧ k_ ≠ gb367))) (fun _ hk => hk.2) (.int .i64 t359)) (fun _ hk => hk.2) (.int .i64 t360)) (fun _ hk => hk.2) (.int .i64 t361)) (fun _ hk => hk.2) (.int .i64 t362)) (fun _ hk => hk.2) (.int .u32 t363)) (fun _ hk => hk.2) (.int .u32 t364)) (fun _ hk => hk.2) (.int .i64 t365)) (fun _ h_ => h_.1))) hb); have n1_ := Aside0.mk (blk_below (g := gb341) (o := .cells #[.int .i64 a1_0, .int .i64 a1_1] 36 (0, 0)) (by (with_reducible repeat (first | refine blk_drewN ?_ _ | refine blk_drew ?_ | refine blk_alloc ?_ _)); refine blk_far ?_ NB341_367.out _; (with_reducible repeat (first | refine blk_drewN ?_ _ | refine blk_drew ?_ | refine blk_alloc ?_ _)); refine blk_far ?_ NB341_367.out _; (with_reducible repeat (first | refine blk_drewN ?_ _ | refine blk_drew ?_ | refine blk_alloc ?_ _)); refine blk_far ?_ NB341_367.out _; (with_reducible repeat (first | refine blk_drewN ?_ _ | refine blk_drew ?_ | refine blk_alloc ?_ _)); refine blk_far ?_ NB341_367.out _; (with_reducible repeat (first | refine blk_drewN ?_ _ | refine blk_drew ?_ | refine blk_alloc ?_ _)); refine blk_far ?_ NB341_367.out _; (with_reducible repeat (first | refine blk_drewN ?_ _ | refine blk_drew ?_ | refine blk_alloc ?_ _)); refine blk_far ?_ NB341_367.out _; (with_reducible repeat (first | refine blk_drewN ?_ _ | refine blk_drew ?_ | refine blk_alloc ?_ _)); refine blk_far ?_ NB341_367.out _; (with_reducible repeat (first | refine blk_drewN ?_ _ | refine blk_drew ?_ | refine blk_alloc ?_ _)); exact BK341.out) hb); have n2_ := Aside0.mk (blk_below (g := gb358) (o := .cells #[.int .i64 t350, .int .i64 t351, .int .i64 t352, .int .i64 t353, .int .u32 t354, .int .u32 t355, .int .i64 t356] 27 (0, 0)) (by (with_reducible repeat (first | refine blk_drewN ?_ _ | refine blk_drew ?_ | refine blk_alloc ?_ _)); refine blk_far ?_ NB358_367.out _; (with_reducible repeat (first | refine blk_drewN ?_ _ | refine blk_drew ?_ | refine blk_alloc ?_ _)); refine blk_far ?_ NB358_367.out _; (with_reducible repeat (first | refine blk_drewN ?_ _ | refine blk_drew ?_ | refine blk_alloc ?_ _)); refine blk_far ?_ NB358_367.out _; (with_reducible repeat (first | refine blk_drewN ?_ _ | refine blk_drew ?_ | refine blk_alloc ?_ _)); refine blk_far ?_ NB358_367.out _; (with_reducible repeat (first | refine blk_drewN ?_ _ | refine blk_drew ?_ | refine blk_alloc ?_ _)); refine blk_far ?_ NB358_367.out _; (with_reducible repeat (first | refine blk_drewN ?_ _ | refine blk_drew ?_ | refine blk_alloc ?_ _)); refine blk_far ?_ NB358_367.out _; (with_reducible repeat (first | refine blk_drewN ?_ _ | refine blk_drew ?_ | refine blk_alloc ?_ _)); refine blk_far ?_ NB358_367.out _; (with_reducible repeat (first | refine blk_drewN ?_ _ | refine blk_drew ?_ | refine blk_alloc ?_ _)); exact BK358.out) hb); have n3_ := Aside0.mk (blk_below (g := gb367) (o := .cells #[.int .i64 t359, .int .i64 t360, .int .i64 t361, .int .i64 t362, .int .u32 t363, .int .u32 t364, .int .i64 t365] 27 (0, 0)) (by (with_reducible repeat (first | refine blk_drewN ?_ _ | refine blk_drew ?_ | refine blk_alloc ?_ _)); refine blk_put (cs := #[.int .i64 t359, .int .i64 t360, .int .i64 t361, .int .i64 t362, .int .u32 t363, .int .u32 t364, .int .i64 0]) ?_ 6 _ rfl; (with_reducible repeat (first | refine blk_drewN ?_ _ | refine blk_drew ?_ | refine blk_alloc ?_ _)); refine blk_put (cs := #[.int .i64 t359, .int .i64 t360, .int .i64 t361, .int .i64 t362, .int .u32 t363, .int .u32 0, .int .i64 0]) ?_ 5 _ rfl; (with_reducible repeat (first | refine blk_drewN ?_ _ | refine blk_drew ?_ | refine blk_alloc ?_ _)); refine blk_put (cs := #[.int .i64 t359, .int .i64 t360, .int .i64 t361, .int .i64 t362, .int .u32 0, .int .u32 0, .int .i64 0]) ?_ 4 _ rfl; (with_reducible repeat (first | refine blk_drewN ?_ _ | refine blk_drew ?_ | refine blk_alloc ?_ _)); refine blk_put (cs := #[.int .i64 t359, .int .i64 t360, .int .i64 t361, .int .i64 0, .int .u32 0, .int .u32 0, .int .i64 0]) ?_ 3 _ rfl; (with_reducible repeat (first | refine blk_drewN ?_ _ | refine blk_drew ?_ | refine blk_alloc ?_ _)); refine blk_put (cs := #[.int .i64 t359, .int .i64 t360, .int .i64 0, .int .i64 0, .int .u32 0, .int .u32 0, .int .i64 0]) ?_ 2 _ rfl; (with_reducible repeat (first | refine blk_drewN ?_ _ | refine blk_drew ?_ | refine blk_alloc ?_ _)); refine blk_put (cs := #[.int .i64 t359, .int .i64 0, .int .i64 0, .int .i64 0, .int .u32 0, .int .u32 0, .int .i64 0]) ?_ 1 _ rfl; (with_reducible repeat (first | refine blk_drewN ?_ _ | refine blk_drew ?_ | refine blk_alloc ?_ _)); refine blk_put (cs := #[.int .i64 0, .int .i64 0, .int .i64 0, .int .i64 0, .int .u32 0, .int .u32 0, .int .i64 0]) ?_ 0 _ rfl; (with_reducible repeat (first | refine blk_drewN ?_ _ | refine blk_drew ?_ | refine blk_alloc ?_ _)); exact BK367.out) hb); have n4_ := Aside0.mk (below_step (by repeat (first | (with_reducible first | exact HB.out | apply below_alloc | apply pw_below_drewN | apply below_drew1 | refine below_set ?_ GE341.out | refine below_set ?_ GE358.out | refine below_set ?_ GE367.out) | exact HB.out)) hb); clear HO349; clear BK341; clear BK358; clear BK367; clear HB; have HO349 := n0_; have BK341 := n1_; have BK358 := n2_; have BK367 := n3_; have HB := n4_; clear n0_ n1_ n2_ n3_ n4_; (try clear hb); (try clear hb2); (try clear hk); (try clear hi)) | ((with_reducible refine gate_dst (N := 13) rfl ?_); refine box_event ?hg (N := 13) ?hd (cs := #[.int .i64 0, .int .i64 0, .int .i64 0, .int .i64 0, .int .u32 0, .int .u32 0, .int .i64 0]) (t := 27) ?hr ?_; (case hd => rfl); (case hg => rfl); (case hr => first | (go_simp; done) | (go_simp; rfl)); intro gb376 hg w43 hbox hb; have n0_ := Aside0.mk (Kd.R_below (Kd.R_elderB (by (with_reducible repeat (first | apply Kd.R_alloc | apply Kd.R_drewN | apply Kd.R_drew)); exact HO349.out) gb376 (Nat.le_of_eq hg.symm)) hb); have n1_ := Aside0.mk (blk_below (g := gb341) (o := .cells #[.int .i64 a1_0, .int .i64 a1_1] 36 (0, 0)) (by (with_reducible repeat (first | refine blk_drewN ?_ _ | refine blk_drew ?_ | refine blk_alloc ?_ _)); exact BK341.out) hb); have n2_ := Aside0.mk (blk_below (g := gb358) (o := .cells #[.int .i64 t350, .int .i64 t351, .int .i64 t352, .int .i64 t353, .int .u32 t354, .int .u32 t355, .int .i64 t356] 27 (0, 0)) (by (with_reducible repeat (first | refine blk_drewN ?_ _ | refine blk_drew ?_ | refine blk_alloc ?_ _)); exact BK358.out) hb); have n3_ := Aside0.mk (blk_below (g := gb367) (o := .cells #[.int .i64 t359, .int .i64 t360, .int .i64 t361, .int .i64 t362, .int .u32 t363, .int .u32 t364, .int .i64 t365] 27 (0, 0)) (by (with_reducible repeat (first | refine blk_drewN ?_ _ | refine blk_drew ?_ | refine blk_alloc ?_ _)); exact BK367.out) hb); have n4_ := Aside0.mk (below_step (by repeat (first | (with_reducible first | exact HB.out | apply below_alloc | apply pw_below_drewN | apply below_drew1 | refine below_set ?_ GE341.out | refine below_set ?_ GE358.out | refine below_set ?_ GE367.out) | exact HB.out)) hb); have n5_ := Aside0.mk (hbox); have n6_ := Aside0.mk ((by rw [hg]; exact (below_size (by repeat (first | (with_reducible first | exact HB.out | apply below_alloc | apply pw_below_drewN | apply below_drew1 | refine below_set ?_ GE341.out | refine below_set ?_ GE358.out | refine below_set ?_ GE367.out) | exact HB.out))) : w.heap.size ≤ gb376)); have n7_ := Aside0.mk ((by rw [hg]; exact (below_size (by repeat (first | (with_reducible first | exact HB.out | apply below_alloc | apply pw_below_drewN | apply below_drew1 | refine below_set ?_ GE341.out | refine below_set ?_ GE358.out | refine below_set ?_ GE367.out) | exact HB.out))) : w.heap.size ≤ gb376)); have n8_ := Aside0.mk ((by rw [hg]; exact Nat.ne_of_lt (blk_lt (g := gb341) (o := .cells #[.int .i64 a1_0, .int .i64 a1_1] 36 (0, 0)) (by (with_reducible repeat (first | refine blk_drewN ?_ _ | refine blk_drew ?_ | refine blk_alloc ?_ _)); exact BK341.out)) : gb341 ≠ gb376)); have n9_ := Aside0.mk ((by rw [hg]; exact Nat.ne_of_gt (blk_lt (g := gb341) (o := .cells #[.int .i64 a1_0, .int .i64 a1_1] 36 (0, 0)) (by (with_reducible repeat (first | refine blk_drewN ?_ _ | refine blk_drew ?_ | refine blk_alloc ?_ _)); exact BK341.out)) : gb376 ≠ gb341)); have n10_ := Aside0.mk ((by rw [hg]; exact Nat.ne_of_lt (blk_lt (g := gb358) (o := .cells #[.int .i64 t350, .int .i64 t351, .int .i64 t352, .int .i64 t353, .int .u32 t354, .int .u32 t355, .int .i64 t356] 27 (0, 0)) (by (with_reducible repeat (first | refine blk_drewN ?_ _ | refine blk_drew ?_ | refine blk_alloc ?_ _)); exact BK358.out)) : gb358 ≠ gb376)); have n11_ := Aside0.mk ((by rw [hg]; exact Nat.ne_of_gt (blk_lt (g := gb358) (o := .cells #[.int .i64 t350, .int .i64 t351, .int .i64 t352, .int .i64 t353, .int .u32 t354, .int .u32 t355, .int .i64 t356] 27 (0, 0)) (by (with_reducible repeat (first | refine blk_drewN ?_ _ | refine blk_drew ?_ | refine blk_alloc ?_ _)); exact BK358.out)) : gb376 ≠ gb358)); have n12_ := Aside0.mk ((by rw [hg]; exact Nat.ne_of_lt (blk_lt (g := gb367) (o := .cells #[.int .i64 t359, .int .i64 t360, .int .i64 t361, .int .i64 t362, .int .u32 t363, .int .u32 t364, .int .i64 t365] 27 (0, 0)) (by (with_reducible repeat (first | refine blk_drewN ?_ _ | refine blk_drew ?_ | refine blk_alloc ?_ _)); exact BK367.out)) : gb367 ≠ gb376)); have n13_ := Aside0.mk ((by rw [hg]; exact Nat.ne_of_gt (blk_lt (g := gb367) (o := .cells #[.int .i64 t359, .int .i64 t360, .int .i64 t361, .int .i64 t362, .int .u32 t363, .int .u32 t364, .int .i64 t365] 27 (0, 0)) (by (with_reducible repeat (first | refine blk_drewN ?_ _ | refine blk_drew ?_ | refine blk_alloc ?_ _)); exact BK367.out)) : gb376 ≠ gb367)); clear HO349; clear BK341; clear BK358; clear BK367; clear HB; have HO349 := n0_; have BK341 := n1_; have BK358 := n2_; have BK367 := n3_; have HB := n4_; have BK376 := n5_; have GW376 := n6_; have GE376 := n7_; have NB341_376 := n8_; have NB376_341 := n9_; have NB358_376 := n10_; have NB376_358 := n11_; have NB367_376 := n12_; have NB376_367 := n13_; clear n0_ n1_ n2_ n3_ n4_ n5_ n6_ n7_ n8_ n9_ n10_ n11_ n12_ n13_; clear hb hbox hg; have hnb44 := NB376_341.out; have hnc44 := NB341_376.out; have hnb45 := NB376_358.out; have hnc45 := NB358_376.out; have hnb46 := NB376_367.out; have hnc46 := NB367_376.out; have hcz47_0 : w43.cell? ⟨gb376, 0, none⟩ = some (.int .i64 0) := (blk_cell BK376.out 0).trans rfl; have hcz47_1 : w43.cell? ⟨gb376, 1, none⟩ = some (.int .i64 0) := (blk_cell BK376.out 1).trans rfl; have hcz47_2 : w43.cell? ⟨gb376, 2, none⟩ = some (.int .i64 0) := (blk_cell BK376.out 2).trans rfl; have hcz47_3 : w43.cell? ⟨gb376, 3, none⟩ = some (.int .i64 0) := (blk_cell BK376.out 3).trans rfl; have hcz47_4 : w43.cell? ⟨gb376, 4, none⟩ = some (.int .u32 0) := (blk_cell BK376.out 4).trans rfl; have hcz47_5 : w43.cell? ⟨gb376, 5, none⟩ = some (.int .u32 0) := (blk_cell BK376.out 5).trans rfl; have hcz47_6 : w43.cell? ⟨gb376, 6, none⟩ = some (.int .i64 0) := (blk_cell BK376.out 6).trans rfl; have hfz47_0 := blk_frozen BK376.out 0; have hfz47_1 := blk_frozen BK376.out 1; have hfz47_2 := blk_frozen BK376.out 2; have hfz47_3 := blk_frozen BK376.out 3; have hfz47_4 := blk_frozen BK376.out 4; have hfz47_5 := blk_frozen BK376.out 5; have hfz47_6 := blk_frozen BK376.out 6; have hcz48_0 : w43.cell? ⟨gb341, 0, none⟩ = some (.int .i64 a1_0) := (blk_cell BK341.out 0).trans rfl; have hcz48_1 : w43.cell? ⟨gb341, 1, none⟩ = some (.int .i64 a1_1) := (blk_cell BK341.out 1).trans rfl; have hfz48_0 := blk_frozen BK341.out 0; have hfz48_1 := blk_frozen BK341.out 1) | ((with_reducible refine gate_callee (f := 20) rfl ?_); refine goesL_ (some 58) rfl rfl Tryz.func20 (by kernel_rfl) rfl #[.slice A0 l0.length c0, .int .i64 a1_1, .int .u32 a2] rfl (by (try simp only [List.map_toArray, List.map_cons, List.map_nil]); first | done | rfl | (simp only [List.length_drop, List.length_take]; rfl)) ?_; (with_reducible refine (waystoneref07_Match.calls kj4 _ _ l0 a1_1 a2 t377 t378 t379 t380 t381 t382 t383 t384 _ ?side1 ?side2 A16.out).mono ?_); (case side1 => exact Kd.C_below HR0.out (by repeat (first | (with_reducible first | exact HB.out | apply below_alloc | apply pw_below_drewN | apply below_drew1 | refine below_set ?_ GE341.out | refine below_set ?_ GE358.out | refine below_set ?_ GE367.out | refine below_set ?_ GE376.out) | exact HB.out))); (case side2 => exact HC0.out); rintro e w49 ⟨rfl, hb⟩; refine ⟨_, rfl, ?_⟩; have n0_ := Aside0.mk (Kd.R_below (by (with_reducible repeat (first | apply Kd.R_alloc | apply Kd.R_drewN | apply Kd.R_drew)); exact (Kd.R_mono (Kd.R_far (p := ⟨gb376, 6, none⟩) (Kd.R_far (p := ⟨gb376, 5, none⟩) (Kd.R_far (p := ⟨gb376, 4, none⟩) (Kd.R_far (p := ⟨gb376, 3, none⟩) (Kd.R_far (p := ⟨gb376, 2, none⟩) (Kd.R_far (p := ⟨gb376, 1, none⟩) (Kd.R_far (p := ⟨gb376, 0, none⟩) (Kd.R_mono HO349.out (fun k_ hk => (⟨hk, hk.2⟩ : _ ∧ k_ ≠ gb376))) (fun _ hk => hk.2) (.int .i64 t368)) (fun _ hk => hk.2) (.int .i64 t369)) (fun _ hk => hk.2) (.int .i64 t370)) (fun _ hk => hk.2) (.int .i64 t371)) (fun _ hk => hk.2) (.int .u32 t372)) (fun _ hk => hk.2) (.int .u32 t373)) (fun _ hk => hk.2) (.int .i64 t374)) (fun _ h_ => h_.1))) hb); have n1_ := Aside0.mk (blk_below (g := gb341) (o := .cells #[.int .i64 a1_0, .int .i64 a1_1] 36 (0, 0)) (by (with_reducible repeat (first | refine blk_drewN ?_ _ | refine blk_drew ?_ | refine blk_alloc ?_ _)); refine blk_far ?_ NB341_376.out _; (with_reducible repeat (first | refine blk_drewN ?_ _ | refine blk_drew ?_ | refine blk_alloc ?_ _)); refine blk_far ?_ NB341_376.out _; (with_reducible repeat (first | refine blk_drewN ?_ _ | refine blk_drew ?_ | refine blk_alloc ?_ _)); refine blk_far ?_ NB341_376.out _; (with_reducible repeat (first | refine blk_drewN ?_ _ | refine blk_drew ?_ | refine blk_alloc ?_ _)); refine blk_far ?_ NB341_376.out _; (with_reducible repeat (first | refine blk_drewN ?_ _ | refine blk_drew ?_ | refine blk_alloc ?_ _)); refine blk_far ?_ NB341_376.out _; (with_reducible repeat (first | refine blk_drewN ?_ _ | refine blk_drew ?_ | refine blk_alloc ?_ _)); refine blk_far ?_ NB341_376.out _; (with_reducible repeat (first | refine blk_drewN ?_ _ | refine blk_drew ?_ | refine blk_alloc ?_ _)); refine blk_far ?_ NB341_376.out _; (with_reducible repeat (first | refine blk_drewN ?_ _ | refine blk_drew ?_ | refine blk_alloc ?_ _)); exact BK341.out) hb); have n2_ := Aside0.mk (blk_below (g := gb358) (o := .cells #[.int .i64 t350, .int .i64 t351, .int .i64 t352, .int .i64 t353, .int .u32 t354, .int .u32 t355, .int .i64 t356] 27 (0, 0)) (by (with_reducible repeat (first | refine blk_drewN ?_ _ | refine blk_drew ?_ | refine blk_alloc ?_ _)); refine blk_far ?_ NB358_376.out _; (with_reducible repeat (first | refine blk_drewN ?_ _ | refine blk_drew ?_ | refine blk_alloc ?_ _)); refine blk_far ?_ NB358_376.out _; (with_reducible repeat (first | refine blk_drewN ?_ _ | refine blk_drew ?_ | refine blk_alloc ?_ _)); refine blk_far ?_ NB358_376.out _; (with_reducible repeat (first | refine blk_drewN ?_ _ | refine blk_drew ?_ | refine blk_alloc ?_ _)); refine blk_far ?_ NB358_376.out _; (with_reducible repeat (first | refine blk_drewN ?_ _ | refine blk_drew ?_ | refine blk_alloc ?_ _)); refine blk_far ?_ NB358_376.out _; (with_reducible repeat (first | refine blk_drewN ?_ _ | refine blk_drew ?_ | refine blk_alloc ?_ _)); refine blk_far ?_ NB358_376.out _; (with_reducible repeat (first | refine blk_drewN ?_ _ | refine blk_drew ?_ | refine blk_alloc ?_ _)); refine blk_far ?_ NB358_376.out _; (with_reducible repeat (first | refine blk_drewN ?_ _ | refine blk_drew ?_ | refine blk_alloc ?_ _)); exact BK358.out) hb); have n3_ := Aside0.mk (blk_below (g := gb367) (o := .cells #[.int .i64 t359, .int .i64 t360, .int .i64 t361, .int .i64 t362, .int .u32 t363, .int .u32 t364, .int .i64 t365] 27 (0, 0)) (by (with_reducible repeat (first | refine blk_drewN ?_ _ | refine blk_drew ?_ | refine blk_alloc ?_ _)); refine blk_far ?_ NB367_376.out _; (with_reducible repeat (first | refine blk_drewN ?_ _ | refine blk_drew ?_ | refine blk_alloc ?_ _)); refine blk_far ?_ NB367_376.out _; (with_reducible repeat (first | refine blk_drewN ?_ _ | refine blk_drew ?_ | refine blk_alloc ?_ _)); refine blk_far ?_ NB367_376.out _; (with_reducible repeat (first | refine blk_drewN ?_ _ | refine blk_drew ?_ | refine blk_alloc ?_ _)); refine blk_far ?_ NB367_376.out _; (with_reducible repeat (first | refine blk_drewN ?_ _ | refine blk_drew ?_ | refine blk_alloc ?_ _)); refine blk_far ?_ NB367_376.out _; (with_reducible repeat (first | refine blk_drewN ?_ _ | refine blk_drew ?_ | refine blk_alloc ?_ _)); refine blk_far ?_ NB367_376.out _; (with_reducible repeat (first | refine blk_drewN ?_ _ | refine blk_drew ?_ | refine blk_alloc ?_ _)); refine blk_far ?_ NB367_376.out _; (with_reducible repeat (first | refine blk_drewN ?_ _ | refine blk_drew ?_ | refine blk_alloc ?_ _)); exact BK367.out) hb); have n4_ := Aside0.mk (blk_below (g := gb376) (o := .cells #[.int .i64 t368, .int .i64 t369, .int .i64 t370, .int .i64 t371, .int .u32 t372, .int .u32 t373, .int .i64 t374] 27 (0, 0)) (by (with_reducible repeat (first | refine blk_drewN ?_ _ | refine blk_drew ?_ | refine blk_alloc ?_ _)); refine blk_put (cs := #[.int .i64 t368, .int .i64 t369, .int .i64 t370, .int .i64 t371, .int .u32 t372, .int .u32 t373, .int .i64 0]) ?_ 6 _ rfl; (with_reducible repeat (first | refine blk_drewN ?_ _ | refine blk_drew ?_ | refine blk_alloc ?_ _)); refine blk_put (cs := #[.int .i64 t368, .int .i64 t369, .int .i64 t370, .int .i64 t371, .int .u32 t372, .int .u32 0, .int .i64 0]) ?_ 5 _ rfl; (with_reducible repeat (first | refine blk_drewN ?_ _ | refine blk_drew ?_ | refine blk_alloc ?_ _)); refine blk_put (cs := #[.int .i64 t368, .int .i64 t369, .int .i64 t370, .int .i64 t371, .int .u32 0, .int .u32 0, .int .i64 0]) ?_ 4 _ rfl; (with_reducible repeat (first | refine blk_drewN ?_ _ | refine blk_drew ?_ | refine blk_alloc ?_ _)); refine blk_put (cs := #[.int .i64 t368, .int .i64 t369, .int .i64 t370, .int .i64 0, .int .u32 0, .int .u32 0, .int .i64 0]) ?_ 3 _ rfl; (with_reducible repeat (first | refine blk_drewN ?_ _ | refine blk_drew ?_ | refine blk_alloc ?_ _)); refine blk_put (cs := #[.int .i64 t368, .int .i64 t369, .int .i64 0, .int .i64 0, .int .u32 0, .int .u32 0, .int .i64 0]) ?_ 2 _ rfl; (with_reducible repeat (first | refine blk_drewN ?_ _ | refine blk_drew ?_ | refine blk_alloc ?_ _)); refine blk_put (cs := #[.int .i64 t368, .int .i64 0, .int .i64 0, .int .i64 0, .int .u32 0, .int .u32 0, .int .i64 0]) ?_ 1 _ rfl; (with_reducible repeat (first | refine blk_drewN ?_ _ | refine blk_drew ?_ | refine blk_alloc ?_ _)); refine blk_put (cs := #[.int .i64 0, .int .i64 0, .int .i64 0, .int .i64 0, .int .u32 0, .int .u32 0, .int .i64 0]) ?_ 0 _ rfl; (with_reducible repeat (first | refine blk_drewN ?_ _ | refine blk_drew ?_ | refine blk_alloc ?_ _)); exact BK376.out) hb); have n5_ := Aside0.mk (below_step (by repeat (first | (with_reducible first | exact HB.out | apply below_alloc | apply pw_below_drewN | apply below_drew1 | refine below_set ?_ GE341.out | refine below_set ?_ GE358.out | refine below_set ?_ GE367.out | refine below_set ?_ GE376.out) | exact HB.out)) hb); clear HO349; clear BK341; clear BK358; clear BK367; clear BK376; clear HB; have HO349 := n0_; have BK341 := n1_; have BK358 := n2_; have BK367 := n3_; have BK376 := n4_; have HB := n5_; clear n0_ n1_ n2_ n3_ n4_ n5_; (try clear hb); (try clear hb2); (try clear hk); (try clear hi)) | ((with_reducible refine gate_dst (N := 15) rfl ?_); refine box_event ?hg (N := 15) ?hd (cs := #[.int .i64 0, .int .i64 0, .int .i64 0, .int .i64 0, .int .u32 0, .int .u32 0, .int .i64 0]) (t := 27) ?hr ?_; (case hd => rfl); (case hg => rfl); (case hr => first | (go_simp; done) | (go_simp; rfl)); intro gb385 hg w50 hbox hb; have n0_ := Aside0.mk (Kd.R_below (Kd.R_elderB (by (with_reducible repeat (first | apply Kd.R_alloc | apply Kd.R_drewN | apply Kd.R_drew)); exact HO349.out) gb385 (Nat.le_of_eq hg.symm)) hb); have n1_ := Aside0.mk (blk_below (g := gb341) (o := .cells #[.int .i64 a1_0, .int .i64 a1_1] 36 (0, 0)) (by (with_reducible repeat (first | refine blk_drewN ?_ _ | refine blk_drew ?_ | refine blk_alloc ?_ _)); exact BK341.out) hb); have n2_ := Aside0.mk (blk_below (g := gb358) (o := .cells #[.int .i64 t350, .int .i64 t351, .int .i64 t352, .int .i64 t353, .int .u32 t354, .int .u32 t355, .int .i64 t356] 27 (0, 0)) (by (with_reducible repeat (first | refine blk_drewN ?_ _ | refine blk_drew ?_ | refine blk_alloc ?_ _)); exact BK358.out) hb); have n3_ := Aside0.mk (blk_below (g := gb367) (o := .cells #[.int .i64 t359, .int .i64 t360, .int .i64 t361, .int .i64 t362, .int .u32 t363, .int .u32 t364, .int .i64 t365] 27 (0, 0)) (by (with_reducible repeat (first | refine blk_drewN ?_ _ | refine blk_drew ?_ | refine blk_alloc ?_ _)); exact BK367.out) hb); have n4_ := Aside0.mk (blk_below (g := gb376) (o := .cells #[.int .i64 t368, .int .i64 t369, .int .i64 t370, .int .i64 t371, .int .u32 t372, .int .u32 t373, .int .i64 t374] 27 (0, 0)) (by (with_reducible repeat (first | refine blk_drewN ?_ _ | refine blk_drew ?_ | refine blk_alloc ?_ _)); exact BK376.out) hb); have n5_ := Aside0.mk (below_step (by repeat (first | (with_reducible first | exact HB.out | apply below_alloc | apply pw_below_drewN | apply below_drew1 | refine below_set ?_ GE341.out | refine below_set ?_ GE358.out | refine below_set ?_ GE367.out | refine below_set ?_ GE376.out) | exact HB.out)) hb); have n6_ := Aside0.mk (hbox); have n7_ := Aside0.mk ((by rw [hg]; exact (below_size (by repeat (first | (with_reducible first | exact HB.out | apply below_alloc | apply pw_below_drewN | apply below_drew1 | refine below_set ?_ GE341.out | refine below_set ?_ GE358.out | refine below_set ?_ GE367.out | refine below_set ?_ GE376.out) | exact HB.out))) : w.heap.size ≤ gb385)); have n8_ := Aside0.mk ((by rw [hg]; exact (below_size (by repeat (first | (with_reducible first | exact HB.out | apply below_alloc | apply pw_below_drewN | apply below_drew1 | refine below_set ?_ GE341.out | refine below_set ?_ GE358.out | refine below_set ?_ GE367.out | refine below_set ?_ GE376.out) | exact HB.out))) : w.heap.size ≤ gb385)); have n9_ := Aside0.mk ((by rw [hg]; exact Nat.ne_of_lt (blk_lt (g := gb341) (o := .cells #[.int .i64 a1_0, .int .i64 a1_1] 36 (0, 0)) (by (with_reducible repeat (first | refine blk_drewN ?_ _ | refine blk_drew ?_ | refine blk_alloc ?_ _)); exact BK341.out)) : gb341 ≠ gb385)); have n10_ := Aside0.mk ((by rw [hg]; exact Nat.ne_of_gt (blk_lt (g := gb341) (o := .cells #[.int .i64 a1_0, .int .i64 a1_1] 36 (0, 0)) (by (with_reducible repeat (first | refine blk_drewN ?_ _ | refine blk_drew ?_ | refine blk_alloc ?_ _)); exact BK341.out)) : gb385 ≠ gb341)); have n11_ := Aside0.mk ((by rw [hg]; exact Nat.ne_of_lt (blk_lt (g := gb358) (o := .cells #[.int .i64 t350, .int .i64 t351, .int .i64 t352, .int .i64 t353, .int .u32 t354, .int .u32 t355, .int .i64 t356] 27 (0, 0)) (by (with_reducible repeat (first | refine blk_drewN ?_ _ | refine blk_drew ?_ | refine blk_alloc ?_ _)); exact BK358.out)) : gb358 ≠ gb385)); have n12_ := Aside0.mk ((by rw [hg]; exact Nat.ne_of_gt (blk_lt (g := gb358) (o := .cells #[.int .i64 t350, .int .i64 t351, .int .i64 t352, .int .i64 t353, .int .u32 t354, .int .u32 t355, .int .i64 t356] 27 (0, 0)) (by (with_reducible repeat (first | refine blk_drewN ?_ _ | refine blk_drew ?_ | refine blk_alloc ?_ _)); exact BK358.out)) : gb385 ≠ gb358)); have n13_ := Aside0.mk ((by rw [hg]; exact Nat.ne_of_lt (blk_lt (g := gb367) (o := .cells #[.int .i64 t359, .int .i64 t360, .int .i64 t361, .int .i64 t362, .int .u32 t363, .int .u32 t364, .int .i64 t365] 27 (0, 0)) (by (with_reducible repeat (first | refine blk_drewN ?_ _ | refine blk_drew ?_ | refine blk_alloc ?_ _)); exact BK367.out)) : gb367 ≠ gb385)); have n14_ := Aside0.mk ((by rw [hg]; exact Nat.ne_of_gt (blk_lt (g := gb367) (o := .cells #[.int .i64 t359, .int .i64 t360, .int .i64 t361, .int .i64 t362, .int .u32 t363, .int .u32 t364, .int .i64 t365] 27 (0, 0)) (by (with_reducible repeat (first | refine blk_drewN ?_ _ | refine blk_drew ?_ | refine blk_alloc ?_ _)); exact BK367.out)) : gb385 ≠ gb367)); have n15_ := Aside0.mk ((by rw [hg]; exact Nat.ne_of_lt (blk_lt (g := gb376) (o := .cells #[.int .i64 t368, .int .i64 t369, .int .i64 t370, .int .i64 t371, .int .u32 t372, .int .u32 t373, .int .i64 t374] 27 (0, 0)) (by (with_reducible repeat (first | refine blk_drewN ?_ _ | refine blk_drew ?_ | refine blk_alloc ?_ _)); exact BK376.out)) : gb376 ≠ gb385)); have n16_ := Aside0.mk ((by rw [hg]; exact Nat.ne_of_gt (blk_lt (g := gb376) (o := .cells #[.int .i64 t368, .int .i64 t369, .int .i64 t370, .int .i64 t371, .int .u32 t372, .int .u32 t373, .int .i64 t374] 27 (0, 0)) (by (with_reducible repeat (first | refine blk_drewN ?_ _ | refine blk_drew ?_ | refine blk_alloc ?_ _)); exact BK376.out)) : gb385 ≠ gb376)); clear HO349; clear BK341; clear BK358; clear BK367; clear BK376; clear HB; have HO349 := n0_; have BK341 := n1_; have BK358 := n2_; have BK367 := n3_; have BK376 := n4_; have HB := n5_; have BK385 := n6_; have GW385 := n7_; have GE385 := n8_; have NB341_385 := n9_; have NB385_341 := n10_; have NB358_385 := n11_; have NB385_358 := n12_; have NB367_385 := n13_; have NB385_367 := n14_; have NB376_385 := n15_; have NB385_376 := n16_; clear n0_ n1_ n2_ n3_ n4_ n5_ n6_ n7_ n8_ n9_ n10_ n11_ n12_ n13_ n14_ n15_ n16_; clear hb hbox hg; have hnb51 := NB385_341.out; have hnc51 := NB341_385.out; have hnb52 := NB385_358.out; have hnc52 := NB358_385.out; have hnb53 := NB385_367.out; have hnc53 := NB367_385.out; have hnb54 := NB385_376.out; have hnc54 := NB376_385.out; have hcz55_0 : w50.cell? ⟨gb385, 0, none⟩ = some (.int .i64 0) := (blk_cell BK385.out 0).trans rfl; have hcz55_1 : w50.cell? ⟨gb385, 1, none⟩ = some (.int .i64 0) := (blk_cell BK385.out 1).trans rfl; have hcz55_2 : w50.cell? ⟨gb385, 2, none⟩ = some (.int .i64 0) := (blk_cell BK385.out 2).trans rfl; have hcz55_3 : w50.cell? ⟨gb385, 3, none⟩ = some (.int .i64 0) := (blk_cell BK385.out 3).trans rfl; have hcz55_4 : w50.cell? ⟨gb385, 4, none⟩ = some (.int .u32 0) := (blk_cell BK385.out 4).trans rfl; have hcz55_5 : w50.cell? ⟨gb385, 5, none⟩ = some (.int .u32 0) := (blk_cell BK385.out 5).trans rfl; have hcz55_6 : w50.cell? ⟨gb385, 6, none⟩ = some (.int .i64 0) := (blk_cell BK385.out 6).trans rfl; have hfz55_0 := blk_frozen BK385.out 0; have hfz55_1 := blk_frozen BK385.out 1; have hfz55_2 := blk_frozen BK385.out 2; have hfz55_3 := blk_frozen BK385.out 3; have hfz55_4 := blk_frozen BK385.out 4; have hfz55_5 := blk_frozen BK385.out 5; have hfz55_6 := blk_frozen BK385.out 6; obtain ⟨Ao56, co56, eo56⟩ := Kd.R_slice HO349.out; subst eo56) | ((with_reducible refine gate_callee (f := 21) rfl ?_); refine goesL_ (some 63) rfl rfl Tryz.func21 (by kernel_rfl) rfl #[.slice A0 l0.length c0, .slice Ao56 y347.length co56] rfl (by (try simp only [List.map_toArray, List.map_cons, List.map_nil]); first | done | rfl | (simp only [List.length_drop, List.length_take]; rfl)) ?_; (with_reducible refine (waystoneref07_Same.calls kj4 _ _ l0 _ _ y347 t386 _ ?side1 ?side2 ?side3 ?side4 A17.out).mono ?_); (case side1 => exact Kd.C_below HR0.out (by repeat (first | (with_reducible first | exact HB.out | apply below_alloc | apply pw_below_drewN | apply below_drew1 | refine below_set ?_ GE341.out | refine below_set ?_ GE358.out | refine below_set ?_ GE367.out | refine below_set ?_ GE376.out | refine below_set ?_ GE385.out) | exact HB.out))); (case side2 => exact HC0.out); (case side3 => refine (Kd.R_reads' (e := 27) (base := w.heap.size) (ok := fun k_ => ((((True ∧ k_ ≠ gb358) ∧ k_ ≠ gb367) ∧ k_ ≠ gb376) ∧ k_ ≠ gb385)) (n := y347.length) (c := co56) ?_).2.2; exact (by (with_reducible repeat (first | apply Kd.R_alloc | apply Kd.R_drewN | apply Kd.R_drew)); exact (Kd.R_mono (Kd.R_far (p := ⟨gb385, 6, none⟩) (Kd.R_far (p := ⟨gb385, 5, none⟩) (Kd.R_far (p := ⟨gb385, 4, none⟩) (Kd.R_far (p := ⟨gb385, 3, none⟩) (Kd.R_far (p := ⟨gb385, 2, none⟩) (Kd.R_far (p := ⟨gb385, 1, none⟩) (Kd.R_far (p := ⟨gb385, 0, none⟩) (Kd.R_mono HO349.out (fun k_ hk => (⟨hk, hk.2⟩ : _ ∧ k_ ≠ gb385))) (fun _ hk => hk.2) (.int .i64 t377)) (fun _ hk => hk.2) (.int .i64 t378)) (fun _ hk => hk.2) (.int .i64 t379)) (fun _ hk => hk.2) (.int .i64 t380)) (fun _ hk => hk.2) (.int .u32 t381)) (fun _ hk => hk.2) (.int .u32 t382)) (fun _ hk => hk.2) (.int .i64 t383)) (fun _ h_ => h_.1)))); (case side4 => exact (Kd.R_reads' HO349.out).2.1); rintro e w' ⟨rfl, ⟨nd, rfl⟩⟩; refine ⟨_, rfl, ?_⟩))
                      have n0_ : Aside0 (Kd.R k27 27 (((((((w50.setCell ⟨gb385, 0, none⟩ (.int .i64 t377)).setCell ⟨gb385, 1, none⟩ (.int .i64 t378)).setCell ⟨gb385, 2, none⟩ (.int .i64 t379)).setCell ⟨gb385, 3, none⟩ (.int .i64 t380)).setCell ⟨gb385, 4, none⟩ (.int .u32 t381)).setCell ⟨gb385, 5, none⟩ (.int .u32 t382)).setCell ⟨gb385, 6, none⟩ (.int .i64 t383)) w.heap.size (fun k_ => k_ ≠ gb358 ∧ k_ ≠ gb367 ∧ k_ ≠ gb376 ∧ k_ ≠ gb385) (.slice Ao56 y347.length co56) y347) := ⟨by (with_reducible repeat (first | apply Kd.R_alloc | apply Kd.R_drewN | apply Kd.R_drew)); exact Kd.R_mono (Kd.R_far (p := ⟨gb385, 6, none⟩) (Kd.R_far (p := ⟨gb385, 5, none⟩) (Kd.R_far (p := ⟨gb385, 4, none⟩) (Kd.R_far (p := ⟨gb385, 3, none⟩) (Kd.R_far (p := ⟨gb385, 2, none⟩) (Kd.R_far (p := ⟨gb385, 1, none⟩) (Kd.R_far (p := ⟨gb385, 0, none⟩) (Kd.R_mono HO349.out (fun k_ hk => (⟨hk, hk.2⟩ : _ ∧ k_ ≠ gb385))) (fun _ hk => hk.2) (.int .i64 t377)) (fun _ hk => hk.2) (.int .i64 t378)) (fun _ hk => hk.2) (.int .i64 t379)) (fun _ hk => hk.2) (.int .i64 t380)) (fun _ hk => hk.2) (.int .u32 t381)) (fun _ hk => hk.2) (.int .u32 t382)) (fun _ hk => hk.2) (.int .i64 t383)) (fun _ hk => ⟨hk.1.1.1.1.2, ⟨hk.1.1.1.2, ⟨hk.1.1.2, hk.1.2⟩⟩⟩)⟩
                      have n1_ : Aside0 ((((((((w50.setCell ⟨gb385, 0, none⟩ (.int .i64 t377)).setCell ⟨gb385, 1, none⟩ (.int .i64 t378)).setCell ⟨gb385, 2, none⟩ (.int .i64 t379)).setCell ⟨gb385, 3, none⟩ (.int .i64 t380)).setCell ⟨gb385, 4, none⟩ (.int .u32 t381)).setCell ⟨gb385, 5, none⟩ (.int .u32 t382)).setCell ⟨gb385, 6, none⟩ (.int .i64 t383)).heap[gb341]? = some (.cells #[.int .i64 a1_0, .int .i64 a1_1] 36 (0, 0))) := ⟨by (with_reducible repeat (first | refine blk_drewN ?_ _ | refine blk_drew ?_ | refine blk_alloc ?_ _)); refine blk_far ?_ NB341_385.out _; (with_reducible repeat (first | refine blk_drewN ?_ _ | refine blk_drew ?_ | refine blk_alloc ?_ _)); refine blk_far ?_ NB341_385.out _; (with_reducible repeat (first | refine blk_drewN ?_ _ | refine blk_drew ?_ | refine blk_alloc ?_ _)); refine blk_far ?_ NB341_385.out _; (with_reducible repeat (first | refine blk_drewN ?_ _ | refine blk_drew ?_ | refine blk_alloc ?_ _)); refine blk_far ?_ NB341_385.out _; (with_reducible repeat (first | refine blk_drewN ?_ _ | refine blk_drew ?_ | refine blk_alloc ?_ _)); refine blk_far ?_ NB341_385.out _; (with_reducible repeat (first | refine blk_drewN ?_ _ | refine blk_drew ?_ | refine blk_alloc ?_ _)); refine blk_far ?_ NB341_385.out _; (with_reducible repeat (first | refine blk_drewN ?_ _ | refine blk_drew ?_ | refine blk_alloc ?_ _)); refine blk_far ?_ NB341_385.out _; (with_reducible repeat (first | refine blk_drewN ?_ _ | refine blk_drew ?_ | refine blk_alloc ?_ _)); exact BK341.out⟩
                      have n2_ : Aside0 ((((((((w50.setCell ⟨gb385, 0, none⟩ (.int .i64 t377)).setCell ⟨gb385, 1, none⟩ (.int .i64 t378)).setCell ⟨gb385, 2, none⟩ (.int .i64 t379)).setCell ⟨gb385, 3, none⟩ (.int .i64 t380)).setCell ⟨gb385, 4, none⟩ (.int .u32 t381)).setCell ⟨gb385, 5, none⟩ (.int .u32 t382)).setCell ⟨gb385, 6, none⟩ (.int .i64 t383)).heap[gb358]? = some (.cells #[.int .i64 t350, .int .i64 t351, .int .i64 t352, .int .i64 t353, .int .u32 t354, .int .u32 t355, .int .i64 t356] 27 (0, 0))) := ⟨by (with_reducible repeat (first | refine blk_drewN ?_ _ | refine blk_drew ?_ | refine blk_alloc ?_ _)); refine blk_far ?_ NB358_385.out _; (with_reducible repeat (first | refine blk_drewN ?_ _ | refine blk_drew ?_ | refine blk_alloc ?_ _)); refine blk_far ?_ NB358_385.out _; (with_reducible repeat (first | refine blk_drewN ?_ _ | refine blk_drew ?_ | refine blk_alloc ?_ _)); refine blk_far ?_ NB358_385.out _; (with_reducible repeat (first | refine blk_drewN ?_ _ | refine blk_drew ?_ | refine blk_alloc ?_ _)); refine blk_far ?_ NB358_385.out _; (with_reducible repeat (first | refine blk_drewN ?_ _ | refine blk_drew ?_ | refine blk_alloc ?_ _)); refine blk_far ?_ NB358_385.out _; (with_reducible repeat (first | refine blk_drewN ?_ _ | refine blk_drew ?_ | refine blk_alloc ?_ _)); refine blk_far ?_ NB358_385.out _; (with_reducible repeat (first | refine blk_drewN ?_ _ | refine blk_drew ?_ | refine blk_alloc ?_ _)); refine blk_far ?_ NB358_385.out _; (with_reducible repeat (first | refine blk_drewN ?_ _ | refine blk_drew ?_ | refine blk_alloc ?_ _)); exact BK358.out⟩
                      have n3_ : Aside0 ((((((((w50.setCell ⟨gb385, 0, none⟩ (.int .i64 t377)).setCell ⟨gb385, 1, none⟩ (.int .i64 t378)).setCell ⟨gb385, 2, none⟩ (.int .i64 t379)).setCell ⟨gb385, 3, none⟩ (.int .i64 t380)).setCell ⟨gb385, 4, none⟩ (.int .u32 t381)).setCell ⟨gb385, 5, none⟩ (.int .u32 t382)).setCell ⟨gb385, 6, none⟩ (.int .i64 t383)).heap[gb367]? = some (.cells #[.int .i64 t359, .int .i64 t360, .int .i64 t361, .int .i64 t362, .int .u32 t363, .int .u32 t364, .int .i64 t365] 27 (0, 0))) := ⟨by (with_reducible repeat (first | refine blk_drewN ?_ _ | refine blk_drew ?_ | refine blk_alloc ?_ _)); refine blk_far ?_ NB367_385.out _; (with_reducible repeat (first | refine blk_drewN ?_ _ | refine blk_drew ?_ | refine blk_alloc ?_ _)); refine blk_far ?_ NB367_385.out _; (with_reducible repeat (first | refine blk_drewN ?_ _ | refine blk_drew ?_ | refine blk_alloc ?_ _)); refine blk_far ?_ NB367_385.out _; (with_reducible repeat (first | refine blk_drewN ?_ _ | refine blk_drew ?_ | refine blk_alloc ?_ _)); refine blk_far ?_ NB367_385.out _; (with_reducible repeat (first | refine blk_drewN ?_ _ | refine blk_drew ?_ | refine blk_alloc ?_ _)); refine blk_far ?_ NB367_385.out _; (with_reducible repeat (first | refine blk_drewN ?_ _ | refine blk_drew ?_ | refine blk_alloc ?_ _)); refine blk_far ?_ NB367_385.out _; (with_reducible repeat (first | refine blk_drewN ?_ _ | refine blk_drew ?_ | refine blk_alloc ?_ _)); refine blk_far ?_ NB367_385.out _; (with_reducible repeat (first | refine blk_drewN ?_ _ | refine blk_drew ?_ | refine blk_alloc ?_ _)); exact BK367.out⟩
                      have n4_ : Aside0 ((((((((w50.setCell ⟨gb385, 0, none⟩ (.int .i64 t377)).setCell ⟨gb385, 1, none⟩ (.int .i64 t378)).setCell ⟨gb385, 2, none⟩ (.int .i64 t379)).setCell ⟨gb385, 3, none⟩ (.int .i64 t380)).setCell ⟨gb385, 4, none⟩ (.int .u32 t381)).setCell ⟨gb385, 5, none⟩ (.int .u32 t382)).setCell ⟨gb385, 6, none⟩ (.int .i64 t383)).heap[gb376]? = some (.cells #[.int .i64 t368, .int .i64 t369, .int .i64 t370, .int .i64 t371, .int .u32 t372, .int .u32 t373, .int .i64 t374] 27 (0, 0))) := ⟨by (with_reducible repeat (first | refine blk_drewN ?_ _ | refine blk_drew ?_ | refine blk_alloc ?_ _)); refine blk_far ?_ NB376_385.out _; (with_reducible repeat (first | refine blk_drewN ?_ _ | refine blk_drew ?_ | refine blk_alloc ?_ _)); refine blk_far ?_ NB376_385.out _; (with_reducible repeat (first | refine blk_drewN ?_ _ | refine blk_drew ?_ | refine blk_alloc ?_ _)); refine blk_far ?_ NB376_385.out _; (with_reducible repeat (first | refine blk_drewN ?_ _ | refine blk_drew ?_ | refine blk_alloc ?_ _)); refine blk_far ?_ NB376_385.out _; (with_reducible repeat (first | refine blk_drewN ?_ _ | refine blk_drew ?_ | refine blk_alloc ?_ _)); refine blk_far ?_ NB376_385.out _; (with_reducible repeat (first | refine blk_drewN ?_ _ | refine blk_drew ?_ | refine blk_alloc ?_ _)); refine blk_far ?_ NB376_385.out _; (with_reducible repeat (first | refine blk_drewN ?_ _ | refine blk_drew ?_ | refine blk_alloc ?_ _)); refine blk_far ?_ NB376_385.out _; (with_reducible repeat (first | refine blk_drewN ?_ _ | refine blk_drew ?_ | refine blk_alloc ?_ _)); exact BK376.out⟩
                      have n5_ : Aside0 ((((((((w50.setCell ⟨gb385, 0, none⟩ (.int .i64 t377)).setCell ⟨gb385, 1, none⟩ (.int .i64 t378)).setCell ⟨gb385, 2, none⟩ (.int .i64 t379)).setCell ⟨gb385, 3, none⟩ (.int .i64 t380)).setCell ⟨gb385, 4, none⟩ (.int .u32 t381)).setCell ⟨gb385, 5, none⟩ (.int .u32 t382)).setCell ⟨gb385, 6, none⟩ (.int .i64 t383)).heap[gb385]? = some (.cells #[.int .i64 t377, .int .i64 t378, .int .i64 t379, .int .i64 t380, .int .u32 t381, .int .u32 t382, .int .i64 t383] 27 (0, 0))) := ⟨by (with_reducible repeat (first | refine blk_drewN ?_ _ | refine blk_drew ?_ | refine blk_alloc ?_ _)); refine blk_put (cs := #[.int .i64 t377, .int .i64 t378, .int .i64 t379, .int .i64 t380, .int .u32 t381, .int .u32 t382, .int .i64 0]) ?_ 6 _ rfl; (with_reducible repeat (first | refine blk_drewN ?_ _ | refine blk_drew ?_ | refine blk_alloc ?_ _)); refine blk_put (cs := #[.int .i64 t377, .int .i64 t378, .int .i64 t379, .int .i64 t380, .int .u32 t381, .int .u32 0, .int .i64 0]) ?_ 5 _ rfl; (with_reducible repeat (first | refine blk_drewN ?_ _ | refine blk_drew ?_ | refine blk_alloc ?_ _)); refine blk_put (cs := #[.int .i64 t377, .int .i64 t378, .int .i64 t379, .int .i64 t380, .int .u32 0, .int .u32 0, .int .i64 0]) ?_ 4 _ rfl; (with_reducible repeat (first | refine blk_drewN ?_ _ | refine blk_drew ?_ | refine blk_alloc ?_ _)); refine blk_put (cs := #[.int .i64 t377, .int .i64 t378, .int .i64 t379, .int .i64 0, .int .u32 0, .int .u32 0, .int .i64 0]) ?_ 3 _ rfl; (with_reducible repeat (first | refine blk_drewN ?_ _ | refine blk_drew ?_ | refine blk_alloc ?_ _)); refine blk_put (cs := #[.int .i64 t377, .int .i64 t378, .int .i64 0, .int .i64 0, .int .u32 0, .int .u32 0, .int .i64 0]) ?_ 2 _ rfl; (with_reducible repeat (first | refine blk_drewN ?_ _ | refine blk_drew ?_ | refine blk_alloc ?_ _)); refine blk_put (cs := #[.int .i64 t377, .int .i64 0, .int .i64 0, .int .i64 0, .int .u32 0, .int .u32 0, .int .i64 0]) ?_ 1 _ rfl; (with_reducible repeat (first | refine blk_drewN ?_ _ | refine blk_drew ?_ | refine blk_alloc ?_ _)); refine blk_put (cs := #[.int .i64 0, .int .i64 0, .int .i64 0, .int .i64 0, .int .u32 0, .int .u32 0, .int .i64 0]) ?_ 0 _ rfl; (with_reducible repeat (first | refine blk_drewN ?_ _ | refine blk_drew ?_ | refine blk_alloc ?_ _)); exact BK385.out⟩
                      have n6_ : Aside0 (Below w.heap.size w (((((((w50.setCell ⟨gb385, 0, none⟩ (.int .i64 t377)).setCell ⟨gb385, 1, none⟩ (.int .i64 t378)).setCell ⟨gb385, 2, none⟩ (.int .i64 t379)).setCell ⟨gb385, 3, none⟩ (.int .i64 t380)).setCell ⟨gb385, 4, none⟩ (.int .u32 t381)).setCell ⟨gb385, 5, none⟩ (.int .u32 t382)).setCell ⟨gb385, 6, none⟩ (.int .i64 t383))) := ⟨by repeat (first | (with_reducible first | exact HB.out | apply below_alloc | apply pw_below_drewN | apply below_drew1 | refine below_set ?_ GE341.out | refine below_set ?_ GE358.out | refine below_set ?_ GE367.out | refine below_set ?_ GE376.out | refine below_set ?_ GE385.out) | exact HB.out)⟩
                      (try clear HO349)
                      (try clear BK341)
                      (try clear BK358)
                      (try clear BK367)
                      (try clear BK376)
                      (try clear BK385)
                      (try clear HB)
                      generalize (((((((w50.setCell ⟨gb385, 0, none⟩ (.int .i64 t377)).setCell ⟨gb385, 1, none⟩ (.int .i64 t378)).setCell ⟨gb385, 2, none⟩ (.int .i64 t379)).setCell ⟨gb385, 3, none⟩ (.int .i64 t380)).setCell ⟨gb385, 4, none⟩ (.int .u32 t381)).setCell ⟨gb385, 5, none⟩ (.int .u32 t382)).setCell ⟨gb385, 6, none⟩ (.int .i64 t383)) = w57 at n0_ n1_ n2_ n3_ n4_ n5_ n6_ ⊢
                      have HO349 := n0_
                      have BK341 := n1_
                      have BK358 := n2_
                      have BK367 := n3_
                      have BK376 := n4_
                      have BK385 := n5_
                      have HB := n6_
                      clear n0_ n1_ n2_ n3_ n4_ n5_ n6_
                      (try (rw [drewN_self w57]; generalize hq_ : World.drewN w57 _ = w57; have n0_ : Aside0 (Kd.R k27 27 w57 w.heap.size (fun k_ => k_ ≠ gb358 ∧ k_ ≠ gb367 ∧ k_ ≠ gb376 ∧ k_ ≠ gb385) (.slice Ao56 y347.length co56) y347) := ⟨by rw [← hq_]; exact (by (with_reducible repeat (first | apply Kd.R_alloc | apply Kd.R_drewN | apply Kd.R_drew)); exact HO349.out)⟩; have n1_ : Aside0 (w57.heap[gb341]? = some (.cells #[.int .i64 a1_0, .int .i64 a1_1] 36 (0, 0))) := ⟨by rw [← hq_]; exact (by (with_reducible repeat (first | refine blk_drewN ?_ _ | refine blk_drew ?_ | refine blk_alloc ?_ _)); exact BK341.out)⟩; have n2_ : Aside0 (w57.heap[gb358]? = some (.cells #[.int .i64 t350, .int .i64 t351, .int .i64 t352, .int .i64 t353, .int .u32 t354, .int .u32 t355, .int .i64 t356] 27 (0, 0))) := ⟨by rw [← hq_]; exact (by (with_reducible repeat (first | refine blk_drewN ?_ _ | refine blk_drew ?_ | refine blk_alloc ?_ _)); exact BK358.out)⟩; have n3_ : Aside0 (w57.heap[gb367]? = some (.cells #[.int .i64 t359, .int .i64 t360, .int .i64 t361, .int .i64 t362, .int .u32 t363, .int .u32 t364, .int .i64 t365] 27 (0, 0))) := ⟨by rw [← hq_]; exact (by (with_reducible repeat (first | refine blk_drewN ?_ _ | refine blk_drew ?_ | refine blk_alloc ?_ _)); exact BK367.out)⟩; have n4_ : Aside0 (w57.heap[gb376]? = some (.cells #[.int .i64 t368, .int .i64 t369, .int .i64 t370, .int .i64 t371, .int .u32 t372, .int .u32 t373, .int .i64 t374] 27 (0, 0))) := ⟨by rw [← hq_]; exact (by (with_reducible repeat (first | refine blk_drewN ?_ _ | refine blk_drew ?_ | refine blk_alloc ?_ _)); exact BK376.out)⟩; have n5_ : Aside0 (w57.heap[gb385]? = some (.cells #[.int .i64 t377, .int .i64 t378, .int .i64 t379, .int .i64 t380, .int .u32 t381, .int .u32 t382, .int .i64 t383] 27 (0, 0))) := ⟨by rw [← hq_]; exact (by (with_reducible repeat (first | refine blk_drewN ?_ _ | refine blk_drew ?_ | refine blk_alloc ?_ _)); exact BK385.out)⟩; have n6_ : Aside0 (Below w.heap.size w w57) := ⟨by rw [← hq_]; exact (by repeat (first | (with_reducible first | exact HB.out | apply below_alloc | apply pw_below_drewN | apply below_drew1 | refine below_set ?_ GE341.out | refine below_set ?_ GE358.out | refine below_set ?_ GE367.out | refine below_set ?_ GE376.out | refine below_set ?_ GE385.out) | exact HB.out))⟩; clear HO349 BK341 BK358 BK367 BK376 BK385 HB hq_; have HO349 := n0_; have BK341 := n1_; have BK358 := n2_; have BK367 := n3_; have BK376 := n4_; have BK385 := n5_; have HB := n6_; clear n0_ n1_ n2_ n3_ n4_ n5_ n6_))
                      have n0_ := Aside0.mk (Kd.R_drew HO349.out)
                      have n1_ := Aside0.mk (blk_drew BK341.out)
                      have n2_ := Aside0.mk (blk_drew BK358.out)
                      have n3_ := Aside0.mk (blk_drew BK367.out)
                      have n4_ := Aside0.mk (blk_drew BK376.out)
                      have n5_ := Aside0.mk (blk_drew BK385.out)
                      have n6_ := Aside0.mk (below_drew1 HB.out)
                      clear HO349
                      clear BK341
                      clear BK358
                      clear BK367
                      clear BK376
                      clear BK385
                      clear HB
                      have HO349 := n0_
                      have BK341 := n1_
                      have BK358 := n2_
                      have BK367 := n3_
                      have BK376 := n4_
                      have BK385 := n5_
                      have HB := n6_
                      clear n0_ n1_ n2_ n3_ n4_ n5_ n6_
                      refine start_ (n := 38) (S := fun w' => w'.cell? ⟨gb358, 0, none⟩ = some (.int .i64 t350) ∧ w'.cell? ⟨gb358, 1, none⟩ = some (.int .i64 t351) ∧ w'.cell? ⟨gb358, 2, none⟩ = some (.int .i64 t352) ∧ w'.cell? ⟨gb358, 3, none⟩ = some (.int .i64 t353) ∧ w'.cell? ⟨gb358, 4, none⟩ = some (.int .u32 t354) ∧ w'.cell? ⟨gb358, 5, none⟩ = some (.int .u32 t355) ∧ w'.cell? ⟨gb358, 6, none⟩ = some (.int .i64 t356) ∧ w'.cell? ⟨gb367, 0, none⟩ = some (.int .i64 t359) ∧ w'.cell? ⟨gb367, 1, none⟩ = some (.int .i64 t360) ∧ w'.cell? ⟨gb367, 2, none⟩ = some (.int .i64 t361) ∧ w'.cell? ⟨gb367, 3, none⟩ = some (.int .i64 t362) ∧ w'.cell? ⟨gb367, 4, none⟩ = some (.int .u32 t363) ∧ w'.cell? ⟨gb367, 5, none⟩ = some (.int .u32 t364) ∧ w'.cell? ⟨gb367, 6, none⟩ = some (.int .i64 t365) ∧ w'.cell? ⟨gb376, 0, none⟩ = some (.int .i64 t368) ∧ w'.cell? ⟨gb376, 1, none⟩ = some (.int .i64 t369) ∧ w'.cell? ⟨gb376, 2, none⟩ = some (.int .i64 t370) ∧ w'.cell? ⟨gb376, 3, none⟩ = some (.int .i64 t371) ∧ w'.cell? ⟨gb376, 4, none⟩ = some (.int .u32 t372) ∧ w'.cell? ⟨gb376, 5, none⟩ = some (.int .u32 t373) ∧ w'.cell? ⟨gb376, 6, none⟩ = some (.int .i64 t374) ∧ w'.cell? ⟨gb385, 0, none⟩ = some (.int .i64 t377) ∧ w'.cell? ⟨gb385, 1, none⟩ = some (.int .i64 t378) ∧ w'.cell? ⟨gb385, 2, none⟩ = some (.int .i64 t379) ∧ w'.cell? ⟨gb385, 3, none⟩ = some (.int .i64 t380) ∧ w'.cell? ⟨gb385, 4, none⟩ = some (.int .u32 t381) ∧ w'.cell? ⟨gb385, 5, none⟩ = some (.int .u32 t382) ∧ w'.cell? ⟨gb385, 6, none⟩ = some (.int .i64 t383) ∧ w'.cell? ⟨gb341, 0, none⟩ = some (.int .i64 a1_0) ∧ w'.cell? ⟨gb341, 1, none⟩ = some (.int .i64 a1_1)) (ds := []) #[false, false, false, false, false, false, false, false, false, false, false, false, false, false, false, false, false, false, false, false, false, false, false, false, false, false, false, false, false, false, false, false, false, false, false, false, false, false] (by kernel_rfl) rfl rfl ⟨(blk_cell BK358.out 0).trans rfl, (blk_cell BK358.out 1).trans rfl, (blk_cell BK358.out 2).trans rfl, (blk_cell BK358.out 3).trans rfl, (blk_cell BK358.out 4).trans rfl, (blk_cell BK358.out 5).trans rfl, (blk_cell BK358.out 6).trans rfl, (blk_cell BK367.out 0).trans rfl, (blk_cell BK367.out 1).trans rfl, (blk_cell BK367.out 2).trans rfl, (blk_cell BK367.out 3).trans rfl, (blk_cell BK367.out 4).trans rfl, (blk_cell BK367.out 5).trans rfl, (blk_cell BK367.out 6).trans rfl, (blk_cell BK376.out 0).trans rfl, (blk_cell BK376.out 1).trans rfl, (blk_cell BK376.out 2).trans rfl, (blk_cell BK376.out 3).trans rfl, (blk_cell BK376.out 4).trans rfl, (blk_cell BK376.out 5).trans rfl, (blk_cell BK376.out 6).trans rfl, (blk_cell BK385.out 0).trans rfl, (blk_cell BK385.out 1).trans rfl, (blk_cell BK385.out 2).trans rfl, (blk_cell BK385.out 3).trans rfl, (blk_cell BK385.out 4).trans rfl, (blk_cell BK385.out 5).trans rfl, (blk_cell BK385.out 6).trans rfl, (blk_cell BK341.out 0).trans rfl, (blk_cell BK341.out 1).trans rfl⟩ (fun hHeld => ?_); refine with_tabW waystonelaw07_RuleMatches.tab10 waystonelaw07_RuleMatches.bits10 (fun HT_ HW_ => ?_)
                      generalize w57.drew = w58 at HO349 BK341 BK358 BK367 BK376 BK385 HB hHeld ⊢
                      refine one_ (i := 0) (N := some 64) #[true, false, false, false, false, false, false, false, false, false, false, false, false, false, false, false, false, false, false, false, false, false, false, false, false, false, false, false, false, false, false, false, false, false, false, false, false, false] rfl rfl (one_of HT_.out (by kernel_rfl)) (by decide) (fun K hK => ?_)
                      refine goes_ Tryz.func13 (by kernel_rfl) rfl #[] (by rfl) rfl rfl (by (try simp only [List.map_toArray, List.map_cons, List.map_nil]); first | done | rfl | (simp only [List.length_drop, List.length_take]; rfl)) ?_
                      with_reducible refine (waystonelaw07_alive.calls kj4  true _ ?side1 A18.out).mono ?_
                      (case side1 => exact HLd.below (by repeat (first | (with_reducible first | exact HB.out | apply below_alloc | apply pw_below_drewN | apply below_drew1 | refine below_set ?_ GE341.out | refine below_set ?_ GE358.out | refine below_set ?_ GE367.out | refine below_set ?_ GE376.out | refine below_set ?_ GE385.out) | exact HB.out)))
                      rintro e w59 ⟨rfl, hb⟩
                      refine ⟨_, rfl, ?_⟩
                      have n0_ := Aside0.mk (Kd.R_below (by (with_reducible repeat (first | apply Kd.R_alloc | apply Kd.R_drewN | apply Kd.R_drew)); exact HO349.out) hb)
                      have n1_ := Aside0.mk (blk_below (g := gb341) (o := .cells #[.int .i64 a1_0, .int .i64 a1_1] 36 (0, 0)) (by (with_reducible repeat (first | refine blk_drewN ?_ _ | refine blk_drew ?_ | refine blk_alloc ?_ _)); exact BK341.out) hb)
                      have n2_ := Aside0.mk (blk_below (g := gb358) (o := .cells #[.int .i64 t350, .int .i64 t351, .int .i64 t352, .int .i64 t353, .int .u32 t354, .int .u32 t355, .int .i64 t356] 27 (0, 0)) (by (with_reducible repeat (first | refine blk_drewN ?_ _ | refine blk_drew ?_ | refine blk_alloc ?_ _)); exact BK358.out) hb)
                      have n3_ := Aside0.mk (blk_below (g := gb367) (o := .cells #[.int .i64 t359, .int .i64 t360, .int .i64 t361, .int .i64 t362, .int .u32 t363, .int .u32 t364, .int .i64 t365] 27 (0, 0)) (by (with_reducible repeat (first | refine blk_drewN ?_ _ | refine blk_drew ?_ | refine blk_alloc ?_ _)); exact BK367.out) hb)
                      have n4_ := Aside0.mk (blk_below (g := gb376) (o := .cells #[.int .i64 t368, .int .i64 t369, .int .i64 t370, .int .i64 t371, .int .u32 t372, .int .u32 t373, .int .i64 t374] 27 (0, 0)) (by (with_reducible repeat (first | refine blk_drewN ?_ _ | refine blk_drew ?_ | refine blk_alloc ?_ _)); exact BK376.out) hb)
                      have n5_ := Aside0.mk (blk_below (g := gb385) (o := .cells #[.int .i64 t377, .int .i64 t378, .int .i64 t379, .int .i64 t380, .int .u32 t381, .int .u32 t382, .int .i64 t383] 27 (0, 0)) (by (with_reducible repeat (first | refine blk_drewN ?_ _ | refine blk_drew ?_ | refine blk_alloc ?_ _)); exact BK385.out) hb)
                      have n6_ := Aside0.mk (below_step (by repeat (first | (with_reducible first | exact HB.out | apply below_alloc | apply pw_below_drewN | apply below_drew1 | refine below_set ?_ GE341.out | refine below_set ?_ GE358.out | refine below_set ?_ GE367.out | refine below_set ?_ GE376.out | refine below_set ?_ GE385.out) | exact HB.out)) hb)
                      clear HO349
                      clear BK341
                      clear BK358
                      clear BK367
                      clear BK376
                      clear BK385
                      clear HB
                      have HO349 := n0_
                      have BK341 := n1_
                      have BK358 := n2_
                      have BK367 := n3_
                      have BK376 := n4_
                      have BK385 := n5_
                      have HB := n6_
                      clear n0_ n1_ n2_ n3_ n4_ n5_ n6_
                      (try clear hb)
                      (try clear hb2)
                      (try clear hk)
                      (try clear hi)
                      refine hK.out _ _ ⟨(blk_cell BK358.out 0).trans rfl, (blk_cell BK358.out 1).trans rfl, (blk_cell BK358.out 2).trans rfl, (blk_cell BK358.out 3).trans rfl, (blk_cell BK358.out 4).trans rfl, (blk_cell BK358.out 5).trans rfl, (blk_cell BK358.out 6).trans rfl, (blk_cell BK367.out 0).trans rfl, (blk_cell BK367.out 1).trans rfl, (blk_cell BK367.out 2).trans rfl, (blk_cell BK367.out 3).trans rfl, (blk_cell BK367.out 4).trans rfl, (blk_cell BK367.out 5).trans rfl, (blk_cell BK367.out 6).trans rfl, (blk_cell BK376.out 0).trans rfl, (blk_cell BK376.out 1).trans rfl, (blk_cell BK376.out 2).trans rfl, (blk_cell BK376.out 3).trans rfl, (blk_cell BK376.out 4).trans rfl, (blk_cell BK376.out 5).trans rfl, (blk_cell BK376.out 6).trans rfl, (blk_cell BK385.out 0).trans rfl, (blk_cell BK385.out 1).trans rfl, (blk_cell BK385.out 2).trans rfl, (blk_cell BK385.out 3).trans rfl, (blk_cell BK385.out 4).trans rfl, (blk_cell BK385.out 5).trans rfl, (blk_cell BK385.out 6).trans rfl, (blk_cell BK341.out 0).trans rfl, (blk_cell BK341.out 1).trans rfl⟩ (fun hHeld => ?_)
                      clear hK K
                      refine norm_ (a' := ?_) ?_ ?_
                      rotate_left
                      · show Act.put _ (some 64) _ = _
                        simp only [Act.put, List.setIfInBounds_toArray, List.set_cons_zero, List.set_cons_succ, i64_w, i32_w]
                        rfl
                      refine pure_ (i := 1) (N := some 65) (v := ?_) (a' := ?_) #[true, true, false, false, false, false, false, false, false, false, false, false, false, false, false, false, false, false, false, false, false, false, false, false, false, false, false, false, false, false, false, false, false, false, false, false, false, false] rfl rfl (any_of HT_.out (by kernel_rfl)) (fun _ _ _ h => h) (Or.inl ⟨by rfl, ?_⟩) ?_ ?_
                      rotate_left
                      · intro w'
                        go_simp
                        with_reducible rfl
                      rotate_left
                      · simp only [Act.put, List.setIfInBounds_toArray, List.set_cons_zero, List.set_cons_succ, i64_w, i32_w]
                        rfl
                      refine take_ (i := 2) (N := some 66) (v := ?_) (a' := ?_) #[true, true, true, false, false, false, false, false, false, false, false, false, false, false, false, false, false, false, false, false, false, false, false, false, false, false, false, false, false, false, false, false, false, false, false, false, false, false] rfl rfl (take_ofW HT_.out HW_.out (by kernel_rfl)) (fun _ _ _ h => h) (Or.inl ⟨by rfl, ?_⟩) hHeld ?_ ?_
                      rotate_left
                      · rintro w' ⟨s0, s1, s2, s3, s4, s5, s6, s7, s8, s9, s10, s11, s12, s13, s14, s15, s16, s17, s18, s19, s20, s21, s22, s23, s24, s25, s26, s27, s28, s29⟩
                        go_simp
                        with_reducible rfl
                      rotate_left
                      · simp only [Act.put, List.setIfInBounds_toArray, List.set_cons_zero, List.set_cons_succ, i64_w, i32_w]
                        rfl
                      refine take_ (i := 3) (N := some 67) (v := ?_) (a' := ?_) #[true, true, true, true, false, false, false, false, false, false, false, false, false, false, false, false, false, false, false, false, false, false, false, false, false, false, false, false, false, false, false, false, false, false, false, false, false, false] rfl rfl (take_ofW HT_.out HW_.out (by kernel_rfl)) (fun _ _ _ h => h) (Or.inl ⟨by rfl, ?_⟩) hHeld ?_ ?_
                      rotate_left
                      · rintro w' ⟨s0, s1, s2, s3, s4, s5, s6, s7, s8, s9, s10, s11, s12, s13, s14, s15, s16, s17, s18, s19, s20, s21, s22, s23, s24, s25, s26, s27, s28, s29⟩
                        go_simp
                        with_reducible rfl
                      rotate_left
                      · simp only [Act.put, List.setIfInBounds_toArray, List.set_cons_zero, List.set_cons_succ, i64_w, i32_w]
                        rfl
                      refine pure_ (i := 4) (N := some 68) (v := ?_) (a' := ?_) #[true, true, true, true, true, false, false, false, false, false, false, false, false, false, false, false, false, false, false, false, false, false, false, false, false, false, false, false, false, false, false, false, false, false, false, false, false, false] rfl rfl (any_of HT_.out (by kernel_rfl)) (fun _ _ _ h => h) (Or.inl ⟨by rfl, ?_⟩) ?_ ?_
                      rotate_left
                      · intro w'
                        go_simp
                        with_reducible rfl
                      rotate_left
                      · simp only [Act.put, List.setIfInBounds_toArray, List.set_cons_zero, List.set_cons_succ, i64_w, i32_w]
                        rfl
                      refine pure_ (i := 5) (N := some 69) (v := ?_) (a' := ?_) #[true, true, true, true, true, true, false, false, false, false, false, false, false, false, false, false, false, false, false, false, false, false, false, false, false, false, false, false, false, false, false, false, false, false, false, false, false, false] rfl rfl (any_of HT_.out (by kernel_rfl)) (fun _ _ _ h => h) (Or.inl ⟨by rfl, ?_⟩) ?_ ?_
                      rotate_left
                      · intro w'
                        go_simp
                        with_reducible rfl
                      rotate_left
                      · simp only [Act.put, List.setIfInBounds_toArray, List.set_cons_zero, List.set_cons_succ, i64_w, i32_w]
                        rfl
                      refine pure_ (i := 6) (N := some 70) (v := ?_) (a' := ?_) #[true, true, true, true, true, true, true, false, false, false, false, false, false, false, false, false, false, false, false, false, false, false, false, false, false, false, false, false, false, false, false, false, false, false, false, false, false, false] rfl rfl (any_of HT_.out (by kernel_rfl)) (fun _ _ _ h => h) (Or.inl ⟨by rfl, ?_⟩) ?_ ?_
                      rotate_left
                      · intro w'
                        go_simp
                        with_reducible rfl
                      rotate_left
                      · simp only [Act.put, List.setIfInBounds_toArray, List.set_cons_zero, List.set_cons_succ, i64_w, i32_w]
                        rfl
                      refine pure_ (i := 7) (N := some 71) (v := ?_) (a' := ?_) #[true, true, true, true, true, true, true, true, false, false, false, false, false, false, false, false, false, false, false, false, false, false, false, false, false, false, false, false, false, false, false, false, false, false, false, false, false, false] rfl rfl (any_of HT_.out (by kernel_rfl)) (fun _ _ _ h => h) (Or.inl ⟨by rfl, ?_⟩) ?_ ?_
                      rotate_left
                      · intro w'
                        go_simp
                        with_reducible rfl
                      rotate_left
                      · simp only [Act.put, List.setIfInBounds_toArray, List.set_cons_zero, List.set_cons_succ, i64_w, i32_w]
                        rfl
                      refine pure_ (i := 8) (N := some 72) (v := ?_) (a' := ?_) #[true, true, true, true, true, true, true, true, true, false, false, false, false, false, false, false, false, false, false, false, false, false, false, false, false, false, false, false, false, false, false, false, false, false, false, false, false, false] rfl rfl (any_of HT_.out (by kernel_rfl)) (fun _ _ _ h => h) (Or.inl ⟨by rfl, ?_⟩) ?_ ?_
                      rotate_left
                      · intro w'
                        go_simp
                        with_reducible rfl
                      rotate_left
                      · simp only [Act.put, List.setIfInBounds_toArray, List.set_cons_zero, List.set_cons_succ, i64_w, i32_w]
                        rfl
                      refine pure_ (i := 9) (N := some 73) (v := ?_) (a' := ?_) #[true, true, true, true, true, true, true, true, true, true, false, false, false, false, false, false, false, false, false, false, false, false, false, false, false, false, false, false, false, false, false, false, false, false, false, false, false, false] rfl rfl (any_of HT_.out (by kernel_rfl)) (fun _ _ _ h => h) (Or.inl ⟨by rfl, ?_⟩) ?_ ?_
                      rotate_left
                      · intro w'
                        go_simp
                        with_reducible rfl
                      rotate_left
                      · simp only [Act.put, List.setIfInBounds_toArray, List.set_cons_zero, List.set_cons_succ, i64_w, i32_w]
                        rfl
                      refine pure_ (i := 10) (N := some 74) (v := ?_) (a' := ?_) #[true, true, true, true, true, true, true, true, true, true, true, false, false, false, false, false, false, false, false, false, false, false, false, false, false, false, false, false, false, false, false, false, false, false, false, false, false, false] rfl rfl (any_of HT_.out (by kernel_rfl)) (fun _ _ _ h => h) (Or.inl ⟨by rfl, ?_⟩) ?_ ?_
                      rotate_left
                      · intro w'
                        go_simp
                        with_reducible rfl
                      rotate_left
                      · simp only [Act.put, List.setIfInBounds_toArray, List.set_cons_zero, List.set_cons_succ, i64_w, i32_w]
                        rfl
                      refine pure_ (i := 11) (N := some 75) (v := ?_) (a' := ?_) #[true, true, true, true, true, true, true, true, true, true, true, true, false, false, false, false, false, false, false, false, false, false, false, false, false, false, false, false, false, false, false, false, false, false, false, false, false, false] rfl rfl (any_of HT_.out (by kernel_rfl)) (fun _ _ _ h => h) (Or.inl ⟨by rfl, ?_⟩) ?_ ?_
                      rotate_left
                      · intro w'
                        go_simp
                        with_reducible rfl
                      rotate_left
                      · simp only [Act.put, List.setIfInBounds_toArray, List.set_cons_zero, List.set_cons_succ, i64_w, i32_w]
                        rfl
                      refine take_ (i := 12) (N := some 76) (v := ?_) (a' := ?_) #[true, true, true, true, true, true, true, true, true, true, true, true, true, false, false, false, false, false, false, false, false, false, false, false, false, false, false, false, false, false, false, false, false, false, false, false, false, false] rfl rfl (take_ofW HT_.out HW_.out (by kernel_rfl)) (fun _ _ _ h => h) (Or.inl ⟨by rfl, ?_⟩) hHeld ?_ ?_
                      rotate_left
                      · rintro w' ⟨s0, s1, s2, s3, s4, s5, s6, s7, s8, s9, s10, s11, s12, s13, s14, s15, s16, s17, s18, s19, s20, s21, s22, s23, s24, s25, s26, s27, s28, s29⟩
                        go_simp
                        with_reducible rfl
                      rotate_left
                      · simp only [Act.put, List.setIfInBounds_toArray, List.set_cons_zero, List.set_cons_succ, i64_w, i32_w]
                        rfl
                      refine take_ (i := 13) (N := some 77) (v := ?_) (a' := ?_) #[true, true, true, true, true, true, true, true, true, true, true, true, true, true, false, false, false, false, false, false, false, false, false, false, false, false, false, false, false, false, false, false, false, false, false, false, false, false] rfl rfl (take_ofW HT_.out HW_.out (by kernel_rfl)) (fun _ _ _ h => h) (Or.inl ⟨by rfl, ?_⟩) hHeld ?_ ?_
                      rotate_left
                      · rintro w' ⟨s0, s1, s2, s3, s4, s5, s6, s7, s8, s9, s10, s11, s12, s13, s14, s15, s16, s17, s18, s19, s20, s21, s22, s23, s24, s25, s26, s27, s28, s29⟩
                        go_simp
                        with_reducible rfl
                      rotate_left
                      · simp only [Act.put, List.setIfInBounds_toArray, List.set_cons_zero, List.set_cons_succ, i64_w, i32_w]
                        rfl
                      refine pure_ (i := 14) (N := some 78) (v := ?_) (a' := ?_) #[true, true, true, true, true, true, true, true, true, true, true, true, true, true, true, false, false, false, false, false, false, false, false, false, false, false, false, false, false, false, false, false, false, false, false, false, false, false] rfl rfl (any_of HT_.out (by kernel_rfl)) (fun _ _ _ h => h) (Or.inl ⟨by rfl, ?_⟩) ?_ ?_
                      rotate_left
                      · intro w'
                        go_simp
                        with_reducible rfl
                      rotate_left
                      · simp only [Act.put, List.setIfInBounds_toArray, List.set_cons_zero, List.set_cons_succ, i64_w, i32_w]
                        rfl
                      refine pure_ (i := 15) (N := some 79) (v := ?_) (a' := ?_) #[true, true, true, true, true, true, true, true, true, true, true, true, true, true, true, true, false, false, false, false, false, false, false, false, false, false, false, false, false, false, false, false, false, false, false, false, false, false] rfl rfl (any_of HT_.out (by kernel_rfl)) (fun _ _ _ h => h) (Or.inl ⟨by rfl, ?_⟩) ?_ ?_
                      rotate_left
                      · intro w'
                        go_simp
                        with_reducible rfl
                      rotate_left
                      · simp only [Act.put, List.setIfInBounds_toArray, List.set_cons_zero, List.set_cons_succ, i64_w, i32_w]
                        rfl
                      refine pure_ (i := 16) (N := some 80) (v := ?_) (a' := ?_) #[true, true, true, true, true, true, true, true, true, true, true, true, true, true, true, true, true, false, false, false, false, false, false, false, false, false, false, false, false, false, false, false, false, false, false, false, false, false] rfl rfl (any_of HT_.out (by kernel_rfl)) (fun _ _ _ h => h) (Or.inl ⟨by rfl, ?_⟩) ?_ ?_
                      rotate_left
                      · intro w'
                        go_simp
                        with_reducible rfl
                      rotate_left
                      · simp only [Act.put, List.setIfInBounds_toArray, List.set_cons_zero, List.set_cons_succ, i64_w, i32_w]
                        rfl
                      refine pure_ (i := 17) (N := some 81) (v := ?_) (a' := ?_) #[true, true, true, true, true, true, true, true, true, true, true, true, true, true, true, true, true, true, false, false, false, false, false, false, false, false, false, false, false, false, false, false, false, false, false, false, false, false] rfl rfl (any_of HT_.out (by kernel_rfl)) (fun _ _ _ h => h) (Or.inl ⟨by rfl, ?_⟩) ?_ ?_
                      rotate_left
                      · intro w'
                        go_simp
                        with_reducible rfl
                      rotate_left
                      · simp only [Act.put, List.setIfInBounds_toArray, List.set_cons_zero, List.set_cons_succ, i64_w, i32_w]
                        rfl
                      refine pure_ (i := 18) (N := some 82) (v := ?_) (a' := ?_) #[true, true, true, true, true, true, true, true, true, true, true, true, true, true, true, true, true, true, true, false, false, false, false, false, false, false, false, false, false, false, false, false, false, false, false, false, false, false] rfl rfl (any_of HT_.out (by kernel_rfl)) (fun _ _ _ h => h) (Or.inl ⟨by rfl, ?_⟩) ?_ ?_
                      rotate_left
                      · intro w'
                        go_simp
                        with_reducible rfl
                      rotate_left
                      · simp only [Act.put, List.setIfInBounds_toArray, List.set_cons_zero, List.set_cons_succ, i64_w, i32_w]
                        rfl
                      refine pure_ (i := 19) (N := some 83) (v := ?_) (a' := ?_) #[true, true, true, true, true, true, true, true, true, true, true, true, true, true, true, true, true, true, true, true, false, false, false, false, false, false, false, false, false, false, false, false, false, false, false, false, false, false] rfl rfl (any_of HT_.out (by kernel_rfl)) (fun _ _ _ h => h) (Or.inl ⟨by rfl, ?_⟩) ?_ ?_
                      rotate_left
                      · intro w'
                        go_simp
                        with_reducible rfl
                      rotate_left
                      · simp only [Act.put, List.setIfInBounds_toArray, List.set_cons_zero, List.set_cons_succ, i64_w, i32_w]
                        rfl
                      refine pure_ (i := 20) (N := some 84) (v := ?_) (a' := ?_) #[true, true, true, true, true, true, true, true, true, true, true, true, true, true, true, true, true, true, true, true, true, false, false, false, false, false, false, false, false, false, false, false, false, false, false, false, false, false] rfl rfl (any_of HT_.out (by kernel_rfl)) (fun _ _ _ h => h) (Or.inl ⟨by rfl, ?_⟩) ?_ ?_
                      rotate_left
                      · intro w'
                        go_simp
                        with_reducible rfl
                      rotate_left
                      · simp only [Act.put, List.setIfInBounds_toArray, List.set_cons_zero, List.set_cons_succ, i64_w, i32_w]
                        rfl
                      refine pure_ (i := 21) (N := some 85) (v := ?_) (a' := ?_) #[true, true, true, true, true, true, true, true, true, true, true, true, true, true, true, true, true, true, true, true, true, true, false, false, false, false, false, false, false, false, false, false, false, false, false, false, false, false] rfl rfl (any_of HT_.out (by kernel_rfl)) (fun _ _ _ h => h) (Or.inl ⟨by rfl, ?_⟩) ?_ ?_
                      rotate_left
                      · intro w'
                        go_simp
                        with_reducible rfl
                      rotate_left
                      · simp only [Act.put, List.setIfInBounds_toArray, List.set_cons_zero, List.set_cons_succ, i64_w, i32_w]
                        rfl
                      refine pure_ (i := 22) (N := some 86) (v := ?_) (a' := ?_) #[true, true, true, true, true, true, true, true, true, true, true, true, true, true, true, true, true, true, true, true, true, true, true, false, false, false, false, false, false, false, false, false, false, false, false, false, false, false] rfl rfl (any_of HT_.out (by kernel_rfl)) (fun _ _ _ h => h) (Or.inl ⟨by rfl, ?_⟩) ?_ ?_
                      rotate_left
                      · intro w'
                        go_simp
                        with_reducible rfl
                      rotate_left
                      · simp only [Act.put, List.setIfInBounds_toArray, List.set_cons_zero, List.set_cons_succ, i64_w, i32_w]
                        rfl
                      refine pure_ (i := 23) (N := some 87) (v := ?_) (a' := ?_) #[true, true, true, true, true, true, true, true, true, true, true, true, true, true, true, true, true, true, true, true, true, true, true, true, false, false, false, false, false, false, false, false, false, false, false, false, false, false] rfl rfl (any_of HT_.out (by kernel_rfl)) (fun _ _ _ h => h) (Or.inl ⟨by rfl, ?_⟩) ?_ ?_
                      rotate_left
                      · intro w'
                        go_simp
                        with_reducible rfl
                      rotate_left
                      · simp only [Act.put, List.setIfInBounds_toArray, List.set_cons_zero, List.set_cons_succ, i64_w, i32_w]
                        rfl
                      refine pure_ (i := 25) (N := some 89) (v := ?_) (a' := ?_) #[true, true, true, true, true, true, true, true, true, true, true, true, true, true, true, true, true, true, true, true, true, true, true, true, false, true, false, false, false, false, false, false, false, false, false, false, false, false] rfl rfl (any_of HT_.out (by kernel_rfl)) (fun _ _ _ h => h) (Or.inl ⟨by rfl, ?_⟩) ?_ ?_
                      rotate_left
                      · intro w'
                        go_simp
                        with_reducible rfl
                      rotate_left
                      · simp only [Act.put, List.setIfInBounds_toArray, List.set_cons_zero, List.set_cons_succ, i64_w, i32_w]
                        rfl
                      refine pure_ (i := 27) (N := some 91) (v := ?_) (a' := ?_) #[true, true, true, true, true, true, true, true, true, true, true, true, true, true, true, true, true, true, true, true, true, true, true, true, false, true, false, true, false, false, false, false, false, false, false, false, false, false] rfl rfl (any_of HT_.out (by kernel_rfl)) (fun _ _ _ h => h) (Or.inl ⟨by rfl, ?_⟩) ?_ ?_
                      rotate_left
                      · intro w'
                        go_simp
                        with_reducible rfl
                      rotate_left
                      · simp only [Act.put, List.setIfInBounds_toArray, List.set_cons_zero, List.set_cons_succ, i64_w, i32_w]
                        rfl
                      refine pure_ (i := 28) (N := some 92) (v := ?_) (a' := ?_) #[true, true, true, true, true, true, true, true, true, true, true, true, true, true, true, true, true, true, true, true, true, true, true, true, false, true, false, true, true, false, false, false, false, false, false, false, false, false] rfl rfl (any_of HT_.out (by kernel_rfl)) (fun _ _ _ h => h) (Or.inl ⟨by rfl, ?_⟩) ?_ ?_
                      rotate_left
                      · intro w'
                        go_simp
                        with_reducible rfl
                      rotate_left
                      · simp only [Act.put, List.setIfInBounds_toArray, List.set_cons_zero, List.set_cons_succ, i64_w, i32_w]
                        rfl
                      refine pure_ (i := 30) (N := some 94) (v := ?_) (a' := ?_) #[true, true, true, true, true, true, true, true, true, true, true, true, true, true, true, true, true, true, true, true, true, true, true, true, false, true, false, true, true, false, true, false, false, false, false, false, false, false] rfl rfl (any_of HT_.out (by kernel_rfl)) (fun _ _ _ h => h) (Or.inl ⟨by rfl, ?_⟩) ?_ ?_
                      rotate_left
                      · intro w'
                        go_simp
                        with_reducible rfl
                      rotate_left
                      · simp only [Act.put, List.setIfInBounds_toArray, List.set_cons_zero, List.set_cons_succ, i64_w, i32_w]
                        rfl
                      refine take_ (i := 24) (N := some 88) (v := ?_) (a' := ?_) #[true, true, true, true, true, true, true, true, true, true, true, true, true, true, true, true, true, true, true, true, true, true, true, true, true, true, false, true, true, false, true, false, false, false, false, false, false, false] rfl rfl (take_ofW HT_.out HW_.out (by kernel_rfl)) (fun _ _ _ h => h) (Or.inl ⟨by rfl, ?_⟩) hHeld ?_ ?_
                      rotate_left
                      · rintro w' ⟨s0, s1, s2, s3, s4, s5, s6, s7, s8, s9, s10, s11, s12, s13, s14, s15, s16, s17, s18, s19, s20, s21, s22, s23, s24, s25, s26, s27, s28, s29⟩
                        go_simp
                        with_reducible rfl
                      rotate_left
                      · simp only [Act.put, List.setIfInBounds_toArray, List.set_cons_zero, List.set_cons_succ, i64_w, i32_w]
                        rfl
                      refine take_ (i := 29) (N := some 93) (v := ?_) (a' := ?_) #[true, true, true, true, true, true, true, true, true, true, true, true, true, true, true, true, true, true, true, true, true, true, true, true, true, true, false, true, true, true, true, false, false, false, false, false, false, false] rfl rfl (take_ofW HT_.out HW_.out (by kernel_rfl)) (fun _ _ _ h => h) (Or.inl ⟨by rfl, ?_⟩) hHeld ?_ ?_
                      rotate_left
                      · rintro w' ⟨s0, s1, s2, s3, s4, s5, s6, s7, s8, s9, s10, s11, s12, s13, s14, s15, s16, s17, s18, s19, s20, s21, s22, s23, s24, s25, s26, s27, s28, s29⟩
                        go_simp
                        with_reducible rfl
                      rotate_left
                      · simp only [Act.put, List.setIfInBounds_toArray, List.set_cons_zero, List.set_cons_succ, i64_w, i32_w]
                        rfl
                      refine one_ (i := 26) (N := some 90) #[true, true, true, true, true, true, true, true, true, true, true, true, true, true, true, true, true, true, true, true, true, true, true, true, true, true, true, true, true, true, true, false, false, false, false, false, false, false] rfl rfl (one_of HT_.out (by kernel_rfl)) (by decide) (fun K hK => ?_)
                      refine goes_ Tryz.func22 (by kernel_rfl) rfl #[.slice A0 l0.length c0, .int .i64 a1_1, .int .u32 a2] (by rfl) rfl rfl (by (try simp only [List.map_toArray, List.map_cons, List.map_nil]); first | done | rfl | (simp only [List.length_drop, List.length_take]; rfl)) ?_
                      with_reducible refine (rule_Denies.calls _ _ l0 a1_1 a2 t388 _ ?side1 ?side2 A24.out).mono ?_
                      (case side1 => repeat (first | exact (Kd.C_below HR0.out HB.out) | (with_reducible refine Kd.C_alloc ?_ _) | (with_reducible refine Kd.C_drewN ?_ _) | (with_reducible refine Kd.C_drew ?_)))
                      (case side2 => exact HC0.out)
                      rintro e w60 ⟨rfl, hb⟩
                      refine ⟨_, rfl, ?_⟩
                      have n0_ := Aside0.mk (Kd.R_below (by (with_reducible repeat (first | apply Kd.R_alloc | apply Kd.R_drewN | apply Kd.R_drew)); exact HO349.out) hb)
                      have n1_ := Aside0.mk (blk_below (g := gb341) (o := .cells #[.int .i64 a1_0, .int .i64 a1_1] 36 (0, 0)) (by (with_reducible repeat (first | refine blk_drewN ?_ _ | refine blk_drew ?_ | refine blk_alloc ?_ _)); exact BK341.out) hb)
                      have n2_ := Aside0.mk (blk_below (g := gb358) (o := .cells #[.int .i64 t350, .int .i64 t351, .int .i64 t352, .int .i64 t353, .int .u32 t354, .int .u32 t355, .int .i64 t356] 27 (0, 0)) (by (with_reducible repeat (first | refine blk_drewN ?_ _ | refine blk_drew ?_ | refine blk_alloc ?_ _)); exact BK358.out) hb)
                      have n3_ := Aside0.mk (blk_below (g := gb367) (o := .cells #[.int .i64 t359, .int .i64 t360, .int .i64 t361, .int .i64 t362, .int .u32 t363, .int .u32 t364, .int .i64 t365] 27 (0, 0)) (by (with_reducible repeat (first | refine blk_drewN ?_ _ | refine blk_drew ?_ | refine blk_alloc ?_ _)); exact BK367.out) hb)
                      have n4_ := Aside0.mk (blk_below (g := gb376) (o := .cells #[.int .i64 t368, .int .i64 t369, .int .i64 t370, .int .i64 t371, .int .u32 t372, .int .u32 t373, .int .i64 t374] 27 (0, 0)) (by (with_reducible repeat (first | refine blk_drewN ?_ _ | refine blk_drew ?_ | refine blk_alloc ?_ _)); exact BK376.out) hb)
                      have n5_ := Aside0.mk (blk_below (g := gb385) (o := .cells #[.int .i64 t377, .int .i64 t378, .int .i64 t379, .int .i64 t380, .int .u32 t381, .int .u32 t382, .int .i64 t383] 27 (0, 0)) (by (with_reducible repeat (first | refine blk_drewN ?_ _ | refine blk_drew ?_ | refine blk_alloc ?_ _)); exact BK385.out) hb)
                      have n6_ := Aside0.mk (below_step (by repeat (first | (with_reducible first | exact HB.out | apply below_alloc | apply pw_below_drewN | apply below_drew1 | refine below_set ?_ GE341.out | refine below_set ?_ GE358.out | refine below_set ?_ GE367.out | refine below_set ?_ GE376.out | refine below_set ?_ GE385.out) | exact HB.out)) hb)
                      clear HO349
                      clear BK341
                      clear BK358
                      clear BK367
                      clear BK376
                      clear BK385
                      clear HB
                      have HO349 := n0_
                      have BK341 := n1_
                      have BK358 := n2_
                      have BK367 := n3_
                      have BK376 := n4_
                      have BK385 := n5_
                      have HB := n6_
                      clear n0_ n1_ n2_ n3_ n4_ n5_ n6_
                      (try clear hb)
                      (try clear hb2)
                      (try clear hk)
                      (try clear hi)
                      refine hK.out _ _ ⟨(blk_cell BK358.out 0).trans rfl, (blk_cell BK358.out 1).trans rfl, (blk_cell BK358.out 2).trans rfl, (blk_cell BK358.out 3).trans rfl, (blk_cell BK358.out 4).trans rfl, (blk_cell BK358.out 5).trans rfl, (blk_cell BK358.out 6).trans rfl, (blk_cell BK367.out 0).trans rfl, (blk_cell BK367.out 1).trans rfl, (blk_cell BK367.out 2).trans rfl, (blk_cell BK367.out 3).trans rfl, (blk_cell BK367.out 4).trans rfl, (blk_cell BK367.out 5).trans rfl, (blk_cell BK367.out 6).trans rfl, (blk_cell BK376.out 0).trans rfl, (blk_cell BK376.out 1).trans rfl, (blk_cell BK376.out 2).trans rfl, (blk_cell BK376.out 3).trans rfl, (blk_cell BK376.out 4).trans rfl, (blk_cell BK376.out 5).trans rfl, (blk_cell BK376.out 6).trans rfl, (blk_cell BK385.out 0).trans rfl, (blk_cell BK385.out 1).trans rfl, (blk_cell BK385.out 2).trans rfl, (blk_cell BK385.out 3).trans rfl, (blk_cell BK385.out 4).trans rfl, (blk_cell BK385.out 5).trans rfl, (blk_cell BK385.out 6).trans rfl, (blk_cell BK341.out 0).trans rfl, (blk_cell BK341.out 1).trans rfl⟩ (fun hHeld => ?_)
                      clear hK K
                      refine norm_ (a' := ?_) ?_ ?_
                      rotate_left
                      · show Act.put _ (some 90) _ = _
                        simp only [Act.put, List.setIfInBounds_toArray, List.set_cons_zero, List.set_cons_succ, i64_w, i32_w]
                        rfl
                      refine one_ (i := 31) (N := some 95) #[true, true, true, true, true, true, true, true, true, true, true, true, true, true, true, true, true, true, true, true, true, true, true, true, true, true, true, true, true, true, true, true, false, false, false, false, false, false] rfl rfl (one_of HT_.out (by kernel_rfl)) (by decide) (fun K hK => ?_)
                      refine goes_ Tryz.func23 (by kernel_rfl) rfl #[.slice A0 l0.length c0, .int .i64 a1_1, .int .u32 a2] (by rfl) rfl rfl (by (try simp only [List.map_toArray, List.map_cons, List.map_nil]); first | done | rfl | (simp only [List.length_drop, List.length_take]; rfl)) ?_
                      with_reducible refine (waystoneref07_Denies.calls kj4 _ _ l0 a1_1 a2 t389 _ ?side1 ?side2 A25.out).mono ?_
                      (case side1 => repeat (first | exact (Kd.C_below HR0.out HB.out) | (with_reducible refine Kd.C_alloc ?_ _) | (with_reducible refine Kd.C_drewN ?_ _) | (with_reducible refine Kd.C_drew ?_)))
                      (case side2 => exact HC0.out)
                      rintro e w61 ⟨rfl, hb⟩
                      refine ⟨_, rfl, ?_⟩
                      have n0_ := Aside0.mk (Kd.R_below (by (with_reducible repeat (first | apply Kd.R_alloc | apply Kd.R_drewN | apply Kd.R_drew)); exact HO349.out) hb)
                      have n1_ := Aside0.mk (blk_below (g := gb341) (o := .cells #[.int .i64 a1_0, .int .i64 a1_1] 36 (0, 0)) (by (with_reducible repeat (first | refine blk_drewN ?_ _ | refine blk_drew ?_ | refine blk_alloc ?_ _)); exact BK341.out) hb)
                      have n2_ := Aside0.mk (blk_below (g := gb358) (o := .cells #[.int .i64 t350, .int .i64 t351, .int .i64 t352, .int .i64 t353, .int .u32 t354, .int .u32 t355, .int .i64 t356] 27 (0, 0)) (by (with_reducible repeat (first | refine blk_drewN ?_ _ | refine blk_drew ?_ | refine blk_alloc ?_ _)); exact BK358.out) hb)
                      have n3_ := Aside0.mk (blk_below (g := gb367) (o := .cells #[.int .i64 t359, .int .i64 t360, .int .i64 t361, .int .i64 t362, .int .u32 t363, .int .u32 t364, .int .i64 t365] 27 (0, 0)) (by (with_reducible repeat (first | refine blk_drewN ?_ _ | refine blk_drew ?_ | refine blk_alloc ?_ _)); exact BK367.out) hb)
                      have n4_ := Aside0.mk (blk_below (g := gb376) (o := .cells #[.int .i64 t368, .int .i64 t369, .int .i64 t370, .int .i64 t371, .int .u32 t372, .int .u32 t373, .int .i64 t374] 27 (0, 0)) (by (with_reducible repeat (first | refine blk_drewN ?_ _ | refine blk_drew ?_ | refine blk_alloc ?_ _)); exact BK376.out) hb)
                      have n5_ := Aside0.mk (blk_below (g := gb385) (o := .cells #[.int .i64 t377, .int .i64 t378, .int .i64 t379, .int .i64 t380, .int .u32 t381, .int .u32 t382, .int .i64 t383] 27 (0, 0)) (by (with_reducible repeat (first | refine blk_drewN ?_ _ | refine blk_drew ?_ | refine blk_alloc ?_ _)); exact BK385.out) hb)
                      have n6_ := Aside0.mk (below_step (by repeat (first | (with_reducible first | exact HB.out | apply below_alloc | apply pw_below_drewN | apply below_drew1 | refine below_set ?_ GE341.out | refine below_set ?_ GE358.out | refine below_set ?_ GE367.out | refine below_set ?_ GE376.out | refine below_set ?_ GE385.out) | exact HB.out)) hb)
                      clear HO349
                      clear BK341
                      clear BK358
                      clear BK367
                      clear BK376
                      clear BK385
                      clear HB
                      have HO349 := n0_
                      have BK341 := n1_
                      have BK358 := n2_
                      have BK367 := n3_
                      have BK376 := n4_
                      have BK385 := n5_
                      have HB := n6_
                      clear n0_ n1_ n2_ n3_ n4_ n5_ n6_
                      (try clear hb)
                      (try clear hb2)
                      (try clear hk)
                      (try clear hi)
                      refine hK.out _ _ ⟨(blk_cell BK358.out 0).trans rfl, (blk_cell BK358.out 1).trans rfl, (blk_cell BK358.out 2).trans rfl, (blk_cell BK358.out 3).trans rfl, (blk_cell BK358.out 4).trans rfl, (blk_cell BK358.out 5).trans rfl, (blk_cell BK358.out 6).trans rfl, (blk_cell BK367.out 0).trans rfl, (blk_cell BK367.out 1).trans rfl, (blk_cell BK367.out 2).trans rfl, (blk_cell BK367.out 3).trans rfl, (blk_cell BK367.out 4).trans rfl, (blk_cell BK367.out 5).trans rfl, (blk_cell BK367.out 6).trans rfl, (blk_cell BK376.out 0).trans rfl, (blk_cell BK376.out 1).trans rfl, (blk_cell BK376.out 2).trans rfl, (blk_cell BK376.out 3).trans rfl, (blk_cell BK376.out 4).trans rfl, (blk_cell BK376.out 5).trans rfl, (blk_cell BK376.out 6).trans rfl, (blk_cell BK385.out 0).trans rfl, (blk_cell BK385.out 1).trans rfl, (blk_cell BK385.out 2).trans rfl, (blk_cell BK385.out 3).trans rfl, (blk_cell BK385.out 4).trans rfl, (blk_cell BK385.out 5).trans rfl, (blk_cell BK385.out 6).trans rfl, (blk_cell BK341.out 0).trans rfl, (blk_cell BK341.out 1).trans rfl⟩ (fun hHeld => ?_)
                      clear hK K
                      refine norm_ (a' := ?_) ?_ ?_
                      rotate_left
                      · show Act.put _ (some 95) _ = _
                        simp only [Act.put, List.setIfInBounds_toArray, List.set_cons_zero, List.set_cons_succ, i64_w, i32_w]
                        rfl
                      refine pure_ (i := 32) (N := some 96) (v := ?_) (a' := ?_) #[true, true, true, true, true, true, true, true, true, true, true, true, true, true, true, true, true, true, true, true, true, true, true, true, true, true, true, true, true, true, true, true, true, false, false, false, false, false] rfl rfl (any_of HT_.out (by kernel_rfl)) (fun _ _ _ h => h) (Or.inl ⟨by rfl, ?_⟩) ?_ ?_
                      rotate_left
                      · intro w'
                        go_simp
                        with_reducible rfl
                      rotate_left
                      · simp only [Act.put, List.setIfInBounds_toArray, List.set_cons_zero, List.set_cons_succ, i64_w, i32_w]
                        rfl
                      refine pure_ (i := 33) (N := some 97) (v := ?_) (a' := ?_) #[true, true, true, true, true, true, true, true, true, true, true, true, true, true, true, true, true, true, true, true, true, true, true, true, true, true, true, true, true, true, true, true, true, true, false, false, false, false] rfl rfl (any_of HT_.out (by kernel_rfl)) (fun _ _ _ h => h) (Or.inl ⟨by rfl, ?_⟩) ?_ ?_
                      rotate_left
                      · intro w'
                        go_simp
                        with_reducible rfl
                      rotate_left
                      · simp only [Act.put, List.setIfInBounds_toArray, List.set_cons_zero, List.set_cons_succ, i64_w, i32_w]
                        rfl
                      refine pure_ (i := 34) (N := some 98) (v := ?_) (a' := ?_) #[true, true, true, true, true, true, true, true, true, true, true, true, true, true, true, true, true, true, true, true, true, true, true, true, true, true, true, true, true, true, true, true, true, true, true, false, false, false] rfl rfl (any_of HT_.out (by kernel_rfl)) (fun _ _ _ h => h) (Or.inl ⟨by rfl, ?_⟩) ?_ ?_
                      rotate_left
                      · intro w'
                        go_simp
                        with_reducible rfl
                      rotate_left
                      · simp only [Act.put, List.setIfInBounds_toArray, List.set_cons_zero, List.set_cons_succ, i64_w, i32_w]
                        rfl
                      refine pure_ (i := 35) (N := some 99) (v := ?_) (a' := ?_) #[true, true, true, true, true, true, true, true, true, true, true, true, true, true, true, true, true, true, true, true, true, true, true, true, true, true, true, true, true, true, true, true, true, true, true, true, false, false] rfl rfl (any_of HT_.out (by kernel_rfl)) (fun _ _ _ h => h) (Or.inl ⟨by rfl, ?_⟩) ?_ ?_
                      rotate_left
                      · intro w'
                        go_simp
                        with_reducible rfl
                      rotate_left
                      · simp only [Act.put, List.setIfInBounds_toArray, List.set_cons_zero, List.set_cons_succ, i64_w, i32_w]
                        rfl
                      refine pure_ (i := 36) (N := some 100) (v := ?_) (a' := ?_) #[true, true, true, true, true, true, true, true, true, true, true, true, true, true, true, true, true, true, true, true, true, true, true, true, true, true, true, true, true, true, true, true, true, true, true, true, true, false] rfl rfl (any_of HT_.out (by kernel_rfl)) (fun _ _ _ h => h) (Or.inl ⟨by rfl, ?_⟩) ?_ ?_
                      rotate_left
                      · intro w'
                        go_simp
                        with_reducible rfl
                      rotate_left
                      · simp only [Act.put, List.setIfInBounds_toArray, List.set_cons_zero, List.set_cons_succ, i64_w, i32_w]
                        rfl
                      refine pure_ (i := 37) (N := some 6) (v := ?_) (a' := ?_) #[true, true, true, true, true, true, true, true, true, true, true, true, true, true, true, true, true, true, true, true, true, true, true, true, true, true, true, true, true, true, true, true, true, true, true, true, true, true] rfl rfl (any_of HT_.out (by kernel_rfl)) (fun _ _ _ h => h) (Or.inl ⟨by rfl, ?_⟩) ?_ ?_
                      rotate_left
                      · intro w'
                        go_simp
                        with_reducible rfl
                      rotate_left
                      · simp only [Act.put, List.setIfInBounds_toArray, List.set_cons_zero, List.set_cons_succ, i64_w, i32_w]
                        rfl
                      refine done_ (done_of HT_.out (by kernel_rfl)) ?_
                      try go_wp2
                      go_ret
                      exact ⟨by first | rfl | (simp [errW_none, errW_some] <;> rfl) | (simp [*, errW_none, errW_some] <;> rfl), by repeat (first | (with_reducible first | exact HB.out | apply below_alloc | apply pw_below_drewN | apply below_drew1 | refine below_set ?_ GE341.out | refine below_set ?_ GE358.out | refine below_set ?_ GE367.out | refine below_set ?_ GE376.out | refine below_set ?_ GE385.out) | exact HB.out)⟩
                    · rw [if_neg c26] at H
                      have c26b0 : (t388 == t389) = false := by simpa using c26
                      (try (have c26b1 : decide (t388 = t389) = false := by simpa using c26))
                      (try (have c26b2 : (t388 == t389) = false := by simpa using c26))
                      (try (have c26b3 : ¬ (t388 = t389) := by simpa using c26))
                      clear c26
                      exact absurd H (by simp)
                  · rw [if_neg c23] at H
                    have c23b0 : (t375 == t384) = false := by simpa using c23
                    (try (have c23b1 : decide (t375 = t384) = false := by simpa using c23))
                    (try (have c23b2 : (t375 == t384) = false := by simpa using c23))
                    (try (have c23b3 : ¬ (t375 = t384) := by simpa using c23))
                    clear c23
                    exact absurd H (by simp)
                · rw [if_neg c22] at H
                  have c22b0 : (t368 == t377 && (t369 == t378 && (t370 == t379 && (t371 == t380 && ((t372 == t381 && (t373 == t382)) && (t374 == t383)))))) = false := by simpa using c22
                  (try (have c22b1 : decide (t368 = t377 && (t369 == t378 && (t370 == t379 && (t371 == t380 && ((t372 == t381 && (t373 == t382)) && (t374 == t383)))))) = false := by simpa using c22))
                  (try (have c22b2 : (t368 == t377 && (t369 == t378 && (t370 == t379 && (t371 == t380 && ((t372 == t381 && (t373 == t382)) && (t374 == t383)))))) = false := by simpa using c22))
                  (try (have c22b3 : ¬ (t368 = t377 && (t369 == t378 && (t370 == t379 && (t371 == t380 && ((t372 == t381 && (t373 == t382)) && (t374 == t383)))))) := by simpa using c22))
                  clear c22
                  exact absurd H (by simp)
              · rw [if_neg c21] at H
                have c21b0 : (t357 == t366) = false := by simpa using c21
                (try (have c21b1 : decide (t357 = t366) = false := by simpa using c21))
                (try (have c21b2 : (t357 == t366) = false := by simpa using c21))
                (try (have c21b3 : ¬ (t357 = t366) := by simpa using c21))
                clear c21
                exact absurd H (by simp)
            · rw [if_neg c20] at H
              have c20b0 : (t350 == t359 && (t351 == t360 && (t352 == t361 && (t353 == t362 && ((t354 == t363 && (t355 == t364)) && (t356 == t365)))))) = false := by simpa using c20
              (try (have c20b1 : decide (t350 = t359 && (t351 == t360 && (t352 == t361 && (t353 == t362 && ((t354 == t363 && (t355 == t364)) && (t356 == t365)))))) = false := by simpa using c20))
              (try (have c20b2 : (t350 == t359 && (t351 == t360 && (t352 == t361 && (t353 == t362 && ((t354 == t363 && (t355 == t364)) && (t356 == t365)))))) = false := by simpa using c20))
              (try (have c20b3 : ¬ (t350 = t359 && (t351 == t360 && (t352 == t361 && (t353 == t362 && ((t354 == t363 && (t355 == t364)) && (t356 == t365)))))) := by simpa using c20))
              clear c20
              exact absurd H (by simp)
          · replace c19 := Bool.eq_false_iff.mpr c19
            subst c19
            have H1 : (none) = some r := by rw [if_neg (show ¬ (false = true) by decide)] at H; exact H
            clear H
            have H := H1
            clear H1
            exact absurd H (by simp)
        · rw [if_neg c12] at H
          exact absurd H (by simp)

end Go.Proofs.YtfjamikpahmfhaaGreatDoor.P
