/- Printed by a program of the session out of the translation: what each function answers (.f), and that a call of it answers so (.calls). -/
import Derived.Test.YtfjamikpahmfhaaDoorPKinds
import Derived.Test.YtfjamikpahmfhaaDoorPRuleRight
import Derived.Test.YtfjamikpahmfhaaDoorPRuleAll
import Derived.Test.YtfjamikpahmfhaaDoorPWaystonelaw07Alive
import Derived.Test.YtfjamikpahmfhaaDoorPWaystoneref07Right
import Derived.Test.YtfjamikpahmfhaaDoorPWaystoneref07All
import Derived.Test.YtfjamikpahmfhaaDoorPRuleSame
import Derived.Test.YtfjamikpahmfhaaDoorPWaystoneref07Same
namespace Go.Proofs.YtfjamikpahmfhaaDoor.P
open Go.RowKit Go.Proofs.YtfjamikpahmfhaaDoorW.PrintWords Go.Proofs.YtfjamikpahmfhaaDoorW.PrintLast Go.Proofs.YtfjamikpahmfhaaDoorW.PrintMore
attribute [local go_sem] max2_int min2_int max_two min_two max_three min_three max_four min_four   -- for this text's walks alone
set_option linter.unusedVariables false
set_option linter.unusedSimpArgs false

/-! ### waystonelaw07_RuleTells: function 6 -/
mutual
def waystonelaw07_RuleTells.j0 : Nat → List (S45) → List (S45) → Bool → Option (Bool)
  | 0, _, _, _ => none
  | k + 1, x0, x1, x13 => if x13 = true then ((waystonelaw07_alive.f k).bind fun t337 => (some t337)) else (waystonelaw07_RuleTells.l0 k x0 x1 0)
def waystonelaw07_RuleTells.l0 : Nat → List (S45) → List (S45) → Int → Option (Bool)
  | 0, _, _, _ => none
  | k + 1, x0, x1, x5 => if x5 < (x0.length : Int) then (if 0 ≤ x5 then ((rule_Right.f ((rd_T45 x0 x5).f0) ((rd_T45 x0 x5).f1) ((rd_T45 x0 x5).f2) ((rd_T45 x0 x5).f3) ((rd_T45 x0 x5).f4.f0) ((rd_T45 x0 x5).f4.f1) ((rd_T45 x0 x5).f5)).bind fun t339 => ((waystoneref07_Right.f ((rd_T45 x0 x5).f0) ((rd_T45 x0 x5).f1) ((rd_T45 x0 x5).f2) ((rd_T45 x0 x5).f3) ((rd_T45 x0 x5).f4.f0) ((rd_T45 x0 x5).f4.f1) ((rd_T45 x0 x5).f5)).bind fun t341 => (if (t339 != t341) = true then (none) else (waystonelaw07_RuleTells.l0 k x0 x1 (wrap64 (x5 + 1)))))) else (none)) else ((waystonelaw07_alive.f k).bind fun t342 => (if t342 = true then ((rule_All.f k x0).bind fun t343 => ((waystoneref07_All.f k x0).bind fun t344 => (if (t343 == t344) = true then ((rule_Same.f k x0 x1).bind fun t345 => ((waystoneref07_Same.f k x0 x1).bind fun t346 => (some (t345 == t346)))) else (none)))) else (none)))
end
def waystonelaw07_RuleTells.f (k : Nat) (l0 : List (S45)) (l1 : List (S45)) : Option (Bool) := if (l0.length : Int) > 60 then (waystonelaw07_RuleTells.j0 k l0 l1 true) else (waystonelaw07_RuleTells.j0 k l0 l1 (decide ((l1.length : Int) > 60)))
theorem waystonelaw07_RuleTells.mono_l : ∀ k, (∀ y0 y1 y2, LeO (waystonelaw07_RuleTells.j0 k y0 y1 y2) (waystonelaw07_RuleTells.j0 (k + 1) y0 y1 y2)) ∧ (∀ y0 y1 y2, LeO (waystonelaw07_RuleTells.l0 k y0 y1 y2) (waystonelaw07_RuleTells.l0 (k + 1) y0 y1 y2))
  | 0 => ⟨fun _ _ _ r h => by simp [waystonelaw07_RuleTells.j0] at h, fun _ _ _ r h => by simp [waystonelaw07_RuleTells.l0] at h⟩
  | k + 1 => by
    obtain ⟨ih0, ih1⟩ := waystonelaw07_RuleTells.mono_l k
    refine ⟨?_, ?_⟩
    · intro y0 y1 y2
      unfold waystonelaw07_RuleTells.j0
      repeat' first
      | (with_reducible exact ih0 _ _ _)
      | (with_reducible exact ih1 _ _ _)
      | (with_reducible exact rule_All.mono _ _)
      | (with_reducible exact rule_Same.mono _ _ _)
      | (with_reducible exact waystonelaw07_alive.mono _)
      | (with_reducible exact waystoneref07_All.mono _ _)
      | (with_reducible exact waystoneref07_Same.mono _ _ _)
      | (with_reducible exact LeO.refl _)
      | (with_reducible exact LeO.none _)
      | (with_reducible refine LeO.ite ?_ ?_)
      | (with_reducible refine LeO.bind ?_ (fun _ => ?_))
      | exact ih0 _ _ _
      | exact ih1 _ _ _
      | exact rule_All.mono _ _
      | exact rule_Same.mono _ _ _
      | exact waystonelaw07_alive.mono _
      | exact waystoneref07_All.mono _ _
      | exact waystoneref07_Same.mono _ _ _
      | exact LeO.none _
      | refine LeO.ite ?_ ?_
      | refine LeO.bind ?_ (fun _ => ?_)
    · intro y0 y1 y2
      unfold waystonelaw07_RuleTells.l0
      repeat' first
      | (with_reducible exact ih0 _ _ _)
      | (with_reducible exact ih1 _ _ _)
      | (with_reducible exact rule_All.mono _ _)
      | (with_reducible exact rule_Same.mono _ _ _)
      | (with_reducible exact waystonelaw07_alive.mono _)
      | (with_reducible exact waystoneref07_All.mono _ _)
      | (with_reducible exact waystoneref07_Same.mono _ _ _)
      | (with_reducible exact LeO.refl _)
      | (with_reducible exact LeO.none _)
      | (with_reducible refine LeO.ite ?_ ?_)
      | (with_reducible refine LeO.bind ?_ (fun _ => ?_))
      | exact ih0 _ _ _
      | exact ih1 _ _ _
      | exact rule_All.mono _ _
      | exact rule_Same.mono _ _ _
      | exact waystonelaw07_alive.mono _
      | exact waystoneref07_All.mono _ _
      | exact waystoneref07_Same.mono _ _ _
      | exact LeO.none _
      | refine LeO.ite ?_ ?_
      | refine LeO.bind ?_ (fun _ => ?_)
theorem waystonelaw07_RuleTells.mono : ∀ a0 a1 k, LeO (waystonelaw07_RuleTells.f k a0 a1) (waystonelaw07_RuleTells.f (k + 1) a0 a1) := by
  intro a0 a1 k
  obtain ⟨ih0, ih1⟩ := waystonelaw07_RuleTells.mono_l k
  unfold waystonelaw07_RuleTells.f
  repeat' first
      | (with_reducible exact ih0 _ _ _)
      | (with_reducible exact ih1 _ _ _)
      | (with_reducible exact rule_All.mono _ _)
      | (with_reducible exact rule_Same.mono _ _ _)
      | (with_reducible exact waystonelaw07_alive.mono _)
      | (with_reducible exact waystoneref07_All.mono _ _)
      | (with_reducible exact waystoneref07_Same.mono _ _ _)
      | (with_reducible exact LeO.refl _)
      | (with_reducible exact LeO.none _)
      | (with_reducible refine LeO.ite ?_ ?_)
      | (with_reducible refine LeO.bind ?_ (fun _ => ?_))
      | exact ih0 _ _ _
      | exact ih1 _ _ _
      | exact rule_All.mono _ _
      | exact rule_Same.mono _ _ _
      | exact waystonelaw07_alive.mono _
      | exact waystoneref07_All.mono _ _
      | exact waystoneref07_Same.mono _ _ _
      | exact LeO.none _
      | refine LeO.ite ?_ ?_
      | refine LeO.bind ?_ (fun _ => ?_)
def waystonelaw07_RuleTells.T6 : Bool × List (List Nat × List Nat) := (true, [([], []), ([], []), ([0, 1], [0, 1]), ([2], [2]), ([3], [3]), ([], []), ([], []), ([5, 6], [5, 6]), ([7], [7]), ([8, 4], [8]), ([4, 9], [4, 9])])
def waystonelaw07_RuleTells.B6 : List Nat := [0, 0, 3, 7, 15, 0, 0, 96, 224, 511, 1023]
theorem waystonelaw07_RuleTells.tab6 : rtab .any (opsOf Tryd.f6 6) = waystonelaw07_RuleTells.T6 := by kernel_rfl
theorem waystonelaw07_RuleTells.bits6 : waitsOk waystonelaw07_RuleTells.T6.2 waystonelaw07_RuleTells.B6 = true := by kernel_rfl
set_option maxHeartbeats 8000000 in
set_option maxRecDepth 100000 in
theorem waystonelaw07_RuleTells.calls (k : Nat) (A0 : Option Addr) (c0 : Nat) (l0 : List (S45)) (A1 : Option Addr) (c1 : Nat) (l1 : List (S45)) (r : Bool) (w : World) (hr0 : Kd.C k45 w A0 l0.length l0) (hc0 : l0.length ≤ c0) (hr1 : Kd.C k45 w A1 l1.length l1) (hc1 : l1.length ≤ c1) (HLd : Laid w) (h : waystonelaw07_RuleTells.f k l0 l1 = some r) :
    Calls Tryd.prog 6 #[.slice A0 l0.length c0, .slice A1 l1.length c1] w fun e w' => e = .returned (.bool r) ∧ Below w.heap.size w w' := by
  have hu45 := Tryd.underlying45
  have HR0 := Aside0.mk hr0
  have HC0 := Aside0.mk hc0
  clear hr0 hc0
  have HR1 := Aside0.mk hr1
  have HC1 := Aside0.mk hc1
  clear hr1 hc1
  have HB := Aside0.mk (Below.refl w.heap.size w)
  have H : (if (l0.length : Int) > 60 then (waystonelaw07_RuleTells.j0 k l0 l1 true) else (waystonelaw07_RuleTells.j0 k l0 l1 (decide ((l1.length : Int) > 60)))) = some r := h
  clear h
  have HC3 := Aside0.mk H
  clear H
  go_enter Tryd.func6, Tryd.ntmps6
  go_upto_region 1 with (fail)
  go_cut [13] (fun v13 wc => ∃ (kq : Nat) (x13_2 : Bool), v13 = .bool x13_2 ∧ Aside0 (waystonelaw07_RuleTells.j0 kq l0 l1 x13_2 = some r) ∧ Aside0 (kq ≤ k) ∧ Aside0 (Below w.heap.size w wc))
  case first =>
    have H := HC3.out
    clear HC3
    by_cases c4 : (l0.length : Int) > 60
    · rw [if_pos c4] at H
      have c4b0 : decide (60 < (l0.length : Int)) = true := decide_eq_true c4
      have c4b1 : decide (60 < l0.length) = true := decide_eq_true (by omega)
      clear c4
      (first | rw [c4b0] | (simp only [i64_w, i32_w]; rw [c4b0]) | skip)
      have H' := Aside0.mk H
      clear H
      go_wp2
      go_meet
      case rel => exact ⟨_, (true), (by first | rfl | (simp; done) | (simp [*]; done)), H', ⟨by first | omega | exact Nat.le_refl _⟩, ⟨by repeat (first | (with_reducible first | exact HB.out | apply below_alloc | apply pw_below_drewN | apply below_drew1) | exact HB.out)⟩⟩
    · rw [if_neg c4] at H
      have c4b0 : decide (60 < (l0.length : Int)) = false := decide_eq_false c4
      have c4b1 : decide (60 < l0.length) = false := decide_eq_false (by omega)
      clear c4
      (first | rw [c4b0] | (simp only [i64_w, i32_w]; rw [c4b0]) | skip)
      have H' := Aside0.mk H
      clear H
      go_wp2
      go_meet
      case rel => exact ⟨_, (decide ((l1.length : Int) > 60)), (by first | rfl | (simp; done) | (simp [*]; done)), H', ⟨by first | omega | exact Nat.le_refl _⟩, ⟨by repeat (first | (with_reducible first | exact HB.out | apply below_alloc | apply pw_below_drewN | apply below_drew1) | exact HB.out)⟩⟩
  case rest =>
    clear HC3
    try clear c1
    try clear p2
    try clear c4
    try clear c4b0
    try clear c4b1
    obtain ⟨kq, x13_2, rfl, HA, HJ2, HB⟩ := hcut
    cases kq with
    | zero => exact absurd HA.out (by simp [waystonelaw07_RuleTells.j0])
    | succ kj2 =>
      have H := HA.out
      clear HA
      simp only [waystonelaw07_RuleTells.j0] at H
      by_cases c5 : x13_2 = true
      · subst c5
        have H1 : ((waystonelaw07_alive.f kj2).bind fun t337 => (some t337)) = some r := by rw [if_pos rfl] at H; exact H
        clear H
        have H := H1
        clear H1
        replace H := Option.bind_eq_some_iff.mp H
        obtain ⟨t337, A60, H⟩ := H
        replace H : (some t337) = some r := H
        have A6 := Aside0.mk A60
        clear A60
        obtain rfl := Option.some.inj H
        go_wp2_with (first | ((with_reducible refine gate_callee (f := 19) rfl ?_); refine goesL_ (some 14) rfl rfl Tryd.func19 (by kernel_rfl) rfl #[] rfl (by (try simp only [List.map_toArray, List.map_cons, List.map_nil]); first | done | rfl | (simp only [List.length_drop, List.length_take]; rfl)) ?_; (with_reducible refine (waystonelaw07_alive.calls kj2  t337 _ ?side1 A6.out).mono ?_); (case side1 => exact HLd.below (by repeat (first | (with_reducible first | exact HB.out | apply below_alloc | apply pw_below_drewN | apply below_drew1) | exact HB.out))); rintro e w7 ⟨rfl, hb⟩; refine ⟨_, rfl, ?_⟩; have n0_ := Aside0.mk (below_step (by repeat (first | (with_reducible first | exact HB.out | apply below_alloc | apply pw_below_drewN | apply below_drew1) | exact HB.out)) hb); clear HB; have HB := n0_; clear n0_; (try clear hb); (try clear hb2); (try clear hk); (try clear hi)))
        go_ret
        exact ⟨by first | rfl | (simp [errW_none, errW_some] <;> rfl) | (simp [*, errW_none, errW_some] <;> rfl), by repeat (first | (with_reducible first | exact HB.out | apply below_alloc | apply pw_below_drewN | apply below_drew1) | exact HB.out)⟩
      · replace c5 := Bool.eq_false_iff.mpr c5
        subst c5
        have H1 : (waystonelaw07_RuleTells.l0 kj2 l0 l1 0) = some r := by rw [if_neg (show ¬ (false = true) by decide)] at H; exact H
        clear H
        have H := H1
        clear H1
        have H' := Aside0.mk H
        clear H
        go_wp2
        go_loopg [5] kj2 (fun kq v5 w' => ∃ (x5_2 : Int), v5 = .int .i64 x5_2 ∧ Aside0 (waystonelaw07_RuleTells.l0 kq l0 l1 x5_2 = some r) ∧ Aside0 (kq ≤ kj2) ∧ Aside0 (Below w.heap.size w w'))
        case atStart => exact ⟨(0), (by first | rfl | (simp; done) | (simp [*]; done)), H', ⟨Nat.le_refl _⟩, ⟨by repeat (first | (with_reducible first | exact HB.out | apply below_alloc | apply pw_below_drewN | apply below_drew1) | exact HB.out)⟩⟩
        case round =>
          clear H'
          try clear c1
          try clear p2
          try clear c4
          try clear c4b0
          try clear c4b1
          try clear c5
          try clear c6
          try clear p2
          obtain ⟨x5_2, rfl, HA, HK2, HB⟩ := hrel
          cases gk with
          | zero => exact absurd HA.out (by simp [waystonelaw07_RuleTells.l0])
          | succ k2 =>
            have H := HA.out
            clear HA
            simp only [waystonelaw07_RuleTells.l0] at H
            by_cases c8 : x5_2 < (l0.length : Int)
            · rw [if_pos c8] at H
              have c8b0 : decide (x5_2 < (l0.length : Int)) = true := decide_eq_true c8
              clear c8
              by_cases c9 : 0 ≤ x5_2
              · rw [if_pos c9] at H
                have c9b0 : decide (0 ≤ x5_2) = true := decide_eq_true c9
                clear c9
                replace H := Option.bind_eq_some_iff.mp H
                obtain ⟨t339, A100, H⟩ := H
                replace H : ((waystoneref07_Right.f ((rd_T45 l0 x5_2).f0) ((rd_T45 l0 x5_2).f1) ((rd_T45 l0 x5_2).f2) ((rd_T45 l0 x5_2).f3) ((rd_T45 l0 x5_2).f4.f0) ((rd_T45 l0 x5_2).f4.f1) ((rd_T45 l0 x5_2).f5)).bind fun t341 => (if (t339 != t341) = true then (none) else (waystonelaw07_RuleTells.l0 k2 l0 l1 (wrap64 (x5_2 + 1))))) = some r := H
                have A10 := Aside0.mk A100
                clear A100
                replace H := Option.bind_eq_some_iff.mp H
                obtain ⟨t341, A110, H⟩ := H
                replace H : (if (t339 != t341) = true then (none) else (waystonelaw07_RuleTells.l0 k2 l0 l1 (wrap64 (x5_2 + 1)))) = some r := H
                have A11 := Aside0.mk A110
                clear A110
                by_cases c12 : (t339 != t341) = true
                · rw [if_pos c12] at H
                  exact absurd H (by simp)
                · rw [if_neg c12] at H
                  have c12b0 : (t339 != t341) = false := by simpa using c12
                  (try (have c12b1 : decide (t339 = t341) = true := by simpa using c12))
                  (try (have c12b2 : (t339 == t341) = true := by simpa using c12))
                  clear c12
                  have H' := Aside0.mk H
                  clear H
                  try go_wp2
                  have n0_ := Aside0.mk (below_drew1 HB.out)
                  clear HB
                  have HB := n0_
                  clear n0_
                  have p338 : 0 ≤ (x5_2 : Int) := of_decide_eq_true (by first | (with_reducible assumption) | assumption)
                  have q338 : x5_2 < (l0.length : Int) := of_decide_eq_true (by first | (with_reducible assumption) | assumption)
                  obtain ⟨ad338, e338, hx338_0, hx338_1, hx338_2, hx338_3, hx338_4, hx338_5, hx338_6⟩ := at_T45 HR0.out x5_2 p338 q338
                  have hw338_6 := hx338_6
                  have hw338_5 := hx338_5
                  have hw338_4 := hx338_4
                  have hw338_3 := hx338_3
                  have hw338_2 := hx338_2
                  have hw338_1 := hx338_1
                  have hw338_0 := hx338_0
                  cases e338
                  replace hx338_0 := (HB.out.cell (World.block_lt_of_cell? w _ hx338_0)).trans hx338_0
                  replace hx338_1 := (HB.out.cell (World.block_lt_of_cell? w _ hx338_1)).trans hx338_1
                  replace hx338_2 := (HB.out.cell (World.block_lt_of_cell? w _ hx338_2)).trans hx338_2
                  replace hx338_3 := (HB.out.cell (World.block_lt_of_cell? w _ hx338_3)).trans hx338_3
                  replace hx338_4 := (HB.out.cell (World.block_lt_of_cell? w _ hx338_4)).trans hx338_4
                  replace hx338_5 := (HB.out.cell (World.block_lt_of_cell? w _ hx338_5)).trans hx338_5
                  replace hx338_6 := (HB.out.cell (World.block_lt_of_cell? w _ hx338_6)).trans hx338_6
                  replace p338 := eq_true p338
                  replace q338 := eq_true q338
                  have p340 : 0 ≤ (x5_2 : Int) := of_decide_eq_true (by first | (with_reducible assumption) | assumption)
                  have q340 : x5_2 < (l0.length : Int) := of_decide_eq_true (by first | (with_reducible assumption) | assumption)
                  obtain ⟨ad340, e340, hx340_0, hx340_1, hx340_2, hx340_3, hx340_4, hx340_5, hx340_6⟩ := at_T45 HR0.out x5_2 p340 q340
                  have hw340_6 := hx340_6
                  have hw340_5 := hx340_5
                  have hw340_4 := hx340_4
                  have hw340_3 := hx340_3
                  have hw340_2 := hx340_2
                  have hw340_1 := hx340_1
                  have hw340_0 := hx340_0
                  obtain rfl : ad338 = ad340 := (by injection e340)
                  replace hx340_0 := (HB.out.cell (World.block_lt_of_cell? w _ hx340_0)).trans hx340_0
                  replace hx340_1 := (HB.out.cell (World.block_lt_of_cell? w _ hx340_1)).trans hx340_1
                  replace hx340_2 := (HB.out.cell (World.block_lt_of_cell? w _ hx340_2)).trans hx340_2
                  replace hx340_3 := (HB.out.cell (World.block_lt_of_cell? w _ hx340_3)).trans hx340_3
                  replace hx340_4 := (HB.out.cell (World.block_lt_of_cell? w _ hx340_4)).trans hx340_4
                  replace hx340_5 := (HB.out.cell (World.block_lt_of_cell? w _ hx340_5)).trans hx340_5
                  replace hx340_6 := (HB.out.cell (World.block_lt_of_cell? w _ hx340_6)).trans hx340_6
                  replace p340 := eq_true p340
                  replace q340 := eq_true q340
                  refine start_ (n := 11) (S := fun w' => w'.cell? (ad338.add ((x5_2).toNat * 7)) = some (.int .i64 ((rd_T45 l0 x5_2).f0)) ∧ w'.cell? ⟨(ad338.add ((x5_2).toNat * 7)).block, (ad338.add ((x5_2).toNat * 7)).off + 1, none⟩ = some (.int .i64 ((rd_T45 l0 x5_2).f1)) ∧ w'.cell? ⟨(ad338.add ((x5_2).toNat * 7)).block, (ad338.add ((x5_2).toNat * 7)).off + 2, none⟩ = some (.int .i64 ((rd_T45 l0 x5_2).f2)) ∧ w'.cell? ⟨(ad338.add ((x5_2).toNat * 7)).block, (ad338.add ((x5_2).toNat * 7)).off + 3, none⟩ = some (.int .i64 ((rd_T45 l0 x5_2).f3)) ∧ w'.cell? ⟨(ad338.add ((x5_2).toNat * 7)).block, (ad338.add ((x5_2).toNat * 7)).off + 4, none⟩ = some (.int .u32 ((rd_T45 l0 x5_2).f4.f0)) ∧ w'.cell? ⟨(ad338.add ((x5_2).toNat * 7)).block, (ad338.add ((x5_2).toNat * 7)).off + 5, none⟩ = some (.int .u32 ((rd_T45 l0 x5_2).f4.f1)) ∧ w'.cell? ⟨(ad338.add ((x5_2).toNat * 7)).block, (ad338.add ((x5_2).toNat * 7)).off + 6, none⟩ = some (.int .i64 ((rd_T45 l0 x5_2).f5)) ∧ w'.cell? (ad338.add ((x5_2).toNat * 7)) = some (.int .i64 ((rd_T45 l0 x5_2).f0)) ∧ w'.cell? ⟨(ad338.add ((x5_2).toNat * 7)).block, (ad338.add ((x5_2).toNat * 7)).off + 1, none⟩ = some (.int .i64 ((rd_T45 l0 x5_2).f1)) ∧ w'.cell? ⟨(ad338.add ((x5_2).toNat * 7)).block, (ad338.add ((x5_2).toNat * 7)).off + 2, none⟩ = some (.int .i64 ((rd_T45 l0 x5_2).f2)) ∧ w'.cell? ⟨(ad338.add ((x5_2).toNat * 7)).block, (ad338.add ((x5_2).toNat * 7)).off + 3, none⟩ = some (.int .i64 ((rd_T45 l0 x5_2).f3)) ∧ w'.cell? ⟨(ad338.add ((x5_2).toNat * 7)).block, (ad338.add ((x5_2).toNat * 7)).off + 4, none⟩ = some (.int .u32 ((rd_T45 l0 x5_2).f4.f0)) ∧ w'.cell? ⟨(ad338.add ((x5_2).toNat * 7)).block, (ad338.add ((x5_2).toNat * 7)).off + 5, none⟩ = some (.int .u32 ((rd_T45 l0 x5_2).f4.f1)) ∧ w'.cell? ⟨(ad338.add ((x5_2).toNat * 7)).block, (ad338.add ((x5_2).toNat * 7)).off + 6, none⟩ = some (.int .i64 ((rd_T45 l0 x5_2).f5))) (ds := []) #[false, false, false, false, false, false, false, false, false, false, false] (by kernel_rfl) rfl rfl ⟨((HB.out.cell (World.block_lt_of_cell? w _ hw338_0)).trans hw338_0), ((HB.out.cell (World.block_lt_of_cell? w _ hw338_1)).trans hw338_1), ((HB.out.cell (World.block_lt_of_cell? w _ hw338_2)).trans hw338_2), ((HB.out.cell (World.block_lt_of_cell? w _ hw338_3)).trans hw338_3), ((HB.out.cell (World.block_lt_of_cell? w _ hw338_4)).trans hw338_4), ((HB.out.cell (World.block_lt_of_cell? w _ hw338_5)).trans hw338_5), ((HB.out.cell (World.block_lt_of_cell? w _ hw338_6)).trans hw338_6), ((HB.out.cell (World.block_lt_of_cell? w _ hw340_0)).trans hw340_0), ((HB.out.cell (World.block_lt_of_cell? w _ hw340_1)).trans hw340_1), ((HB.out.cell (World.block_lt_of_cell? w _ hw340_2)).trans hw340_2), ((HB.out.cell (World.block_lt_of_cell? w _ hw340_3)).trans hw340_3), ((HB.out.cell (World.block_lt_of_cell? w _ hw340_4)).trans hw340_4), ((HB.out.cell (World.block_lt_of_cell? w _ hw340_5)).trans hw340_5), ((HB.out.cell (World.block_lt_of_cell? w _ hw340_6)).trans hw340_6)⟩ (fun hHeld => ?_); refine with_tabW waystonelaw07_RuleTells.tab6 waystonelaw07_RuleTells.bits6 (fun HT_ HW_ => ?_)
                  generalize wr.drew = w13 at HB hx338_0 hx338_1 hx338_2 hx338_3 hx338_4 hx338_5 hx338_6 hx340_0 hx340_1 hx340_2 hx340_3 hx340_4 hx340_5 hx340_6 hHeld ⊢
                  refine pure_ (i := 0) (N := some 21) (v := ?_) (a' := ?_) #[true, false, false, false, false, false, false, false, false, false, false] rfl rfl (any_of HT_.out (by kernel_rfl)) (fun _ _ _ h => h) (Or.inl ⟨by rfl, ?_⟩) ?_ ?_
                  rotate_left
                  · intro w'
                    go_simp
                    with_reducible rfl
                  rotate_left
                  · simp only [Act.put, List.setIfInBounds_toArray, List.set_cons_zero, List.set_cons_succ, i64_w, i32_w]
                    rfl
                  refine pure_ (i := 1) (N := some 22) (v := ?_) (a' := ?_) #[true, true, false, false, false, false, false, false, false, false, false] rfl rfl (any_of HT_.out (by kernel_rfl)) (fun _ _ _ h => h) (Or.inl ⟨by rfl, ?_⟩) ?_ ?_
                  rotate_left
                  · intro w'
                    go_simp
                    with_reducible rfl
                  rotate_left
                  · simp only [Act.put, List.setIfInBounds_toArray, List.set_cons_zero, List.set_cons_succ, i64_w, i32_w]
                    rfl
                  refine pure_ (i := 2) (N := some 23) (v := ?_) (a' := ?_) #[true, true, true, false, false, false, false, false, false, false, false] rfl rfl (any_of HT_.out (by kernel_rfl)) (fun _ _ _ h => h) (Or.inl ⟨by rfl, ?_⟩) ?_ ?_
                  rotate_left
                  · intro w'
                    go_simp
                    with_reducible rfl
                  rotate_left
                  · simp only [Act.put, List.setIfInBounds_toArray, List.set_cons_zero, List.set_cons_succ, i64_w, i32_w]
                    rfl
                  refine pure_ (i := 5) (N := some 26) (v := ?_) (a' := ?_) #[true, true, true, false, false, true, false, false, false, false, false] rfl rfl (any_of HT_.out (by kernel_rfl)) (fun _ _ _ h => h) (Or.inl ⟨by rfl, ?_⟩) ?_ ?_
                  rotate_left
                  · intro w'
                    go_simp
                    with_reducible rfl
                  rotate_left
                  · simp only [Act.put, List.setIfInBounds_toArray, List.set_cons_zero, List.set_cons_succ, i64_w, i32_w]
                    rfl
                  refine pure_ (i := 6) (N := some 27) (v := ?_) (a' := ?_) #[true, true, true, false, false, true, true, false, false, false, false] rfl rfl (any_of HT_.out (by kernel_rfl)) (fun _ _ _ h => h) (Or.inl ⟨by rfl, ?_⟩) ?_ ?_
                  rotate_left
                  · intro w'
                    go_simp
                    with_reducible rfl
                  rotate_left
                  · simp only [Act.put, List.setIfInBounds_toArray, List.set_cons_zero, List.set_cons_succ, i64_w, i32_w]
                    rfl
                  refine pure_ (i := 7) (N := some 28) (v := ?_) (a' := ?_) #[true, true, true, false, false, true, true, true, false, false, false] rfl rfl (any_of HT_.out (by kernel_rfl)) (fun _ _ _ h => h) (Or.inl ⟨by rfl, ?_⟩) ?_ ?_
                  rotate_left
                  · intro w'
                    go_simp
                    with_reducible rfl
                  rotate_left
                  · simp only [Act.put, List.setIfInBounds_toArray, List.set_cons_zero, List.set_cons_succ, i64_w, i32_w]
                    rfl
                  refine take_ (i := 3) (N := some 24) (v := ?_) (a' := ?_) #[true, true, true, true, false, true, true, true, false, false, false] rfl rfl (take_ofW HT_.out HW_.out (by kernel_rfl)) (fun _ _ _ h => h) (Or.inl ⟨by rfl, ?_⟩) hHeld ?_ ?_
                  rotate_left
                  · rintro w' ⟨s0, s1, s2, s3, s4, s5, s6, s7, s8, s9, s10, s11, s12, s13⟩
                    go_simp
                    with_reducible rfl
                  rotate_left
                  · simp only [Act.put, List.setIfInBounds_toArray, List.set_cons_zero, List.set_cons_succ, i64_w, i32_w]
                    rfl
                  refine take_ (i := 8) (N := some 29) (v := ?_) (a' := ?_) #[true, true, true, true, false, true, true, true, true, false, false] rfl rfl (take_ofW HT_.out HW_.out (by kernel_rfl)) (fun _ _ _ h => h) (Or.inl ⟨by rfl, ?_⟩) hHeld ?_ ?_
                  rotate_left
                  · rintro w' ⟨s0, s1, s2, s3, s4, s5, s6, s7, s8, s9, s10, s11, s12, s13⟩
                    go_simp
                    with_reducible rfl
                  rotate_left
                  · simp only [Act.put, List.setIfInBounds_toArray, List.set_cons_zero, List.set_cons_succ, i64_w, i32_w]
                    rfl
                  refine one_ (i := 4) (N := some 25) #[true, true, true, true, true, true, true, true, true, false, false] rfl rfl (one_of HT_.out (by kernel_rfl)) (by decide) (fun K hK => ?_)
                  refine goes_ Tryd.func18 (by kernel_rfl) rfl #[.agg #[.int .i64 ((rd_T45 l0 x5_2).f0), .int .i64 ((rd_T45 l0 x5_2).f1), .int .i64 ((rd_T45 l0 x5_2).f2), .int .i64 ((rd_T45 l0 x5_2).f3), .int .u32 ((rd_T45 l0 x5_2).f4.f0), .int .u32 ((rd_T45 l0 x5_2).f4.f1), .int .i64 ((rd_T45 l0 x5_2).f5)]] (by rfl) rfl rfl (by (try simp only [List.map_toArray, List.map_cons, List.map_nil]); first | done | rfl | (simp only [List.length_drop, List.length_take]; rfl)) ?_
                  with_reducible refine (rule_Right.calls ((rd_T45 l0 x5_2).f0) ((rd_T45 l0 x5_2).f1) ((rd_T45 l0 x5_2).f2) ((rd_T45 l0 x5_2).f3) ((rd_T45 l0 x5_2).f4.f0) ((rd_T45 l0 x5_2).f4.f1) ((rd_T45 l0 x5_2).f5) t339 _ A10.out).mono ?_
                  rintro e w14 ⟨rfl, hb⟩
                  refine ⟨_, rfl, ?_⟩
                  have n0_ := Aside0.mk (below_step (by repeat (first | (with_reducible first | exact HB.out | apply below_alloc | apply pw_below_drewN | apply below_drew1) | exact HB.out)) hb)
                  clear HB
                  have HB := n0_
                  clear n0_
                  (try clear hb)
                  (try clear hb2)
                  (try clear hk)
                  (try clear hi)
                  refine hK.out _ _ ⟨((HB.out.cell (World.block_lt_of_cell? w _ hw338_0)).trans hw338_0), ((HB.out.cell (World.block_lt_of_cell? w _ hw338_1)).trans hw338_1), ((HB.out.cell (World.block_lt_of_cell? w _ hw338_2)).trans hw338_2), ((HB.out.cell (World.block_lt_of_cell? w _ hw338_3)).trans hw338_3), ((HB.out.cell (World.block_lt_of_cell? w _ hw338_4)).trans hw338_4), ((HB.out.cell (World.block_lt_of_cell? w _ hw338_5)).trans hw338_5), ((HB.out.cell (World.block_lt_of_cell? w _ hw338_6)).trans hw338_6), ((HB.out.cell (World.block_lt_of_cell? w _ hw340_0)).trans hw340_0), ((HB.out.cell (World.block_lt_of_cell? w _ hw340_1)).trans hw340_1), ((HB.out.cell (World.block_lt_of_cell? w _ hw340_2)).trans hw340_2), ((HB.out.cell (World.block_lt_of_cell? w _ hw340_3)).trans hw340_3), ((HB.out.cell (World.block_lt_of_cell? w _ hw340_4)).trans hw340_4), ((HB.out.cell (World.block_lt_of_cell? w _ hw340_5)).trans hw340_5), ((HB.out.cell (World.block_lt_of_cell? w _ hw340_6)).trans hw340_6)⟩ (fun hHeld => ?_)
                  clear hK K
                  refine norm_ (a' := ?_) ?_ ?_
                  rotate_left
                  · show Act.put _ (some 25) _ = _
                    simp only [Act.put, List.setIfInBounds_toArray, List.set_cons_zero, List.set_cons_succ, i64_w, i32_w]
                    rfl
                  refine one_ (i := 9) (N := some 30) #[true, true, true, true, true, true, true, true, true, true, false] rfl rfl (one_of HT_.out (by kernel_rfl)) (by decide) (fun K hK => ?_)
                  refine goes_ Tryd.func25 (by kernel_rfl) rfl #[.agg #[.int .i64 ((rd_T45 l0 x5_2).f0), .int .i64 ((rd_T45 l0 x5_2).f1), .int .i64 ((rd_T45 l0 x5_2).f2), .int .i64 ((rd_T45 l0 x5_2).f3), .int .u32 ((rd_T45 l0 x5_2).f4.f0), .int .u32 ((rd_T45 l0 x5_2).f4.f1), .int .i64 ((rd_T45 l0 x5_2).f5)]] (by rfl) rfl rfl (by (try simp only [List.map_toArray, List.map_cons, List.map_nil]); first | done | rfl | (simp only [List.length_drop, List.length_take]; rfl)) ?_
                  with_reducible refine (waystoneref07_Right.calls ((rd_T45 l0 x5_2).f0) ((rd_T45 l0 x5_2).f1) ((rd_T45 l0 x5_2).f2) ((rd_T45 l0 x5_2).f3) ((rd_T45 l0 x5_2).f4.f0) ((rd_T45 l0 x5_2).f4.f1) ((rd_T45 l0 x5_2).f5) t341 _ A11.out).mono ?_
                  rintro e w15 ⟨rfl, hb⟩
                  refine ⟨_, rfl, ?_⟩
                  have n0_ := Aside0.mk (below_step (by repeat (first | (with_reducible first | exact HB.out | apply below_alloc | apply pw_below_drewN | apply below_drew1) | exact HB.out)) hb)
                  clear HB
                  have HB := n0_
                  clear n0_
                  (try clear hb)
                  (try clear hb2)
                  (try clear hk)
                  (try clear hi)
                  refine hK.out _ _ ⟨((HB.out.cell (World.block_lt_of_cell? w _ hw338_0)).trans hw338_0), ((HB.out.cell (World.block_lt_of_cell? w _ hw338_1)).trans hw338_1), ((HB.out.cell (World.block_lt_of_cell? w _ hw338_2)).trans hw338_2), ((HB.out.cell (World.block_lt_of_cell? w _ hw338_3)).trans hw338_3), ((HB.out.cell (World.block_lt_of_cell? w _ hw338_4)).trans hw338_4), ((HB.out.cell (World.block_lt_of_cell? w _ hw338_5)).trans hw338_5), ((HB.out.cell (World.block_lt_of_cell? w _ hw338_6)).trans hw338_6), ((HB.out.cell (World.block_lt_of_cell? w _ hw340_0)).trans hw340_0), ((HB.out.cell (World.block_lt_of_cell? w _ hw340_1)).trans hw340_1), ((HB.out.cell (World.block_lt_of_cell? w _ hw340_2)).trans hw340_2), ((HB.out.cell (World.block_lt_of_cell? w _ hw340_3)).trans hw340_3), ((HB.out.cell (World.block_lt_of_cell? w _ hw340_4)).trans hw340_4), ((HB.out.cell (World.block_lt_of_cell? w _ hw340_5)).trans hw340_5), ((HB.out.cell (World.block_lt_of_cell? w _ hw340_6)).trans hw340_6)⟩ (fun hHeld => ?_)
                  clear hK K
                  refine norm_ (a' := ?_) ?_ ?_
                  rotate_left
                  · show Act.put _ (some 30) _ = _
                    simp only [Act.put, List.setIfInBounds_toArray, List.set_cons_zero, List.set_cons_succ, i64_w, i32_w]
                    rfl
                  refine pure_ (i := 10) (N := some 31) (v := ?_) (a' := ?_) #[true, true, true, true, true, true, true, true, true, true, true] rfl rfl (any_of HT_.out (by kernel_rfl)) (fun _ _ _ h => h) (Or.inl ⟨by rfl, ?_⟩) ?_ ?_
                  rotate_left
                  · intro w'
                    go_simp
                    with_reducible rfl
                  rotate_left
                  · simp only [Act.put, List.setIfInBounds_toArray, List.set_cons_zero, List.set_cons_succ, i64_w, i32_w]
                    rfl
                  refine done_ (done_of HT_.out (by kernel_rfl)) ?_
                  try go_wp2
                  go_roundg k2
                  case measure => have := HJ2.out; have := HK2.out; omega
                  case rel => exact ⟨(wrap64 (x5_2 + 1)), (by first | rfl | (simp; done) | (simp [*]; done)), H', ⟨by have := HJ2.out; have := HK2.out; omega⟩, ⟨by repeat (first | (with_reducible first | exact HB.out | apply below_alloc | apply pw_below_drewN | apply below_drew1) | exact HB.out)⟩⟩
              · rw [if_neg c9] at H
                exact absurd H (by simp)
            · rw [if_neg c8] at H
              have c8b0 : decide (x5_2 < (l0.length : Int)) = false := decide_eq_false c8
              clear c8
              replace H := Option.bind_eq_some_iff.mp H
              obtain ⟨t342, A160, H⟩ := H
              replace H : (if t342 = true then ((rule_All.f k2 l0).bind fun t343 => ((waystoneref07_All.f k2 l0).bind fun t344 => (if (t343 == t344) = true then ((rule_Same.f k2 l0 l1).bind fun t345 => ((waystoneref07_Same.f k2 l0 l1).bind fun t346 => (some (t345 == t346)))) else (none)))) else (none)) = some r := H
              have A16 := Aside0.mk A160
              clear A160
              by_cases c17 : t342 = true
              · subst c17
                have H1 : ((rule_All.f k2 l0).bind fun t343 => ((waystoneref07_All.f k2 l0).bind fun t344 => (if (t343 == t344) = true then ((rule_Same.f k2 l0 l1).bind fun t345 => ((waystoneref07_Same.f k2 l0 l1).bind fun t346 => (some (t345 == t346)))) else (none)))) = some r := by rw [if_pos rfl] at H; exact H
                clear H
                have H := H1
                clear H1
                replace H := Option.bind_eq_some_iff.mp H
                obtain ⟨t343, A180, H⟩ := H
                replace H : ((waystoneref07_All.f k2 l0).bind fun t344 => (if (t343 == t344) = true then ((rule_Same.f k2 l0 l1).bind fun t345 => ((waystoneref07_Same.f k2 l0 l1).bind fun t346 => (some (t345 == t346)))) else (none))) = some r := H
                have A18 := Aside0.mk A180
                clear A180
                replace H := Option.bind_eq_some_iff.mp H
                obtain ⟨t344, A190, H⟩ := H
                replace H : (if (t343 == t344) = true then ((rule_Same.f k2 l0 l1).bind fun t345 => ((waystoneref07_Same.f k2 l0 l1).bind fun t346 => (some (t345 == t346)))) else (none)) = some r := H
                have A19 := Aside0.mk A190
                clear A190
                by_cases c20 : (t343 == t344) = true
                · rw [if_pos c20] at H
                  have c20b0 : (t343 == t344) = true := c20
                  (try (have c20b1 : decide (t343 = t344) = true := by simpa using c20))
                  (try (have c20b2 : (t343 == t344) = true := by simpa using c20))
                  clear c20
                  replace H := Option.bind_eq_some_iff.mp H
                  obtain ⟨t345, A210, H⟩ := H
                  replace H : ((waystoneref07_Same.f k2 l0 l1).bind fun t346 => (some (t345 == t346))) = some r := H
                  have A21 := Aside0.mk A210
                  clear A210
                  replace H := Option.bind_eq_some_iff.mp H
                  obtain ⟨t346, A220, H⟩ := H
                  replace H : (some (t345 == t346)) = some r := H
                  have A22 := Aside0.mk A220
                  clear A220
                  obtain rfl := Option.some.inj H
                  go_wp2_with (first | ((with_reducible refine gate_callee (f := 19) rfl ?_); refine goesL_ (some 32) rfl rfl Tryd.func19 (by kernel_rfl) rfl #[] rfl (by (try simp only [List.map_toArray, List.map_cons, List.map_nil]); first | done | rfl | (simp only [List.length_drop, List.length_take]; rfl)) ?_; (with_reducible refine (waystonelaw07_alive.calls k2  true _ ?side1 A16.out).mono ?_); (case side1 => exact HLd.below (by repeat (first | (with_reducible first | exact HB.out | apply below_alloc | apply pw_below_drewN | apply below_drew1) | exact HB.out))); rintro e w23 ⟨rfl, hb⟩; refine ⟨_, rfl, ?_⟩; have n0_ := Aside0.mk (below_step (by repeat (first | (with_reducible first | exact HB.out | apply below_alloc | apply pw_below_drewN | apply below_drew1) | exact HB.out)) hb); clear HB; have HB := n0_; clear n0_; (try clear hb); (try clear hb2); (try clear hk); (try clear hi)) | (go_at_call 22; (with_reducible refine (rule_All.calls k2 _ _ l0 t343 _ ?side1 ?side2 A18.out).mono ?_); (case side1 => repeat (first | exact (Kd.C_below HR0.out HB.out) | (with_reducible refine Kd.C_alloc ?_ _) | (with_reducible refine Kd.C_drewN ?_ _) | (with_reducible refine Kd.C_drew ?_))); (case side2 => exact HC0.out); rintro e w24 ⟨rfl, hb⟩; have n0_ := Aside0.mk (below_step (by repeat (first | (with_reducible first | exact HB.out | apply below_alloc | apply pw_below_drewN | apply below_drew1) | exact HB.out)) hb); clear HB; have HB := n0_; clear n0_; (try clear hb); (try clear hb2); (try clear hk); (try clear hi)) | (go_at_call 26; (with_reducible refine (waystoneref07_All.calls k2 _ _ l0 t344 _ ?side1 ?side2 A19.out).mono ?_); (case side1 => repeat (first | exact (Kd.C_below HR0.out HB.out) | (with_reducible refine Kd.C_alloc ?_ _) | (with_reducible refine Kd.C_drewN ?_ _) | (with_reducible refine Kd.C_drew ?_))); (case side2 => exact HC0.out); rintro e w25 ⟨rfl, hb⟩; have n0_ := Aside0.mk (below_step (by repeat (first | (with_reducible first | exact HB.out | apply below_alloc | apply pw_below_drewN | apply below_drew1) | exact HB.out)) hb); clear HB; have HB := n0_; clear n0_; (try clear hb); (try clear hb2); (try clear hk); (try clear hi)) | (go_at_call 27; (with_reducible refine (rule_Same.calls k2 _ _ l0 _ _ l1 t345 _ ?side1 ?side2 ?side3 ?side4 A21.out).mono ?_); (case side1 => repeat (first | exact (Kd.C_below HR0.out HB.out) | (with_reducible refine Kd.C_alloc ?_ _) | (with_reducible refine Kd.C_drewN ?_ _) | (with_reducible refine Kd.C_drew ?_))); (case side2 => exact HC0.out); (case side3 => repeat (first | exact (Kd.C_below HR1.out HB.out) | (with_reducible refine Kd.C_alloc ?_ _) | (with_reducible refine Kd.C_drewN ?_ _) | (with_reducible refine Kd.C_drew ?_))); (case side4 => exact HC1.out); rintro e w' ⟨rfl, ⟨nd, rfl⟩⟩) | (go_at_call 28; (with_reducible refine (waystoneref07_Same.calls k2 _ _ l0 _ _ l1 t346 _ ?side1 ?side2 ?side3 ?side4 A22.out).mono ?_); (case side1 => repeat (first | exact (Kd.C_below HR0.out (by repeat (first | (with_reducible first | exact HB.out | apply below_alloc | apply pw_below_drewN | apply below_drew1) | exact HB.out))) | (with_reducible refine Kd.C_alloc ?_ _) | (with_reducible refine Kd.C_drewN ?_ _) | (with_reducible refine Kd.C_drew ?_))); (case side2 => exact HC0.out); (case side3 => repeat (first | exact (Kd.C_below HR1.out (by repeat (first | (with_reducible first | exact HB.out | apply below_alloc | apply pw_below_drewN | apply below_drew1) | exact HB.out))) | (with_reducible refine Kd.C_alloc ?_ _) | (with_reducible refine Kd.C_drewN ?_ _) | (with_reducible refine Kd.C_drew ?_))); (case side4 => exact HC1.out); rintro e w' ⟨rfl, ⟨nd, rfl⟩⟩))
                  go_ret
                  exact ⟨by first | rfl | (simp [errW_none, errW_some] <;> rfl) | (simp [*, errW_none, errW_some] <;> rfl), by repeat (first | (with_reducible first | exact HB.out | apply below_alloc | apply pw_below_drewN | apply below_drew1) | exact HB.out)⟩
                · rw [if_neg c20] at H
                  exact absurd H (by simp)
              · replace c17 := Bool.eq_false_iff.mpr c17
                subst c17
                have H1 : (none) = some r := by rw [if_neg (show ¬ (false = true) by decide)] at H; exact H
                clear H
                have H := H1
                clear H1
                exact absurd H (by simp)

end Go.Proofs.YtfjamikpahmfhaaDoor.P
