/- Printed by a program of the session out of the translation: what each function answers (.f), and that a call of it answers so (.calls). -/
import Derived.Test.YtfjamikpahmfhaaDoorPKinds
import Derived.Test.YtfjamikpahmfhaaDoorPEq2
import Derived.Test.YtfjamikpahmfhaaDoorPRuleAll
import Derived.Test.YtfjamikpahmfhaaDoorPWaystonelaw07Alive
import Derived.Test.YtfjamikpahmfhaaDoorXMatch
namespace Go.Proofs.YtfjamikpahmfhaaDoor.P
open Go.RowKit Go.Proofs.YtfjamikpahmfhaaDoorW.PrintWords Go.Proofs.YtfjamikpahmfhaaDoorW.PrintLast Go.Proofs.YtfjamikpahmfhaaDoorW.PrintMore
attribute [local go_sem] max2_int min2_int max_two min_two max_three min_three max_four min_four   -- for this text's walks alone
set_option linter.unusedVariables false
set_option linter.unusedSimpArgs false

attribute [local go_sem high] eqA45
/-! ### waystonelaw07_RuleApart: function 5 -/
mutual
def waystonelaw07_RuleApart.j0 : Nat → List (S45) → Int → Int → Bool → Option (Bool)
  | 0, _, _, _, _ => none
  | k + 1, x0, x1, x2, x20 => if x20 = true then ((waystonelaw07_alive.f k).bind fun t288 => (some t288)) else (waystonelaw07_RuleApart.l0 k x0 x1 x2 ([] : List (S45)) 0)
def waystonelaw07_RuleApart.l0 : Nat → List (S45) → Int → Int → List (S45) → Int → Option (Bool)
  | 0, _, _, _, _, _ => none
  | k + 1, x0, x1, x2, x7, x8 => if x8 < (x0.length : Int) then (if 0 ≤ x8 then (if ((rd_T45 x0 x8).f1) = x1 then (if x2 ≥ ((rd_T45 x0 x8).f4.f0) then (if x2 ≤ ((rd_T45 x0 x8).f4.f1) then (if x7.length < 2932031007402 then (waystonelaw07_RuleApart.l0 k x0 x1 x2 (x7 ++ [(⟨(rd_T45 x0 x8).f0, (rd_T45 x0 x8).f1, (rd_T45 x0 x8).f2, (rd_T45 x0 x8).f3, (⟨(rd_T45 x0 x8).f4.f0, (rd_T45 x0 x8).f4.f1⟩ : S26), (rd_T45 x0 x8).f5⟩ : S45)]) (wrap64 (x8 + 1))) else (none)) else (waystonelaw07_RuleApart.l0 k x0 x1 x2 x7 (wrap64 (x8 + 1)))) else (waystonelaw07_RuleApart.l0 k x0 x1 x2 x7 (wrap64 (x8 + 1)))) else (waystonelaw07_RuleApart.l0 k x0 x1 x2 x7 (wrap64 (x8 + 1)))) else (none)) else ((rule_Match.f x0 x1 x2).bind fun bt296 => ((rule_Match.f x7 x1 x2).bind fun bt305 => ((waystonelaw07_alive.f k).bind fun t314 => (if t314 = true then (if (bt296.1 == bt305.1 && (bt296.2.1 == bt305.2.1 && (bt296.2.2.1 == bt305.2.2.1 && (bt296.2.2.2.1 == bt305.2.2.2.1 && ((bt296.2.2.2.2.1 == bt305.2.2.2.2.1 && (bt296.2.2.2.2.2.1 == bt305.2.2.2.2.2.1)) && (bt296.2.2.2.2.2.2.1 == bt305.2.2.2.2.2.2.1)))))) = true then (if (bt296.2.2.2.2.2.2.2 == bt305.2.2.2.2.2.2.2) = true then ((rule_Denies.f x0 x1 x2).bind fun t315 => ((rule_Denies.f x7 x1 x2).bind fun t316 => (some (t315 == t316)))) else (none)) else (none)) else (none)))))
end
def waystonelaw07_RuleApart.f (k : Nat) (l0 : List (S45)) (a1 : Int) (a2 : Int) : Option (Bool) := if (l0.length : Int) > 60 then (waystonelaw07_RuleApart.j0 k l0 a1 a2 true) else ((rule_All.f k l0).bind fun t287 => (waystonelaw07_RuleApart.j0 k l0 a1 a2 (!t287)))
theorem waystonelaw07_RuleApart.mono_l : ∀ k, (∀ y0 y1 y2 y3, LeO (waystonelaw07_RuleApart.j0 k y0 y1 y2 y3) (waystonelaw07_RuleApart.j0 (k + 1) y0 y1 y2 y3)) ∧ (∀ y0 y1 y2 y3 y4, LeO (waystonelaw07_RuleApart.l0 k y0 y1 y2 y3 y4) (waystonelaw07_RuleApart.l0 (k + 1) y0 y1 y2 y3 y4))
  | 0 => ⟨fun _ _ _ _ r h => by simp [waystonelaw07_RuleApart.j0] at h, fun _ _ _ _ _ r h => by simp [waystonelaw07_RuleApart.l0] at h⟩
  | k + 1 => by
    obtain ⟨ih0, ih1⟩ := waystonelaw07_RuleApart.mono_l k
    refine ⟨?_, ?_⟩
    · intro y0 y1 y2 y3
      unfold waystonelaw07_RuleApart.j0
      repeat' first
      | (with_reducible exact ih0 _ _ _ _)
      | (with_reducible exact ih1 _ _ _ _ _)
      | (with_reducible exact rule_All.mono _ _)
      | (with_reducible exact waystonelaw07_alive.mono _)
      | (with_reducible exact LeO.refl _)
      | (with_reducible exact LeO.none _)
      | (with_reducible refine LeO.ite ?_ ?_)
      | (with_reducible refine LeO.bind ?_ (fun _ => ?_))
      | exact ih0 _ _ _ _
      | exact ih1 _ _ _ _ _
      | exact rule_All.mono _ _
      | exact waystonelaw07_alive.mono _
      | exact LeO.none _
      | refine LeO.ite ?_ ?_
      | refine LeO.bind ?_ (fun _ => ?_)
    · intro y0 y1 y2 y3 y4
      unfold waystonelaw07_RuleApart.l0
      repeat' first
      | (with_reducible exact ih0 _ _ _ _)
      | (with_reducible exact ih1 _ _ _ _ _)
      | (with_reducible exact rule_All.mono _ _)
      | (with_reducible exact waystonelaw07_alive.mono _)
      | (with_reducible exact LeO.refl _)
      | (with_reducible exact LeO.none _)
      | (with_reducible refine LeO.ite ?_ ?_)
      | (with_reducible refine LeO.bind ?_ (fun _ => ?_))
      | exact ih0 _ _ _ _
      | exact ih1 _ _ _ _ _
      | exact rule_All.mono _ _
      | exact waystonelaw07_alive.mono _
      | exact LeO.none _
      | refine LeO.ite ?_ ?_
      | refine LeO.bind ?_ (fun _ => ?_)
theorem waystonelaw07_RuleApart.mono : ∀ a0 a1 a2 k, LeO (waystonelaw07_RuleApart.f k a0 a1 a2) (waystonelaw07_RuleApart.f (k + 1) a0 a1 a2) := by
  intro a0 a1 a2 k
  obtain ⟨ih0, ih1⟩ := waystonelaw07_RuleApart.mono_l k
  unfold waystonelaw07_RuleApart.f
  repeat' first
      | (with_reducible exact ih0 _ _ _ _)
      | (with_reducible exact ih1 _ _ _ _ _)
      | (with_reducible exact rule_All.mono _ _)
      | (with_reducible exact waystonelaw07_alive.mono _)
      | (with_reducible exact LeO.refl _)
      | (with_reducible exact LeO.none _)
      | (with_reducible refine LeO.ite ?_ ?_)
      | (with_reducible refine LeO.bind ?_ (fun _ => ?_))
      | exact ih0 _ _ _ _
      | exact ih1 _ _ _ _ _
      | exact rule_All.mono _ _
      | exact waystonelaw07_alive.mono _
      | exact LeO.none _
      | refine LeO.ite ?_ ?_
      | refine LeO.bind ?_ (fun _ => ?_)
set_option maxHeartbeats 8000000 in
set_option maxRecDepth 100000 in
theorem waystonelaw07_RuleApart.calls (k : Nat) (A0 : Option Addr) (c0 : Nat) (l0 : List (S45)) (a1 : Int) (a2 : Int) (r : Bool) (w : World) (hr0 : Kd.C k45 w A0 l0.length l0) (hc0 : l0.length ≤ c0) (HLd : Laid w) (h : waystonelaw07_RuleApart.f k l0 a1 a2 = some r) :
    Calls Tryd.prog 5 #[.slice A0 l0.length c0, .int .i64 a1, .int .u32 a2] w fun e w' => e = .returned (.bool r) ∧ Below w.heap.size w w' := by
  have hu45 := Tryd.underlying45
  have HR0 := Aside0.mk hr0
  have HC0 := Aside0.mk hc0
  clear hr0 hc0
  have HB := Aside0.mk (Below.refl w.heap.size w)
  have H : (if (l0.length : Int) > 60 then (waystonelaw07_RuleApart.j0 k l0 a1 a2 true) else ((rule_All.f k l0).bind fun t287 => (waystonelaw07_RuleApart.j0 k l0 a1 a2 (!t287)))) = some r := h
  clear h
  have HC4 := Aside0.mk H
  clear H
  go_enter Tryd.func5, Tryd.ntmps5
  go_upto_region 1 with (fail)
  go_cut [20] (fun v20 wc => ∃ (kq : Nat) (x20_3 : Bool), v20 = .bool x20_3 ∧ Aside0 (waystonelaw07_RuleApart.j0 kq l0 a1 a2 x20_3 = some r) ∧ Aside0 (kq ≤ k) ∧ Aside0 (Below w.heap.size w wc))
  case first =>
    have H := HC4.out
    clear HC4
    by_cases c5 : (l0.length : Int) > 60
    · rw [if_pos c5] at H
      have c5b0 : decide (60 < (l0.length : Int)) = true := decide_eq_true c5
      have c5b1 : decide (60 < l0.length) = true := decide_eq_true (by omega)
      clear c5
      (first | rw [c5b0] | (simp only [i64_w, i32_w]; rw [c5b0]) | skip)
      have H' := Aside0.mk H
      clear H
      go_wp2
      go_meet
      case rel => exact ⟨_, (true), (by first | rfl | (simp; done) | (simp [*]; done)), H', ⟨by first | omega | exact Nat.le_refl _⟩, ⟨by repeat (first | (with_reducible first | exact HB.out | apply below_alloc | apply pw_below_drewN | apply below_drew1) | exact HB.out)⟩⟩
    · rw [if_neg c5] at H
      have c5b0 : decide (60 < (l0.length : Int)) = false := decide_eq_false c5
      have c5b1 : decide (60 < l0.length) = false := decide_eq_false (by omega)
      clear c5
      (first | rw [c5b0] | (simp only [i64_w, i32_w]; rw [c5b0]) | skip)
      replace H := Option.bind_eq_some_iff.mp H
      obtain ⟨t287, A60, H⟩ := H
      replace H : (waystonelaw07_RuleApart.j0 k l0 a1 a2 (!t287)) = some r := H
      have A6 := Aside0.mk A60
      clear A60
      have H' := Aside0.mk H
      clear H
      go_wp2_with (first | (go_at_call 22; (with_reducible refine (rule_All.calls k _ _ l0 t287 _ ?side1 ?side2 A6.out).mono ?_); (case side1 => repeat (first | exact (Kd.C_below HR0.out HB.out) | (with_reducible refine Kd.C_alloc ?_ _) | (with_reducible refine Kd.C_drewN ?_ _) | (with_reducible refine Kd.C_drew ?_))); (case side2 => exact HC0.out); rintro e w7 ⟨rfl, hb⟩; have n0_ := Aside0.mk (below_step (by repeat (first | (with_reducible first | exact HB.out | apply below_alloc | apply pw_below_drewN | apply below_drew1) | exact HB.out)) hb); clear HB; have HB := n0_; clear n0_; (try clear hb); (try clear hb2); (try clear hk); (try clear hi)))
      go_meet
      case rel => exact ⟨_, (!t287), (by first | rfl | (simp; done) | (simp [*]; done)), H', ⟨by first | omega | exact Nat.le_refl _⟩, ⟨by repeat (first | (with_reducible first | exact HB.out | apply below_alloc | apply pw_below_drewN | apply below_drew1) | exact HB.out)⟩⟩
  case rest =>
    clear HC4
    try clear p2
    try clear c5
    try clear c5b0
    try clear c5b1
    obtain ⟨kq, x20_3, rfl, HA, HJ3, HB⟩ := hcut
    cases kq with
    | zero => exact absurd HA.out (by simp [waystonelaw07_RuleApart.j0])
    | succ kj3 =>
      have H := HA.out
      clear HA
      simp only [waystonelaw07_RuleApart.j0] at H
      by_cases c8 : x20_3 = true
      · subst c8
        have H1 : ((waystonelaw07_alive.f kj3).bind fun t288 => (some t288)) = some r := by rw [if_pos rfl] at H; exact H
        clear H
        have H := H1
        clear H1
        replace H := Option.bind_eq_some_iff.mp H
        obtain ⟨t288, A90, H⟩ := H
        replace H : (some t288) = some r := H
        have A9 := Aside0.mk A90
        clear A90
        obtain rfl := Option.some.inj H
        go_wp2_with (first | ((with_reducible refine gate_callee (f := 19) rfl ?_); refine goesL_ (some 21) rfl rfl Tryd.func19 (by kernel_rfl) rfl #[] rfl (by (try simp only [List.map_toArray, List.map_cons, List.map_nil]); first | done | rfl | (simp only [List.length_drop, List.length_take]; rfl)) ?_; (with_reducible refine (waystonelaw07_alive.calls kj3  t288 _ ?side1 A9.out).mono ?_); (case side1 => exact HLd.below (by repeat (first | (with_reducible first | exact HB.out | apply below_alloc | apply pw_below_drewN | apply below_drew1) | exact HB.out))); rintro e w10 ⟨rfl, hb⟩; refine ⟨_, rfl, ?_⟩; have n0_ := Aside0.mk (below_step (by repeat (first | (with_reducible first | exact HB.out | apply below_alloc | apply pw_below_drewN | apply below_drew1) | exact HB.out)) hb); clear HB; have HB := n0_; clear n0_; (try clear hb); (try clear hb2); (try clear hk); (try clear hi)))
        go_ret
        exact ⟨by first | rfl | (simp [errW_none, errW_some] <;> rfl) | (simp [*, errW_none, errW_some] <;> rfl), by repeat (first | (with_reducible first | exact HB.out | apply below_alloc | apply pw_below_drewN | apply below_drew1) | exact HB.out)⟩
      · replace c8 := Bool.eq_false_iff.mpr c8
        subst c8
        have H1 : (waystonelaw07_RuleApart.l0 kj3 l0 a1 a2 ([] : List (S45)) 0) = some r := by rw [if_neg (show ¬ (false = true) by decide)] at H; exact H
        clear H
        have H := H1
        clear H1
        have H' := Aside0.mk H
        clear H
        go_wp2
        go_loopg [7, 8] kj3 (fun kq v7 v8 w' => ∃ (x7_2 : List (S45)) (x8_2 : Int), v8 = .int .i64 x8_2 ∧ Aside0 (waystonelaw07_RuleApart.l0 kq l0 a1 a2 x7_2 x8_2 = some r) ∧ Aside0 (kq ≤ kj3) ∧ Aside0 (Kd.R k45 45 w' w.heap.size (fun _ => True) v7 x7_2) ∧ Aside0 (Below w.heap.size w w'))
        case atStart => exact ⟨(([] : List (S45))), (0), (by first | rfl | (simp; done) | (simp [*]; done)), H', ⟨Nat.le_refl _⟩, ⟨by first | exact Kd.R_nil _ _ _ _ _ | exact Kd.N_nil _ _ _ _ _ | exact Kd.V_nil _ _ _ _ _ | exact Kd.Q_nil _ _ _ _ _ | exact Kd.S_nil _ _ _ _ _⟩, ⟨by repeat (first | (with_reducible first | exact HB.out | apply below_alloc | apply pw_below_drewN | apply below_drew1) | exact HB.out)⟩⟩
        case round =>
          clear H'
          try clear c1
          try clear p2
          try clear c5
          try clear c5b0
          try clear c5b1
          try clear c8
          try clear p2
          obtain ⟨x7_2, x8_2, rfl, HA, HK2, HO_7, HB⟩ := hrel
          cases gk with
          | zero => exact absurd HA.out (by simp [waystonelaw07_RuleApart.l0])
          | succ k2 =>
            have H := HA.out
            clear HA
            simp only [waystonelaw07_RuleApart.l0] at H
            by_cases c11 : x8_2 < (l0.length : Int)
            · rw [if_pos c11] at H
              have c11b0 : decide (x8_2 < (l0.length : Int)) = true := decide_eq_true c11
              clear c11
              by_cases c12 : 0 ≤ x8_2
              · rw [if_pos c12] at H
                have c12b0 : decide (0 ≤ x8_2) = true := decide_eq_true c12
                clear c12
                by_cases c13 : ((rd_T45 l0 x8_2).f1) = a1
                · rw [if_pos c13] at H
                  have c13b0 : (((rd_T45 l0 x8_2).f1) == a1) = true := beq_iff_eq.mpr c13
                  have c13b1 : (((rd_T45 l0 x8_2).f1) != a1) = false := bne_eq_false_iff_eq.mpr c13
                  clear c13
                  by_cases c14 : a2 ≥ ((rd_T45 l0 x8_2).f4.f0)
                  · rw [if_pos c14] at H
                    have c14b0 : decide (((rd_T45 l0 x8_2).f4.f0) ≤ a2) = true := decide_eq_true c14
                    clear c14
                    by_cases c15 : a2 ≤ ((rd_T45 l0 x8_2).f4.f1)
                    · rw [if_pos c15] at H
                      have c15b0 : decide (a2 ≤ ((rd_T45 l0 x8_2).f4.f1)) = true := decide_eq_true c15
                      clear c15
                      by_cases c16 : x7_2.length < 2932031007402
                      · rw [if_pos c16] at H
                        have LMc16 := Aside0.mk c16
                        clear c16
                        obtain ⟨y293, hy293⟩ : ∃ y_ : List (S45), y_ = (x7_2 ++ [(⟨(rd_T45 l0 x8_2).f0, (rd_T45 l0 x8_2).f1, (rd_T45 l0 x8_2).f2, (rd_T45 l0 x8_2).f3, (⟨(rd_T45 l0 x8_2).f4.f0, (rd_T45 l0 x8_2).f4.f1⟩ : S26), (rd_T45 l0 x8_2).f5⟩ : S45)]) := ⟨_, rfl⟩
                        replace H : (waystonelaw07_RuleApart.l0 k2 l0 a1 a2 y293 (wrap64 (x8_2 + 1))) = some r := by first | (rw [hy293]; with_reducible exact H) | (have H2_ := (Option.bind_some _ _).symm.trans H; rw [hy293]; with_reducible exact H2_) | (have H2_ := (Option.bind_some _ _).symm.trans H; with_reducible exact H2_) | with_reducible exact H | (rw [hy293]; exact H) | exact H
                        have Ny293 := Aside0.mk hy293
                        clear hy293
                        have H' := Aside0.mk H
                        clear H
                        have p289 : 0 ≤ (x8_2 : Int) := of_decide_eq_true (by first | (with_reducible assumption) | assumption)
                        have q289 : x8_2 < (l0.length : Int) := of_decide_eq_true (by first | (with_reducible assumption) | assumption)
                        obtain ⟨ad289, e289, hx289_0, hx289_1, hx289_2, hx289_3, hx289_4, hx289_5, hx289_6⟩ := at_T45 HR0.out x8_2 p289 q289
                        cases e289
                        replace hx289_0 := (HB.out.cell (World.block_lt_of_cell? w _ hx289_0)).trans hx289_0
                        replace hx289_1 := (HB.out.cell (World.block_lt_of_cell? w _ hx289_1)).trans hx289_1
                        replace hx289_2 := (HB.out.cell (World.block_lt_of_cell? w _ hx289_2)).trans hx289_2
                        replace hx289_3 := (HB.out.cell (World.block_lt_of_cell? w _ hx289_3)).trans hx289_3
                        replace hx289_4 := (HB.out.cell (World.block_lt_of_cell? w _ hx289_4)).trans hx289_4
                        replace hx289_5 := (HB.out.cell (World.block_lt_of_cell? w _ hx289_5)).trans hx289_5
                        replace hx289_6 := (HB.out.cell (World.block_lt_of_cell? w _ hx289_6)).trans hx289_6
                        replace p289 := eq_true p289
                        replace q289 := eq_true q289
                        have p290 : 0 ≤ (x8_2 : Int) := of_decide_eq_true (by first | (with_reducible assumption) | assumption)
                        have q290 : x8_2 < (l0.length : Int) := of_decide_eq_true (by first | (with_reducible assumption) | assumption)
                        obtain ⟨ad290, e290, hx290_0, hx290_1, hx290_2, hx290_3, hx290_4, hx290_5, hx290_6⟩ := at_T45 HR0.out x8_2 p290 q290
                        obtain rfl : ad289 = ad290 := (by injection e290)
                        replace hx290_0 := (HB.out.cell (World.block_lt_of_cell? w _ hx290_0)).trans hx290_0
                        replace hx290_1 := (HB.out.cell (World.block_lt_of_cell? w _ hx290_1)).trans hx290_1
                        replace hx290_2 := (HB.out.cell (World.block_lt_of_cell? w _ hx290_2)).trans hx290_2
                        replace hx290_3 := (HB.out.cell (World.block_lt_of_cell? w _ hx290_3)).trans hx290_3
                        replace hx290_4 := (HB.out.cell (World.block_lt_of_cell? w _ hx290_4)).trans hx290_4
                        replace hx290_5 := (HB.out.cell (World.block_lt_of_cell? w _ hx290_5)).trans hx290_5
                        replace hx290_6 := (HB.out.cell (World.block_lt_of_cell? w _ hx290_6)).trans hx290_6
                        replace p290 := eq_true p290
                        replace q290 := eq_true q290
                        have p291 : 0 ≤ (x8_2 : Int) := of_decide_eq_true (by first | (with_reducible assumption) | assumption)
                        have q291 : x8_2 < (l0.length : Int) := of_decide_eq_true (by first | (with_reducible assumption) | assumption)
                        obtain ⟨ad291, e291, hx291_0, hx291_1, hx291_2, hx291_3, hx291_4, hx291_5, hx291_6⟩ := at_T45 HR0.out x8_2 p291 q291
                        obtain rfl : ad289 = ad291 := (by injection e291)
                        replace hx291_0 := (HB.out.cell (World.block_lt_of_cell? w _ hx291_0)).trans hx291_0
                        replace hx291_1 := (HB.out.cell (World.block_lt_of_cell? w _ hx291_1)).trans hx291_1
                        replace hx291_2 := (HB.out.cell (World.block_lt_of_cell? w _ hx291_2)).trans hx291_2
                        replace hx291_3 := (HB.out.cell (World.block_lt_of_cell? w _ hx291_3)).trans hx291_3
                        replace hx291_4 := (HB.out.cell (World.block_lt_of_cell? w _ hx291_4)).trans hx291_4
                        replace hx291_5 := (HB.out.cell (World.block_lt_of_cell? w _ hx291_5)).trans hx291_5
                        replace hx291_6 := (HB.out.cell (World.block_lt_of_cell? w _ hx291_6)).trans hx291_6
                        replace p291 := eq_true p291
                        replace q291 := eq_true q291
                        have p292 : 0 ≤ (x8_2 : Int) := of_decide_eq_true (by first | (with_reducible assumption) | assumption)
                        have q292 : x8_2 < (l0.length : Int) := of_decide_eq_true (by first | (with_reducible assumption) | assumption)
                        obtain ⟨ad292, e292, hx292_0, hx292_1, hx292_2, hx292_3, hx292_4, hx292_5, hx292_6⟩ := at_T45 HR0.out x8_2 p292 q292
                        obtain rfl : ad289 = ad292 := (by injection e292)
                        replace hx292_0 := (HB.out.cell (World.block_lt_of_cell? w _ hx292_0)).trans hx292_0
                        replace hx292_1 := (HB.out.cell (World.block_lt_of_cell? w _ hx292_1)).trans hx292_1
                        replace hx292_2 := (HB.out.cell (World.block_lt_of_cell? w _ hx292_2)).trans hx292_2
                        replace hx292_3 := (HB.out.cell (World.block_lt_of_cell? w _ hx292_3)).trans hx292_3
                        replace hx292_4 := (HB.out.cell (World.block_lt_of_cell? w _ hx292_4)).trans hx292_4
                        replace hx292_5 := (HB.out.cell (World.block_lt_of_cell? w _ hx292_5)).trans hx292_5
                        replace hx292_6 := (HB.out.cell (World.block_lt_of_cell? w _ hx292_6)).trans hx292_6
                        replace p292 := eq_true p292
                        replace q292 := eq_true q292
                        go_wp2_with (first | ((with_reducible refine gate_builtin (b := .append) (xs := #[.tmp 55, .tmp 60]) rfl ?_); at_builtin; refine Kd.R_append k45 (w0 := w) w.heap.size rfl (.tmp 55) (.tmp 60) 51 45 (.agg #[(.int .i64 0), (.int .i64 0), (.int .i64 0), (.int .i64 0), (.int .u32 0), (.int .u32 0), (.int .i64 0)]) 48 rfl Tryd.underlying51 info45 rfl (by decide) (by omega) u7 x7_2 (⟨(rd_T45 l0 x8_2).f0, (rd_T45 l0 x8_2).f1, (rd_T45 l0 x8_2).f2, (rd_T45 l0 x8_2).f3, (⟨(rd_T45 l0 x8_2).f4.f0, (rd_T45 l0 x8_2).f4.f1⟩ : S26), (rd_T45 l0 x8_2).f5⟩ : S45) [.int .i64 ((rd_T45 l0 x8_2).f0), .int .i64 ((rd_T45 l0 x8_2).f1), .int .i64 ((rd_T45 l0 x8_2).f2), .int .i64 ((rd_T45 l0 x8_2).f3), .int .u32 ((rd_T45 l0 x8_2).f4.f0), .int .u32 ((rd_T45 l0 x8_2).f4.f1), .int .i64 ((rd_T45 l0 x8_2).f5)] (fun _ => True) (fun _ => False) rfl rfl ?aP (fun _ hk => hk.elim) ?aF ?aO ?aB ?aS ?aL ?_; (case aP => exact k45_mkM _ _ _ (⟨(rd_T45 l0 x8_2).f0, (rd_T45 l0 x8_2).f1, (rd_T45 l0 x8_2).f2, (rd_T45 l0 x8_2).f3, (⟨(rd_T45 l0 x8_2).f4.f0, (rd_T45 l0 x8_2).f4.f1⟩ : S26), (rd_T45 l0 x8_2).f5⟩ : S45)); (case aB => exact (by repeat (first | (with_reducible first | exact HB.out | apply below_alloc | apply pw_below_drewN | apply below_drew1) | exact HB.out))); (case aF => exact (fun _ _ => trivial)); (case aO => exact (by (with_reducible repeat (first | apply Kd.R_alloc | apply Kd.R_drewN | apply Kd.R_drew)); exact HO_7.out)); (case aS => exact (below_size (by repeat (first | (with_reducible first | exact HB.out | apply below_alloc | apply pw_below_drewN | apply below_drew1) | exact HB.out)))); (case aL => have := LMc16.out; omega); intro v294 w17 ho hb hg hat; rw [← Ny293.out] at ho; have n0_ := Aside0.mk (hb); have n1_ := Aside0.mk (ho); clear HB; clear HO_7; have HB := n0_; have HO295 := n1_; clear n0_ n1_; clear ho hb hg hat))
                        go_roundg k2
                        case measure => have := HJ3.out; have := HK2.out; omega
                        case rel => exact ⟨(y293), (wrap64 (x8_2 + 1)), (by first | rfl | (simp; done) | (simp [*]; done)), H', ⟨by have := HJ3.out; have := HK2.out; omega⟩, ⟨by (with_reducible repeat (first | apply Kd.R_alloc | apply Kd.R_drewN | apply Kd.R_drew)); exact HO295.out⟩, ⟨by repeat (first | (with_reducible first | exact HB.out | apply below_alloc | apply pw_below_drewN | apply below_drew1) | exact HB.out)⟩⟩
                      · rw [if_neg c16] at H
                        exact absurd H (by simp)
                    · rw [if_neg c15] at H
                      have c15b0 : decide (a2 ≤ ((rd_T45 l0 x8_2).f4.f1)) = false := decide_eq_false c15
                      clear c15
                      have H' := Aside0.mk H
                      clear H
                      have p289 : 0 ≤ (x8_2 : Int) := of_decide_eq_true (by first | (with_reducible assumption) | assumption)
                      have q289 : x8_2 < (l0.length : Int) := of_decide_eq_true (by first | (with_reducible assumption) | assumption)
                      obtain ⟨ad289, e289, hx289_0, hx289_1, hx289_2, hx289_3, hx289_4, hx289_5, hx289_6⟩ := at_T45 HR0.out x8_2 p289 q289
                      cases e289
                      replace hx289_0 := (HB.out.cell (World.block_lt_of_cell? w _ hx289_0)).trans hx289_0
                      replace hx289_1 := (HB.out.cell (World.block_lt_of_cell? w _ hx289_1)).trans hx289_1
                      replace hx289_2 := (HB.out.cell (World.block_lt_of_cell? w _ hx289_2)).trans hx289_2
                      replace hx289_3 := (HB.out.cell (World.block_lt_of_cell? w _ hx289_3)).trans hx289_3
                      replace hx289_4 := (HB.out.cell (World.block_lt_of_cell? w _ hx289_4)).trans hx289_4
                      replace hx289_5 := (HB.out.cell (World.block_lt_of_cell? w _ hx289_5)).trans hx289_5
                      replace hx289_6 := (HB.out.cell (World.block_lt_of_cell? w _ hx289_6)).trans hx289_6
                      replace p289 := eq_true p289
                      replace q289 := eq_true q289
                      have p290 : 0 ≤ (x8_2 : Int) := of_decide_eq_true (by first | (with_reducible assumption) | assumption)
                      have q290 : x8_2 < (l0.length : Int) := of_decide_eq_true (by first | (with_reducible assumption) | assumption)
                      obtain ⟨ad290, e290, hx290_0, hx290_1, hx290_2, hx290_3, hx290_4, hx290_5, hx290_6⟩ := at_T45 HR0.out x8_2 p290 q290
                      obtain rfl : ad289 = ad290 := (by injection e290)
                      replace hx290_0 := (HB.out.cell (World.block_lt_of_cell? w _ hx290_0)).trans hx290_0
                      replace hx290_1 := (HB.out.cell (World.block_lt_of_cell? w _ hx290_1)).trans hx290_1
                      replace hx290_2 := (HB.out.cell (World.block_lt_of_cell? w _ hx290_2)).trans hx290_2
                      replace hx290_3 := (HB.out.cell (World.block_lt_of_cell? w _ hx290_3)).trans hx290_3
                      replace hx290_4 := (HB.out.cell (World.block_lt_of_cell? w _ hx290_4)).trans hx290_4
                      replace hx290_5 := (HB.out.cell (World.block_lt_of_cell? w _ hx290_5)).trans hx290_5
                      replace hx290_6 := (HB.out.cell (World.block_lt_of_cell? w _ hx290_6)).trans hx290_6
                      replace p290 := eq_true p290
                      replace q290 := eq_true q290
                      have p291 : 0 ≤ (x8_2 : Int) := of_decide_eq_true (by first | (with_reducible assumption) | assumption)
                      have q291 : x8_2 < (l0.length : Int) := of_decide_eq_true (by first | (with_reducible assumption) | assumption)
                      obtain ⟨ad291, e291, hx291_0, hx291_1, hx291_2, hx291_3, hx291_4, hx291_5, hx291_6⟩ := at_T45 HR0.out x8_2 p291 q291
                      obtain rfl : ad289 = ad291 := (by injection e291)
                      replace hx291_0 := (HB.out.cell (World.block_lt_of_cell? w _ hx291_0)).trans hx291_0
                      replace hx291_1 := (HB.out.cell (World.block_lt_of_cell? w _ hx291_1)).trans hx291_1
                      replace hx291_2 := (HB.out.cell (World.block_lt_of_cell? w _ hx291_2)).trans hx291_2
                      replace hx291_3 := (HB.out.cell (World.block_lt_of_cell? w _ hx291_3)).trans hx291_3
                      replace hx291_4 := (HB.out.cell (World.block_lt_of_cell? w _ hx291_4)).trans hx291_4
                      replace hx291_5 := (HB.out.cell (World.block_lt_of_cell? w _ hx291_5)).trans hx291_5
                      replace hx291_6 := (HB.out.cell (World.block_lt_of_cell? w _ hx291_6)).trans hx291_6
                      replace p291 := eq_true p291
                      replace q291 := eq_true q291
                      go_wp2
                      go_roundg k2
                      case measure => have := HJ3.out; have := HK2.out; omega
                      case rel => exact ⟨(x7_2), (wrap64 (x8_2 + 1)), (by first | rfl | (simp; done) | (simp [*]; done)), H', ⟨by have := HJ3.out; have := HK2.out; omega⟩, ⟨by (with_reducible repeat (first | apply Kd.R_alloc | apply Kd.R_drewN | apply Kd.R_drew)); exact HO_7.out⟩, ⟨by repeat (first | (with_reducible first | exact HB.out | apply below_alloc | apply pw_below_drewN | apply below_drew1) | exact HB.out)⟩⟩
                  · rw [if_neg c14] at H
                    have c14b0 : decide (((rd_T45 l0 x8_2).f4.f0) ≤ a2) = false := decide_eq_false c14
                    clear c14
                    have H' := Aside0.mk H
                    clear H
                    have p289 : 0 ≤ (x8_2 : Int) := of_decide_eq_true (by first | (with_reducible assumption) | assumption)
                    have q289 : x8_2 < (l0.length : Int) := of_decide_eq_true (by first | (with_reducible assumption) | assumption)
                    obtain ⟨ad289, e289, hx289_0, hx289_1, hx289_2, hx289_3, hx289_4, hx289_5, hx289_6⟩ := at_T45 HR0.out x8_2 p289 q289
                    cases e289
                    replace hx289_0 := (HB.out.cell (World.block_lt_of_cell? w _ hx289_0)).trans hx289_0
                    replace hx289_1 := (HB.out.cell (World.block_lt_of_cell? w _ hx289_1)).trans hx289_1
                    replace hx289_2 := (HB.out.cell (World.block_lt_of_cell? w _ hx289_2)).trans hx289_2
                    replace hx289_3 := (HB.out.cell (World.block_lt_of_cell? w _ hx289_3)).trans hx289_3
                    replace hx289_4 := (HB.out.cell (World.block_lt_of_cell? w _ hx289_4)).trans hx289_4
                    replace hx289_5 := (HB.out.cell (World.block_lt_of_cell? w _ hx289_5)).trans hx289_5
                    replace hx289_6 := (HB.out.cell (World.block_lt_of_cell? w _ hx289_6)).trans hx289_6
                    replace p289 := eq_true p289
                    replace q289 := eq_true q289
                    have p290 : 0 ≤ (x8_2 : Int) := of_decide_eq_true (by first | (with_reducible assumption) | assumption)
                    have q290 : x8_2 < (l0.length : Int) := of_decide_eq_true (by first | (with_reducible assumption) | assumption)
                    obtain ⟨ad290, e290, hx290_0, hx290_1, hx290_2, hx290_3, hx290_4, hx290_5, hx290_6⟩ := at_T45 HR0.out x8_2 p290 q290
                    obtain rfl : ad289 = ad290 := (by injection e290)
                    replace hx290_0 := (HB.out.cell (World.block_lt_of_cell? w _ hx290_0)).trans hx290_0
                    replace hx290_1 := (HB.out.cell (World.block_lt_of_cell? w _ hx290_1)).trans hx290_1
                    replace hx290_2 := (HB.out.cell (World.block_lt_of_cell? w _ hx290_2)).trans hx290_2
                    replace hx290_3 := (HB.out.cell (World.block_lt_of_cell? w _ hx290_3)).trans hx290_3
                    replace hx290_4 := (HB.out.cell (World.block_lt_of_cell? w _ hx290_4)).trans hx290_4
                    replace hx290_5 := (HB.out.cell (World.block_lt_of_cell? w _ hx290_5)).trans hx290_5
                    replace hx290_6 := (HB.out.cell (World.block_lt_of_cell? w _ hx290_6)).trans hx290_6
                    replace p290 := eq_true p290
                    replace q290 := eq_true q290
                    go_wp2
                    go_roundg k2
                    case measure => have := HJ3.out; have := HK2.out; omega
                    case rel => exact ⟨(x7_2), (wrap64 (x8_2 + 1)), (by first | rfl | (simp; done) | (simp [*]; done)), H', ⟨by have := HJ3.out; have := HK2.out; omega⟩, ⟨by (with_reducible repeat (first | apply Kd.R_alloc | apply Kd.R_drewN | apply Kd.R_drew)); exact HO_7.out⟩, ⟨by repeat (first | (with_reducible first | exact HB.out | apply below_alloc | apply pw_below_drewN | apply below_drew1) | exact HB.out)⟩⟩
                · rw [if_neg c13] at H
                  have c13b0 : (((rd_T45 l0 x8_2).f1) == a1) = false := beq_eq_false_iff_ne.mpr c13
                  have c13b1 : (((rd_T45 l0 x8_2).f1) != a1) = true := bne_iff_ne.mpr c13
                  have H' := Aside0.mk H
                  clear H
                  have p289 : 0 ≤ (x8_2 : Int) := of_decide_eq_true (by first | (with_reducible assumption) | assumption)
                  have q289 : x8_2 < (l0.length : Int) := of_decide_eq_true (by first | (with_reducible assumption) | assumption)
                  obtain ⟨ad289, e289, hx289_0, hx289_1, hx289_2, hx289_3, hx289_4, hx289_5, hx289_6⟩ := at_T45 HR0.out x8_2 p289 q289
                  cases e289
                  replace hx289_0 := (HB.out.cell (World.block_lt_of_cell? w _ hx289_0)).trans hx289_0
                  replace hx289_1 := (HB.out.cell (World.block_lt_of_cell? w _ hx289_1)).trans hx289_1
                  replace hx289_2 := (HB.out.cell (World.block_lt_of_cell? w _ hx289_2)).trans hx289_2
                  replace hx289_3 := (HB.out.cell (World.block_lt_of_cell? w _ hx289_3)).trans hx289_3
                  replace hx289_4 := (HB.out.cell (World.block_lt_of_cell? w _ hx289_4)).trans hx289_4
                  replace hx289_5 := (HB.out.cell (World.block_lt_of_cell? w _ hx289_5)).trans hx289_5
                  replace hx289_6 := (HB.out.cell (World.block_lt_of_cell? w _ hx289_6)).trans hx289_6
                  replace p289 := eq_true p289
                  replace q289 := eq_true q289
                  go_wp2
                  go_roundg k2
                  case measure => have := HJ3.out; have := HK2.out; omega
                  case rel => exact ⟨(x7_2), (wrap64 (x8_2 + 1)), (by first | rfl | (simp; done) | (simp [*]; done)), H', ⟨by have := HJ3.out; have := HK2.out; omega⟩, ⟨by (with_reducible repeat (first | apply Kd.R_alloc | apply Kd.R_drewN | apply Kd.R_drew)); exact HO_7.out⟩, ⟨by repeat (first | (with_reducible first | exact HB.out | apply below_alloc | apply pw_below_drewN | apply below_drew1) | exact HB.out)⟩⟩
              · rw [if_neg c12] at H
                exact absurd H (by simp)
            · rw [if_neg c11] at H
              have c11b0 : decide (x8_2 < (l0.length : Int)) = false := decide_eq_false c11
              clear c11
              replace H := Option.bind_eq_some_iff.mp H
              obtain ⟨⟨t296, t297, t298, t299, t300, t301, t302, t303⟩, A180, H⟩ := H
              replace H : ((rule_Match.f x7_2 a1 a2).bind fun bt305 => ((waystonelaw07_alive.f k2).bind fun t314 => (if t314 = true then (if (t296 == bt305.1 && (t297 == bt305.2.1 && (t298 == bt305.2.2.1 && (t299 == bt305.2.2.2.1 && ((t300 == bt305.2.2.2.2.1 && (t301 == bt305.2.2.2.2.2.1)) && (t302 == bt305.2.2.2.2.2.2.1)))))) = true then (if (t303 == bt305.2.2.2.2.2.2.2) = true then ((rule_Denies.f l0 a1 a2).bind fun t315 => ((rule_Denies.f x7_2 a1 a2).bind fun t316 => (some (t315 == t316)))) else (none)) else (none)) else (none)))) = some r := H
              have A18 := Aside0.mk A180
              clear A180
              replace H := Option.bind_eq_some_iff.mp H
              obtain ⟨⟨t305, t306, t307, t308, t309, t310, t311, t312⟩, A190, H⟩ := H
              replace H : ((waystonelaw07_alive.f k2).bind fun t314 => (if t314 = true then (if (t296 == t305 && (t297 == t306 && (t298 == t307 && (t299 == t308 && ((t300 == t309 && (t301 == t310)) && (t302 == t311)))))) = true then (if (t303 == t312) = true then ((rule_Denies.f l0 a1 a2).bind fun t315 => ((rule_Denies.f x7_2 a1 a2).bind fun t316 => (some (t315 == t316)))) else (none)) else (none)) else (none))) = some r := H
              have A19 := Aside0.mk A190
              clear A190
              replace H := Option.bind_eq_some_iff.mp H
              obtain ⟨t314, A200, H⟩ := H
              replace H : (if t314 = true then (if (t296 == t305 && (t297 == t306 && (t298 == t307 && (t299 == t308 && ((t300 == t309 && (t301 == t310)) && (t302 == t311)))))) = true then (if (t303 == t312) = true then ((rule_Denies.f l0 a1 a2).bind fun t315 => ((rule_Denies.f x7_2 a1 a2).bind fun t316 => (some (t315 == t316)))) else (none)) else (none)) else (none)) = some r := H
              have A20 := Aside0.mk A200
              clear A200
              by_cases c21 : t314 = true
              · subst c21
                have H1 : (if (t296 == t305 && (t297 == t306 && (t298 == t307 && (t299 == t308 && ((t300 == t309 && (t301 == t310)) && (t302 == t311)))))) = true then (if (t303 == t312) = true then ((rule_Denies.f l0 a1 a2).bind fun t315 => ((rule_Denies.f x7_2 a1 a2).bind fun t316 => (some (t315 == t316)))) else (none)) else (none)) = some r := by rw [if_pos rfl] at H; exact H
                clear H
                have H := H1
                clear H1
                by_cases c22 : (t296 == t305 && (t297 == t306 && (t298 == t307 && (t299 == t308 && ((t300 == t309 && (t301 == t310)) && (t302 == t311)))))) = true
                · rw [if_pos c22] at H
                  have c22b0 : (t296 == t305 && (t297 == t306 && (t298 == t307 && (t299 == t308 && ((t300 == t309 && (t301 == t310)) && (t302 == t311)))))) = true := c22
                  (try (have c22b1 : decide (t296 = t305 && (t297 == t306 && (t298 == t307 && (t299 == t308 && ((t300 == t309 && (t301 == t310)) && (t302 == t311)))))) = true := by simpa using c22))
                  (try (have c22b2 : (t296 == t305 && (t297 == t306 && (t298 == t307 && (t299 == t308 && ((t300 == t309 && (t301 == t310)) && (t302 == t311)))))) = true := by simpa using c22))
                  clear c22
                  by_cases c23 : (t303 == t312) = true
                  · rw [if_pos c23] at H
                    have c23b0 : (t303 == t312) = true := c23
                    (try (have c23b1 : decide (t303 = t312) = true := by simpa using c23))
                    (try (have c23b2 : (t303 == t312) = true := by simpa using c23))
                    clear c23
                    replace H := Option.bind_eq_some_iff.mp H
                    obtain ⟨t315, A240, H⟩ := H
                    replace H : ((rule_Denies.f x7_2 a1 a2).bind fun t316 => (some (t315 == t316))) = some r := H
                    have A24 := Aside0.mk A240
                    clear A240
                    replace H := Option.bind_eq_some_iff.mp H
                    obtain ⟨t316, A250, H⟩ := H
                    replace H : (some (t315 == t316)) = some r := H
                    have A25 := Aside0.mk A250
                    clear A250
                    obtain rfl := Option.some.inj H
                    go_wp2_with (first | ((with_reducible refine gate_callee (f := 23) rfl ?_); refine goesL_ (some 66) rfl rfl Tryd.func23 (by kernel_rfl) rfl #[.slice A0 l0.length c0, .int .i64 a1, .int .u32 a2] rfl (by (try simp only [List.map_toArray, List.map_cons, List.map_nil]); first | done | rfl | (simp only [List.length_drop, List.length_take]; rfl)) ?_; (with_reducible refine (rule_Match.calls _ _ l0 a1 a2 t296 t297 t298 t299 t300 t301 t302 t303 _ ?side1 ?side2 A18.out).mono ?_); (case side1 => repeat (first | exact (Kd.C_below HR0.out HB.out) | (with_reducible refine Kd.C_alloc ?_ _) | (with_reducible refine Kd.C_drewN ?_ _) | (with_reducible refine Kd.C_drew ?_))); (case side2 => exact HC0.out); rintro e w26 ⟨rfl, hb⟩; refine ⟨_, rfl, ?_⟩; have n0_ := Aside0.mk (Kd.R_below (by (with_reducible repeat (first | apply Kd.R_alloc | apply Kd.R_drewN | apply Kd.R_drew)); exact HO_7.out) hb); have n1_ := Aside0.mk (below_step (by repeat (first | (with_reducible first | exact HB.out | apply below_alloc | apply pw_below_drewN | apply below_drew1) | exact HB.out)) hb); clear HO_7; clear HB; have HO_7 := n0_; have HB := n1_; clear n0_ n1_; (try clear hb); (try clear hb2); (try clear hk); (try clear hi)) | ((with_reducible refine gate_dst (N := 9) rfl ?_); refine box_event ?hg (N := 9) ?hd (cs := #[.int .i64 0, .int .i64 0, .int .i64 0, .int .i64 0, .int .u32 0, .int .u32 0, .int .i64 0]) (t := 45) ?hr ?_; (case hd => rfl); (case hg => rfl); (case hr => first | (go_simp; done) | (go_simp; rfl)); intro gb304 hg w27 hbox hb; have n0_ := Aside0.mk (Kd.R_below (Kd.R_elderB (by (with_reducible repeat (first | apply Kd.R_alloc | apply Kd.R_drewN | apply Kd.R_drew)); exact HO_7.out) gb304 (Nat.le_of_eq hg.symm)) hb); have n1_ := Aside0.mk (below_step (by repeat (first | (with_reducible first | exact HB.out | apply below_alloc | apply pw_below_drewN | apply below_drew1) | exact HB.out)) hb); have n2_ := Aside0.mk (hbox); have n3_ := Aside0.mk ((by rw [hg]; exact (below_size (by repeat (first | (with_reducible first | exact HB.out | apply below_alloc | apply pw_below_drewN | apply below_drew1) | exact HB.out))) : w.heap.size ≤ gb304)); have n4_ := Aside0.mk ((by rw [hg]; exact (below_size (by repeat (first | (with_reducible first | exact HB.out | apply below_alloc | apply pw_below_drewN | apply below_drew1) | exact HB.out))) : w.heap.size ≤ gb304)); clear HO_7; clear HB; have HO_7 := n0_; have HB := n1_; have BK304 := n2_; have GW304 := n3_; have GE304 := n4_; clear n0_ n1_ n2_ n3_ n4_; clear hb hbox hg; have hcz28_0 : w27.cell? ⟨gb304, 0, none⟩ = some (.int .i64 0) := (blk_cell BK304.out 0).trans rfl; have hcz28_1 : w27.cell? ⟨gb304, 1, none⟩ = some (.int .i64 0) := (blk_cell BK304.out 1).trans rfl; have hcz28_2 : w27.cell? ⟨gb304, 2, none⟩ = some (.int .i64 0) := (blk_cell BK304.out 2).trans rfl; have hcz28_3 : w27.cell? ⟨gb304, 3, none⟩ = some (.int .i64 0) := (blk_cell BK304.out 3).trans rfl; have hcz28_4 : w27.cell? ⟨gb304, 4, none⟩ = some (.int .u32 0) := (blk_cell BK304.out 4).trans rfl; have hcz28_5 : w27.cell? ⟨gb304, 5, none⟩ = some (.int .u32 0) := (blk_cell BK304.out 5).trans rfl; have hcz28_6 : w27.cell? ⟨gb304, 6, none⟩ = some (.int .i64 0) := (blk_cell BK304.out 6).trans rfl; have hfz28_0 := blk_frozen BK304.out 0; have hfz28_1 := blk_frozen BK304.out 1; have hfz28_2 := blk_frozen BK304.out 2; have hfz28_3 := blk_frozen BK304.out 3; have hfz28_4 := blk_frozen BK304.out 4; have hfz28_5 := blk_frozen BK304.out 5; have hfz28_6 := blk_frozen BK304.out 6; obtain ⟨Ao29, co29, eo29⟩ := Kd.R_slice HO_7.out; subst eo29) | ((with_reducible refine gate_callee (f := 23) rfl ?_); refine goesL_ (some 73) rfl rfl Tryd.func23 (by kernel_rfl) rfl #[.slice Ao29 x7_2.length co29, .int .i64 a1, .int .u32 a2] rfl (by (try simp only [List.map_toArray, List.map_cons, List.map_nil]); first | done | rfl | (simp only [List.length_drop, List.length_take]; rfl)) ?_; (with_reducible refine (rule_Match.calls _ _ x7_2 a1 a2 t305 t306 t307 t308 t309 t310 t311 t312 _ ?side1 ?side2 A19.out).mono ?_); (case side1 => refine (Kd.R_reads' (e := 45) (base := w.heap.size) (ok := fun k_ => (True ∧ k_ ≠ gb304)) (n := x7_2.length) (c := co29) ?_).2.2; exact (by (with_reducible repeat (first | apply Kd.R_alloc | apply Kd.R_drewN | apply Kd.R_drew)); exact (Kd.R_mono (Kd.R_far (p := ⟨gb304, 6, none⟩) (Kd.R_far (p := ⟨gb304, 5, none⟩) (Kd.R_far (p := ⟨gb304, 4, none⟩) (Kd.R_far (p := ⟨gb304, 3, none⟩) (Kd.R_far (p := ⟨gb304, 2, none⟩) (Kd.R_far (p := ⟨gb304, 1, none⟩) (Kd.R_far (p := ⟨gb304, 0, none⟩) (Kd.R_mono HO_7.out (fun k_ hk => (⟨hk, hk.2⟩ : _ ∧ k_ ≠ gb304))) (fun _ hk => hk.2) (.int .i64 t296)) (fun _ hk => hk.2) (.int .i64 t297)) (fun _ hk => hk.2) (.int .i64 t298)) (fun _ hk => hk.2) (.int .i64 t299)) (fun _ hk => hk.2) (.int .u32 t300)) (fun _ hk => hk.2) (.int .u32 t301)) (fun _ hk => hk.2) (.int .i64 t302)) (fun _ h_ => h_.1)))); (case side2 => exact (Kd.R_reads' HO_7.out).2.1); rintro e w30 ⟨rfl, hb⟩; refine ⟨_, rfl, ?_⟩; have n0_ := Aside0.mk (Kd.R_below (by (with_reducible repeat (first | apply Kd.R_alloc | apply Kd.R_drewN | apply Kd.R_drew)); exact (Kd.R_mono (Kd.R_far (p := ⟨gb304, 6, none⟩) (Kd.R_far (p := ⟨gb304, 5, none⟩) (Kd.R_far (p := ⟨gb304, 4, none⟩) (Kd.R_far (p := ⟨gb304, 3, none⟩) (Kd.R_far (p := ⟨gb304, 2, none⟩) (Kd.R_far (p := ⟨gb304, 1, none⟩) (Kd.R_far (p := ⟨gb304, 0, none⟩) (Kd.R_mono HO_7.out (fun k_ hk => (⟨hk, hk.2⟩ : _ ∧ k_ ≠ gb304))) (fun _ hk => hk.2) (.int .i64 t296)) (fun _ hk => hk.2) (.int .i64 t297)) (fun _ hk => hk.2) (.int .i64 t298)) (fun _ hk => hk.2) (.int .i64 t299)) (fun _ hk => hk.2) (.int .u32 t300)) (fun _ hk => hk.2) (.int .u32 t301)) (fun _ hk => hk.2) (.int .i64 t302)) (fun _ h_ => h_.1))) hb); have n1_ := Aside0.mk (blk_below (g := gb304) (o := .cells #[.int .i64 t296, .int .i64 t297, .int .i64 t298, .int .i64 t299, .int .u32 t300, .int .u32 t301, .int .i64 t302] 45 (0, 0)) (by (with_reducible repeat (first | refine blk_drewN ?_ _ | refine blk_drew ?_ | refine blk_alloc ?_ _)); refine blk_put (cs := #[.int .i64 t296, .int .i64 t297, .int .i64 t298, .int .i64 t299, .int .u32 t300, .int .u32 t301, .int .i64 0]) ?_ 6 _ rfl; (with_reducible repeat (first | refine blk_drewN ?_ _ | refine blk_drew ?_ | refine blk_alloc ?_ _)); refine blk_put (cs := #[.int .i64 t296, .int .i64 t297, .int .i64 t298, .int .i64 t299, .int .u32 t300, .int .u32 0, .int .i64 0]) ?_ 5 _ rfl; (with_reducible repeat (first | refine blk_drewN ?_ _ | refine blk_drew ?_ | refine blk_alloc ?_ _)); refine blk_put (cs := #[.int .i64 t296, .int .i64 t297, .int .i64 t298, .int .i64 t299, .int .u32 0, .int .u32 0, .int .i64 0]) ?_ 4 _ rfl; (with_reducible repeat (first | refine blk_drewN ?_ _ | refine blk_drew ?_ | refine blk_alloc ?_ _)); refine blk_put (cs := #[.int .i64 t296, .int .i64 t297, .int .i64 t298, .int .i64 0, .int .u32 0, .int .u32 0, .int .i64 0]) ?_ 3 _ rfl; (with_reducible repeat (first | refine blk_drewN ?_ _ | refine blk_drew ?_ | refine blk_alloc ?_ _)); refine blk_put (cs := #[.int .i64 t296, .int .i64 t297, .int .i64 0, .int .i64 0, .int .u32 0, .int .u32 0, .int .i64 0]) ?_ 2 _ rfl; (with_reducible repeat (first | refine blk_drewN ?_ _ | refine blk_drew ?_ | refine blk_alloc ?_ _)); refine blk_put (cs := #[.int .i64 t296, .int .i64 0, .int .i64 0, .int .i64 0, .int .u32 0, .int .u32 0, .int .i64 0]) ?_ 1 _ rfl; (with_reducible repeat (first | refine blk_drewN ?_ _ | refine blk_drew ?_ | refine blk_alloc ?_ _)); refine blk_put (cs := #[.int .i64 0, .int .i64 0, .int .i64 0, .int .i64 0, .int .u32 0, .int .u32 0, .int .i64 0]) ?_ 0 _ rfl; (with_reducible repeat (first | refine blk_drewN ?_ _ | refine blk_drew ?_ | refine blk_alloc ?_ _)); exact BK304.out) hb); have n2_ := Aside0.mk (below_step (by repeat (first | (with_reducible first | exact HB.out | apply below_alloc | apply pw_below_drewN | apply below_drew1 | refine below_set ?_ GE304.out) | exact HB.out)) hb); clear HO_7; clear BK304; clear HB; have HO_7 := n0_; have BK304 := n1_; have HB := n2_; clear n0_ n1_ n2_; (try clear hb); (try clear hb2); (try clear hk); (try clear hi)) | ((with_reducible refine gate_dst (N := 11) rfl ?_); refine box_event ?hg (N := 11) ?hd (cs := #[.int .i64 0, .int .i64 0, .int .i64 0, .int .i64 0, .int .u32 0, .int .u32 0, .int .i64 0]) (t := 45) ?hr ?_; (case hd => rfl); (case hg => rfl); (case hr => first | (go_simp; done) | (go_simp; rfl)); intro gb313 hg w31 hbox hb; have n0_ := Aside0.mk (Kd.R_below (Kd.R_elderB (by (with_reducible repeat (first | apply Kd.R_alloc | apply Kd.R_drewN | apply Kd.R_drew)); exact HO_7.out) gb313 (Nat.le_of_eq hg.symm)) hb); have n1_ := Aside0.mk (blk_below (g := gb304) (o := .cells #[.int .i64 t296, .int .i64 t297, .int .i64 t298, .int .i64 t299, .int .u32 t300, .int .u32 t301, .int .i64 t302] 45 (0, 0)) (by (with_reducible repeat (first | refine blk_drewN ?_ _ | refine blk_drew ?_ | refine blk_alloc ?_ _)); exact BK304.out) hb); have n2_ := Aside0.mk (below_step (by repeat (first | (with_reducible first | exact HB.out | apply below_alloc | apply pw_below_drewN | apply below_drew1 | refine below_set ?_ GE304.out) | exact HB.out)) hb); have n3_ := Aside0.mk (hbox); have n4_ := Aside0.mk ((by rw [hg]; exact (below_size (by repeat (first | (with_reducible first | exact HB.out | apply below_alloc | apply pw_below_drewN | apply below_drew1 | refine below_set ?_ GE304.out) | exact HB.out))) : w.heap.size ≤ gb313)); have n5_ := Aside0.mk ((by rw [hg]; exact (below_size (by repeat (first | (with_reducible first | exact HB.out | apply below_alloc | apply pw_below_drewN | apply below_drew1 | refine below_set ?_ GE304.out) | exact HB.out))) : w.heap.size ≤ gb313)); have n6_ := Aside0.mk ((by rw [hg]; exact Nat.ne_of_lt (blk_lt (g := gb304) (o := .cells #[.int .i64 t296, .int .i64 t297, .int .i64 t298, .int .i64 t299, .int .u32 t300, .int .u32 t301, .int .i64 t302] 45 (0, 0)) (by (with_reducible repeat (first | refine blk_drewN ?_ _ | refine blk_drew ?_ | refine blk_alloc ?_ _)); exact BK304.out)) : gb304 ≠ gb313)); have n7_ := Aside0.mk ((by rw [hg]; exact Nat.ne_of_gt (blk_lt (g := gb304) (o := .cells #[.int .i64 t296, .int .i64 t297, .int .i64 t298, .int .i64 t299, .int .u32 t300, .int .u32 t301, .int .i64 t302] 45 (0, 0)) (by (with_reducible repeat (first | refine blk_drewN ?_ _ | refine blk_drew ?_ | refine blk_alloc ?_ _)); exact BK304.out)) : gb313 ≠ gb304)); clear HO_7; clear BK304; clear HB; have HO_7 := n0_; have BK304 := n1_; have HB := n2_; have BK313 := n3_; have GW313 := n4_; have GE313 := n5_; have NB304_313 := n6_; have NB313_304 := n7_; clear n0_ n1_ n2_ n3_ n4_ n5_ n6_ n7_; clear hb hbox hg; have hnb32 := NB313_304.out; have hnc32 := NB304_313.out; have hcz33_0 : w31.cell? ⟨gb313, 0, none⟩ = some (.int .i64 0) := (blk_cell BK313.out 0).trans rfl; have hcz33_1 : w31.cell? ⟨gb313, 1, none⟩ = some (.int .i64 0) := (blk_cell BK313.out 1).trans rfl; have hcz33_2 : w31.cell? ⟨gb313, 2, none⟩ = some (.int .i64 0) := (blk_cell BK313.out 2).trans rfl; have hcz33_3 : w31.cell? ⟨gb313, 3, none⟩ = some (.int .i64 0) := (blk_cell BK313.out 3).trans rfl; have hcz33_4 : w31.cell? ⟨gb313, 4, none⟩ = some (.int .u32 0) := (blk_cell BK313.out 4).trans rfl; have hcz33_5 : w31.cell? ⟨gb313, 5, none⟩ = some (.int .u32 0) := (blk_cell BK313.out 5).trans rfl; have hcz33_6 : w31.cell? ⟨gb313, 6, none⟩ = some (.int .i64 0) := (blk_cell BK313.out 6).trans rfl; have hfz33_0 := blk_frozen BK313.out 0; have hfz33_1 := blk_frozen BK313.out 1; have hfz33_2 := blk_frozen BK313.out 2; have hfz33_3 := blk_frozen BK313.out 3; have hfz33_4 := blk_frozen BK313.out 4; have hfz33_5 := blk_frozen BK313.out 5; have hfz33_6 := blk_frozen BK313.out 6) | ((with_reducible refine gate_callee (f := 19) rfl ?_); refine goesL_ (some 76) rfl rfl Tryd.func19 (by kernel_rfl) rfl #[] rfl (by (try simp only [List.map_toArray, List.map_cons, List.map_nil]); first | done | rfl | (simp only [List.length_drop, List.length_take]; rfl)) ?_; (with_reducible refine (waystonelaw07_alive.calls k2  true _ ?side1 A20.out).mono ?_); (case side1 => exact HLd.below (by repeat (first | (with_reducible first | exact HB.out | apply below_alloc | apply pw_below_drewN | apply below_drew1 | refine below_set ?_ GE304.out | refine below_set ?_ GE313.out) | exact HB.out))); rintro e w34 ⟨rfl, hb⟩; refine ⟨_, rfl, ?_⟩; have n0_ := Aside0.mk (Kd.R_below (by (with_reducible repeat (first | apply Kd.R_alloc | apply Kd.R_drewN | apply Kd.R_drew)); exact (Kd.R_mono (Kd.R_far (p := ⟨gb313, 6, none⟩) (Kd.R_far (p := ⟨gb313, 5, none⟩) (Kd.R_far (p := ⟨gb313, 4, none⟩) (Kd.R_far (p := ⟨gb313, 3, none⟩) (Kd.R_far (p := ⟨gb313, 2, none⟩) (Kd.R_far (p := ⟨gb313, 1, none⟩) (Kd.R_far (p := ⟨gb313, 0, none⟩) (Kd.R_mono HO_7.out (fun k_ hk => (⟨hk, hk.2⟩ : _ ∧ k_ ≠ gb313))) (fun _ hk => hk.2) (.int .i64 t305)) (fun _ hk => hk.2) (.int .i64 t306)) (fun _ hk => hk.2) (.int .i64 t307)) (fun _ hk => hk.2) (.int .i64 t308)) (fun _ hk => hk.2) (.int .u32 t309)) (fun _ hk => hk.2) (.int .u32 t310)) (fun _ hk => hk.2) (.int .i64 t311)) (fun _ h_ => h_.1))) hb); have n1_ := Aside0.mk (blk_below (g := gb304) (o := .cells #[.int .i64 t296, .int .i64 t297, .int .i64 t298, .int .i64 t299, .int .u32 t300, .int .u32 t301, .int .i64 t302] 45 (0, 0)) (by (with_reducible repeat (first | refine blk_drewN ?_ _ | refine blk_drew ?_ | refine blk_alloc ?_ _)); refine blk_far ?_ NB304_313.out _; (with_reducible repeat (first | refine blk_drewN ?_ _ | refine blk_drew ?_ | refine blk_alloc ?_ _)); refine blk_far ?_ NB304_313.out _; (with_reducible repeat (first | refine blk_drewN ?_ _ | refine blk_drew ?_ | refine blk_alloc ?_ _)); refine blk_far ?_ NB304_313.out _; (with_reducible repeat (first | refine blk_drewN ?_ _ | refine blk_drew ?_ | refine blk_alloc ?_ _)); refine blk_far ?_ NB304_313.out _; (with_reducible repeat (first | refine blk_drewN ?_ _ | refine blk_drew ?_ | refine blk_alloc ?_ _)); refine blk_far ?_ NB304_313.out _; (with_reducible repeat (first | refine blk_drewN ?_ _ | refine blk_drew ?_ | refine blk_alloc ?_ _)); refine blk_far ?_ NB304_313.out _; (with_reducible repeat (first | refine blk_drewN ?_ _ | refine blk_drew ?_ | refine blk_alloc ?_ _)); refine blk_far ?_ NB304_313.out _; (with_reducible repeat (first | refine blk_drewN ?_ _ | refine blk_drew ?_ | refine blk_alloc ?_ _)); exact BK304.out) hb); have n2_ := Aside0.mk (blk_below (g := gb313) (o := .cells #[.int .i64 t305, .int .i64 t306, .int .i64 t307, .int .i64 t308, .int .u32 t309, .int .u32 t310, .int .i64 t311] 45 (0, 0)) (by (with_reducible repeat (first | refine blk_drewN ?_ _ | refine blk_drew ?_ | refine blk_alloc ?_ _)); refine blk_put (cs := #[.int .i64 t305, .int .i64 t306, .int .i64 t307, .int .i64 t308, .int .u32 t309, .int .u32 t310, .int .i64 0]) ?_ 6 _ rfl; (with_reducible repeat (first | refine blk_drewN ?_ _ | refine blk_drew ?_ | refine blk_alloc ?_ _)); refine blk_put (cs := #[.int .i64 t305, .int .i64 t306, .int .i64 t307, .int .i64 t308, .int .u32 t309, .int .u32 0, .int .i64 0]) ?_ 5 _ rfl; (with_reducible repeat (first | refine blk_drewN ?_ _ | refine blk_drew ?_ | refine blk_alloc ?_ _)); refine blk_put (cs := #[.int .i64 t305, .int .i64 t306, .int .i64 t307, .int .i64 t308, .int .u32 0, .int .u32 0, .int .i64 0]) ?_ 4 _ rfl; (with_reducible repeat (first | refine blk_drewN ?_ _ | refine blk_drew ?_ | refine blk_alloc ?_ _)); refine blk_put (cs := #[.int .i64 t305, .int .i64 t306, .int .i64 t307, .int .i64 0, .int .u32 0, .int .u32 0, .int .i64 0]) ?_ 3 _ rfl; (with_reducible repeat (first | refine blk_drewN ?_ _ | refine blk_drew ?_ | refine blk_alloc ?_ _)); refine blk_put (cs := #[.int .i64 t305, .int .i64 t306, .int .i64 0, .int .i64 0, .int .u32 0, .int .u32 0, .int .i64 0]) ?_ 2 _ rfl; (with_reducible repeat (first | refine blk_drewN ?_ _ | refine blk_drew ?_ | refine blk_alloc ?_ _)); refine blk_put (cs := #[.int .i64 t305, .int .i64 0, .int .i64 0, .int .i64 0, .int .u32 0, .int .u32 0, .int .i64 0]) ?_ 1 _ rfl; (with_reducible repeat (first | refine blk_drewN ?_ _ | refine blk_drew ?_ | refine blk_alloc ?_ _)); refine blk_put (cs := #[.int .i64 0, .int .i64 0, .int .i64 0, .int .i64 0, .int .u32 0, .int .u32 0, .int .i64 0]) ?_ 0 _ rfl; (with_reducible repeat (first | refine blk_drewN ?_ _ | refine blk_drew ?_ | refine blk_alloc ?_ _)); exact BK313.out) hb); have n3_ := Aside0.mk (below_step (by repeat (first | (with_reducible first | exact HB.out | apply below_alloc | apply pw_below_drewN | apply below_drew1 | refine below_set ?_ GE304.out | refine below_set ?_ GE313.out) | exact HB.out)) hb); clear HO_7; clear BK304; clear BK313; clear HB; have HO_7 := n0_; have BK304 := n1_; have BK313 := n2_; have HB := n3_; clear n0_ n1_ n2_ n3_; (try clear hb); (try clear hb2); (try clear hk); (try clear hi); have hcz35_0 : w34.cell? ⟨gb304, 0, none⟩ = some (.int .i64 t296) := (blk_cell BK304.out 0).trans rfl; have hcz35_1 : w34.cell? ⟨gb304, 1, none⟩ = some (.int .i64 t297) := (blk_cell BK304.out 1).trans rfl; have hcz35_2 : w34.cell? ⟨gb304, 2, none⟩ = some (.int .i64 t298) := (blk_cell BK304.out 2).trans rfl; have hcz35_3 : w34.cell? ⟨gb304, 3, none⟩ = some (.int .i64 t299) := (blk_cell BK304.out 3).trans rfl; have hcz35_4 : w34.cell? ⟨gb304, 4, none⟩ = some (.int .u32 t300) := (blk_cell BK304.out 4).trans rfl; have hcz35_5 : w34.cell? ⟨gb304, 5, none⟩ = some (.int .u32 t301) := (blk_cell BK304.out 5).trans rfl; have hcz35_6 : w34.cell? ⟨gb304, 6, none⟩ = some (.int .i64 t302) := (blk_cell BK304.out 6).trans rfl; have hfz35_0 := blk_frozen BK304.out 0; have hfz35_1 := blk_frozen BK304.out 1; have hfz35_2 := blk_frozen BK304.out 2; have hfz35_3 := blk_frozen BK304.out 3; have hfz35_4 := blk_frozen BK304.out 4; have hfz35_5 := blk_frozen BK304.out 5; have hfz35_6 := blk_frozen BK304.out 6; have hcz36_0 : w34.cell? ⟨gb313, 0, none⟩ = some (.int .i64 t305) := (blk_cell BK313.out 0).trans rfl; have hcz36_1 : w34.cell? ⟨gb313, 1, none⟩ = some (.int .i64 t306) := (blk_cell BK313.out 1).trans rfl; have hcz36_2 : w34.cell? ⟨gb313, 2, none⟩ = some (.int .i64 t307) := (blk_cell BK313.out 2).trans rfl; have hcz36_3 : w34.cell? ⟨gb313, 3, none⟩ = some (.int .i64 t308) := (blk_cell BK313.out 3).trans rfl; have hcz36_4 : w34.cell? ⟨gb313, 4, none⟩ = some (.int .u32 t309) := (blk_cell BK313.out 4).trans rfl; have hcz36_5 : w34.cell? ⟨gb313, 5, none⟩ = some (.int .u32 t310) := (blk_cell BK313.out 5).trans rfl; have hcz36_6 : w34.cell? ⟨gb313, 6, none⟩ = some (.int .i64 t311) := (blk_cell BK313.out 6).trans rfl; have hfz36_0 := blk_frozen BK313.out 0; have hfz36_1 := blk_frozen BK313.out 1; have hfz36_2 := blk_frozen BK313.out 2; have hfz36_3 := blk_frozen BK313.out 3; have hfz36_4 := blk_frozen BK313.out 4; have hfz36_5 := blk_frozen BK313.out 5; have hfz36_6 := blk_frozen BK313.out 6) | (go_at_call 24; (with_reducible refine (rule_Denies.calls _ _ l0 a1 a2 t315 _ ?side1 ?side2 A24.out).mono ?_); (case side1 => repeat (first | exact (Kd.C_below HR0.out HB.out) | (with_reducible refine Kd.C_alloc ?_ _) | (with_reducible refine Kd.C_drewN ?_ _) | (with_reducible refine Kd.C_drew ?_))); (case side2 => exact HC0.out); rintro e w37 ⟨rfl, hb⟩; have n0_ := Aside0.mk (Kd.R_below (by (with_reducible repeat (first | apply Kd.R_alloc | apply Kd.R_drewN | apply Kd.R_drew)); exact HO_7.out) hb); have n1_ := Aside0.mk (blk_below (g := gb304) (o := .cells #[.int .i64 t296, .int .i64 t297, .int .i64 t298, .int .i64 t299, .int .u32 t300, .int .u32 t301, .int .i64 t302] 45 (0, 0)) (by (with_reducible repeat (first | refine blk_drewN ?_ _ | refine blk_drew ?_ | refine blk_alloc ?_ _)); exact BK304.out) hb); have n2_ := Aside0.mk (blk_below (g := gb313) (o := .cells #[.int .i64 t305, .int .i64 t306, .int .i64 t307, .int .i64 t308, .int .u32 t309, .int .u32 t310, .int .i64 t311] 45 (0, 0)) (by (with_reducible repeat (first | refine blk_drewN ?_ _ | refine blk_drew ?_ | refine blk_alloc ?_ _)); exact BK313.out) hb); have n3_ := Aside0.mk (below_step (by repeat (first | (with_reducible first | exact HB.out | apply below_alloc | apply pw_below_drewN | apply below_drew1 | refine below_set ?_ GE304.out | refine below_set ?_ GE313.out) | exact HB.out)) hb); clear HO_7; clear BK304; clear BK313; clear HB; have HO_7 := n0_; have BK304 := n1_; have BK313 := n2_; have HB := n3_; clear n0_ n1_ n2_ n3_; (try clear hb); (try clear hb2); (try clear hk); (try clear hi)) | (go_at_call 24; (with_reducible refine (rule_Denies.calls _ _ x7_2 a1 a2 t316 _ ?side1 ?side2 A25.out).mono ?_); (case side1 => repeat (first | exact (Kd.R_reads' HO_7.out).2.2 | (with_reducible refine Kd.C_alloc ?_ _) | (with_reducible refine Kd.C_drewN ?_ _) | (with_reducible refine Kd.C_drew ?_))); (case side2 => exact (Kd.R_reads' HO_7.out).2.1); rintro e w38 ⟨rfl, hb⟩; have n0_ := Aside0.mk (Kd.R_below (by (with_reducible repeat (first | apply Kd.R_alloc | apply Kd.R_drewN | apply Kd.R_drew)); exact HO_7.out) hb); have n1_ := Aside0.mk (blk_below (g := gb304) (o := .cells #[.int .i64 t296, .int .i64 t297, .int .i64 t298, .int .i64 t299, .int .u32 t300, .int .u32 t301, .int .i64 t302] 45 (0, 0)) (by (with_reducible repeat (first | refine blk_drewN ?_ _ | refine blk_drew ?_ | refine blk_alloc ?_ _)); exact BK304.out) hb); have n2_ := Aside0.mk (blk_below (g := gb313) (o := .cells #[.int .i64 t305, .int .i64 t306, .int .i64 t307, .int .i64 t308, .int .u32 t309, .int .u32 t310, .int .i64 t311] 45 (0, 0)) (by (with_reducible repeat (first | refine blk_drewN ?_ _ | refine blk_drew ?_ | refine blk_alloc ?_ _)); exact BK313.out) hb); have n3_ := Aside0.mk (below_step (by repeat (first | (with_reducible first | exact HB.out | apply below_alloc | apply pw_below_drewN | apply below_drew1 | refine below_set ?_ GE304.out | refine below_set ?_ GE313.out) | exact HB.out)) hb); clear HO_7; clear BK304; clear BK313; clear HB; have HO_7 := n0_; have BK304 := n1_; have BK313 := n2_; have HB := n3_; clear n0_ n1_ n2_ n3_; (try clear hb); (try clear hb2); (try clear hk); (try clear hi)))
                    go_ret
                    exact ⟨by first | rfl | (simp [errW_none, errW_some] <;> rfl) | (simp [*, errW_none, errW_some] <;> rfl), by repeat (first | (with_reducible first | exact HB.out | apply below_alloc | apply pw_below_drewN | apply below_drew1 | refine below_set ?_ GE304.out | refine below_set ?_ GE313.out) | exact HB.out)⟩
                  · rw [if_neg c23] at H
                    exact absurd H (by simp)
                · rw [if_neg c22] at H
                  exact absurd H (by simp)
              · replace c21 := Bool.eq_false_iff.mpr c21
                subst c21
                have H1 : (none) = some r := by rw [if_neg (show ¬ (false = true) by decide)] at H; exact H
                clear H
                have H := H1
                clear H1
                exact absurd H (by simp)

end Go.Proofs.YtfjamikpahmfhaaDoor.P
