/- Printed by a program of the session out of the translation: what each function answers (.f), and that a call of it answers so (.calls). -/
import Derived.Test.YtfjamikpahmfhaaDoorPKinds
import Derived.Test.YtfjamikpahmfhaaDoorPWaystoneref07Right
namespace Go.Proofs.YtfjamikpahmfhaaDoor.P
open Go.RowKit Go.Proofs.YtfjamikpahmfhaaDoorW.PrintWords Go.Proofs.YtfjamikpahmfhaaDoorW.PrintLast Go.Proofs.YtfjamikpahmfhaaDoorW.PrintMore
attribute [local go_sem] max2_int min2_int max_two min_two max_three min_three max_four min_four   -- for this text's walks alone
set_option linter.unusedVariables false
set_option linter.unusedSimpArgs false

/-! ### waystoneref07_All: function 26 -/
def waystoneref07_All.l0 : Nat → List (S45) → Int → Option (Bool)
  | 0, _, _ => none
  | k + 1, x0, x3 => if x3 < (x0.length : Int) then (if 0 ≤ x3 then ((waystoneref07_Right.f ((rd_T45 x0 x3).f0) ((rd_T45 x0 x3).f1) ((rd_T45 x0 x3).f2) ((rd_T45 x0 x3).f3) ((rd_T45 x0 x3).f4.f0) ((rd_T45 x0 x3).f4.f1) ((rd_T45 x0 x3).f5)).bind fun t329 => (if t329 = true then (if x3 > 0 then (if 0 ≤ (wrap64 (x3 - 1)) then (if (wrap64 (x3 - 1)) < (x0.length : Int) then (if ((rd_T45 x0 (wrap64 (x3 - 1))).f0) ≥ ((rd_T45 x0 x3).f0) then (some false) else (waystoneref07_All.l0 k x0 (wrap64 (x3 + 1)))) else (none)) else (none)) else (waystoneref07_All.l0 k x0 (wrap64 (x3 + 1)))) else (some false))) else (none)) else (some (decide ((x0.length : Int) ≤ 40)))
def waystoneref07_All.f (k : Nat) (l0 : List (S45)) : Option (Bool) := waystoneref07_All.l0 k l0 0
theorem waystoneref07_All.mono_l : ∀ k, (∀ y0 y1, LeO (waystoneref07_All.l0 k y0 y1) (waystoneref07_All.l0 (k + 1) y0 y1))
  | 0 => fun _ _ r h => by simp [waystoneref07_All.l0] at h
  | k + 1 => by
    have ih0 := waystoneref07_All.mono_l k
    · intro y0 y1
      unfold waystoneref07_All.l0
      repeat' first
      | (with_reducible exact ih0 _ _)
      | (with_reducible exact LeO.refl _)
      | (with_reducible exact LeO.none _)
      | (with_reducible refine LeO.ite ?_ ?_)
      | (with_reducible refine LeO.bind ?_ (fun _ => ?_))
      | exact ih0 _ _
      | exact LeO.none _
      | refine LeO.ite ?_ ?_
      | refine LeO.bind ?_ (fun _ => ?_)
theorem waystoneref07_All.mono : ∀ a0 k, LeO (waystoneref07_All.f k a0) (waystoneref07_All.f (k + 1) a0) := by
  intro a0 k
  have ih0 := waystoneref07_All.mono_l k
  unfold waystoneref07_All.f
  repeat' first
      | (with_reducible exact ih0 _ _)
      | (with_reducible exact LeO.refl _)
      | (with_reducible exact LeO.none _)
      | (with_reducible refine LeO.ite ?_ ?_)
      | (with_reducible refine LeO.bind ?_ (fun _ => ?_))
      | exact ih0 _ _
      | exact LeO.none _
      | refine LeO.ite ?_ ?_
      | refine LeO.bind ?_ (fun _ => ?_)
set_option maxHeartbeats 8000000 in
set_option maxRecDepth 100000 in
theorem waystoneref07_All.calls (k : Nat) (A0 : Option Addr) (c0 : Nat) (l0 : List (S45)) (r : Bool) (w : World) (hr0 : Kd.C k45 w A0 l0.length l0) (hc0 : l0.length ≤ c0) (h : waystoneref07_All.f k l0 = some r) :
    Calls Tryd.prog 26 #[.slice A0 l0.length c0] w fun e w' => e = .returned (.bool r) ∧ Below w.heap.size w w' := by
  have hu45 := Tryd.underlying45
  have HR0 := Aside0.mk hr0
  have HC0 := Aside0.mk hc0
  clear hr0 hc0
  have HB := Aside0.mk (Below.refl w.heap.size w)
  have H : (waystoneref07_All.l0 k l0 0) = some r := h
  clear h
  have H' := Aside0.mk H
  clear H
  go_enter Tryd.func26, Tryd.ntmps26
  go_wp2
  repeat (go_quiet (fail); try go_wp2)
  go_loopg [3] k (fun kq v3 w' => ∃ (x3_1 : Int), v3 = .int .i64 x3_1 ∧ Aside0 (waystoneref07_All.l0 kq l0 x3_1 = some r) ∧ Aside0 (kq ≤ k) ∧ Aside0 (Below w.heap.size w w'))
  case atStart => exact ⟨(0), (by first | rfl | (simp; done) | (simp [*]; done)), H', ⟨Nat.le_refl _⟩, ⟨by repeat (first | (with_reducible first | exact HB.out | apply below_alloc | apply pw_below_drewN | apply below_drew1) | exact HB.out)⟩⟩
  case round =>
    clear H'
    obtain ⟨x3_1, rfl, HA, HK1, HB⟩ := hrel
    cases gk with
    | zero => exact absurd HA.out (by simp [waystoneref07_All.l0])
    | succ k1 =>
      have H := HA.out
      clear HA
      simp only [waystoneref07_All.l0] at H
      by_cases c2 : x3_1 < (l0.length : Int)
      · rw [if_pos c2] at H
        have c2b0 : decide (x3_1 < (l0.length : Int)) = true := decide_eq_true c2
        clear c2
        by_cases c3 : 0 ≤ x3_1
        · rw [if_pos c3] at H
          have c3b0 : decide (0 ≤ x3_1) = true := decide_eq_true c3
          clear c3
          replace H := Option.bind_eq_some_iff.mp H
          obtain ⟨t329, A40, H⟩ := H
          replace H : (if t329 = true then (if x3_1 > 0 then (if 0 ≤ (wrap64 (x3_1 - 1)) then (if (wrap64 (x3_1 - 1)) < (l0.length : Int) then (if ((rd_T45 l0 (wrap64 (x3_1 - 1))).f0) ≥ ((rd_T45 l0 x3_1).f0) then (some false) else (waystoneref07_All.l0 k1 l0 (wrap64 (x3_1 + 1)))) else (none)) else (none)) else (waystoneref07_All.l0 k1 l0 (wrap64 (x3_1 + 1)))) else (some false)) = some r := H
          have A4 := Aside0.mk A40
          clear A40
          by_cases c5 : t329 = true
          · subst c5
            have H1 : (if x3_1 > 0 then (if 0 ≤ (wrap64 (x3_1 - 1)) then (if (wrap64 (x3_1 - 1)) < (l0.length : Int) then (if ((rd_T45 l0 (wrap64 (x3_1 - 1))).f0) ≥ ((rd_T45 l0 x3_1).f0) then (some false) else (waystoneref07_All.l0 k1 l0 (wrap64 (x3_1 + 1)))) else (none)) else (none)) else (waystoneref07_All.l0 k1 l0 (wrap64 (x3_1 + 1)))) = some r := by rw [if_pos rfl] at H; exact H
            clear H
            have H := H1
            clear H1
            by_cases c6 : x3_1 > 0
            · rw [if_pos c6] at H
              have c6b0 : decide (0 < x3_1) = true := decide_eq_true c6
              clear c6
              obtain ⟨ji7, hji7⟩ : ∃ j_ : Int, (wrap64 (x3_1 - 1)) = j_ := ⟨_, rfl⟩
              replace H : (if 0 ≤ (ji7) then (if (ji7) < (l0.length : Int) then (if ((rd_T45 l0 (ji7)).f0) ≥ ((rd_T45 l0 x3_1).f0) then (some false) else (waystoneref07_All.l0 k1 l0 (wrap64 (x3_1 + 1)))) else (none)) else (none)) = some r := by first | (rw [hji7] at H; exact H) | (simp only [hji7] at H ⊢; exact H)
              (try rw [hji7] at A4)
              have hji7w : (IntKind.i64.wrap (x3_1 - 1)) = ji7 := (i64_w _).trans hji7
              by_cases c8 : 0 ≤ (ji7)
              · rw [if_pos c8] at H
                have c8b0 : decide (0 ≤ (ji7)) = true := decide_eq_true c8
                clear c8
                by_cases c9 : (ji7) < (l0.length : Int)
                · rw [if_pos c9] at H
                  have c9b0 : decide ((ji7) < (l0.length : Int)) = true := decide_eq_true c9
                  clear c9
                  by_cases c10 : ((rd_T45 l0 (ji7)).f0) ≥ ((rd_T45 l0 x3_1).f0)
                  · rw [if_pos c10] at H
                    have c10b0 : decide (((rd_T45 l0 x3_1).f0) ≤ ((rd_T45 l0 (ji7)).f0)) = true := decide_eq_true c10
                    clear c10
                    obtain rfl := Option.some.inj H
                    have p328 : 0 ≤ (x3_1 : Int) := of_decide_eq_true (by first | (with_reducible assumption) | assumption)
                    have q328 : x3_1 < (l0.length : Int) := of_decide_eq_true (by first | (with_reducible assumption) | assumption)
                    obtain ⟨ad328, e328, hx328_0, hx328_1, hx328_2, hx328_3, hx328_4, hx328_5, hx328_6⟩ := at_T45 HR0.out x3_1 p328 q328
                    cases e328
                    replace hx328_0 := (HB.out.cell (World.block_lt_of_cell? w _ hx328_0)).trans hx328_0
                    replace hx328_1 := (HB.out.cell (World.block_lt_of_cell? w _ hx328_1)).trans hx328_1
                    replace hx328_2 := (HB.out.cell (World.block_lt_of_cell? w _ hx328_2)).trans hx328_2
                    replace hx328_3 := (HB.out.cell (World.block_lt_of_cell? w _ hx328_3)).trans hx328_3
                    replace hx328_4 := (HB.out.cell (World.block_lt_of_cell? w _ hx328_4)).trans hx328_4
                    replace hx328_5 := (HB.out.cell (World.block_lt_of_cell? w _ hx328_5)).trans hx328_5
                    replace hx328_6 := (HB.out.cell (World.block_lt_of_cell? w _ hx328_6)).trans hx328_6
                    replace p328 := eq_true p328
                    replace q328 := eq_true q328
                    go_wp2_with (first | (go_at_call 25; (with_reducible refine (waystoneref07_Right.calls ((rd_T45 l0 x3_1).f0) ((rd_T45 l0 x3_1).f1) ((rd_T45 l0 x3_1).f2) ((rd_T45 l0 x3_1).f3) ((rd_T45 l0 x3_1).f4.f0) ((rd_T45 l0 x3_1).f4.f1) ((rd_T45 l0 x3_1).f5) true _ A4.out).mono ?_); rintro e w11 ⟨rfl, hb⟩; have n0_ := Aside0.mk (below_step (by repeat (first | (with_reducible first | exact HB.out | apply below_alloc | apply pw_below_drewN | apply below_drew1) | exact HB.out)) hb); clear HB; have HB := n0_; clear n0_; (try clear hb); (try clear hb2); (try clear hk); (try clear hi); have p330 : 0 ≤ ((ji7) : Int) := of_decide_eq_true (by first | (with_reducible assumption) | assumption); have q330 : (ji7) < (l0.length : Int) := of_decide_eq_true (by first | (with_reducible assumption) | assumption); obtain ⟨ad330, e330, hx330_0, hx330_1, hx330_2, hx330_3, hx330_4, hx330_5, hx330_6⟩ := at_T45 HR0.out (ji7) p330 q330; obtain rfl : ad328 = ad330 := (by injection e330); replace hx330_0 := (HB.out.cell (World.block_lt_of_cell? w _ hx330_0)).trans hx330_0; replace hx330_1 := (HB.out.cell (World.block_lt_of_cell? w _ hx330_1)).trans hx330_1; replace hx330_2 := (HB.out.cell (World.block_lt_of_cell? w _ hx330_2)).trans hx330_2; replace hx330_3 := (HB.out.cell (World.block_lt_of_cell? w _ hx330_3)).trans hx330_3; replace hx330_4 := (HB.out.cell (World.block_lt_of_cell? w _ hx330_4)).trans hx330_4; replace hx330_5 := (HB.out.cell (World.block_lt_of_cell? w _ hx330_5)).trans hx330_5; replace hx330_6 := (HB.out.cell (World.block_lt_of_cell? w _ hx330_6)).trans hx330_6; replace p330 := eq_true p330; replace q330 := eq_true q330; have p331 : 0 ≤ (x3_1 : Int) := of_decide_eq_true (by first | (with_reducible assumption) | assumption); have q331 : x3_1 < (l0.length : Int) := of_decide_eq_true (by first | (with_reducible assumption) | assumption); obtain ⟨ad331, e331, hx331_0, hx331_1, hx331_2, hx331_3, hx331_4, hx331_5, hx331_6⟩ := at_T45 HR0.out x3_1 p331 q331; obtain rfl : ad328 = ad331 := (by injection e331); replace hx331_0 := (HB.out.cell (World.block_lt_of_cell? w _ hx331_0)).trans hx331_0; replace hx331_1 := (HB.out.cell (World.block_lt_of_cell? w _ hx331_1)).trans hx331_1; replace hx331_2 := (HB.out.cell (World.block_lt_of_cell? w _ hx331_2)).trans hx331_2; replace hx331_3 := (HB.out.cell (World.block_lt_of_cell? w _ hx331_3)).trans hx331_3; replace hx331_4 := (HB.out.cell (World.block_lt_of_cell? w _ hx331_4)).trans hx331_4; replace hx331_5 := (HB.out.cell (World.block_lt_of_cell? w _ hx331_5)).trans hx331_5; replace hx331_6 := (HB.out.cell (World.block_lt_of_cell? w _ hx331_6)).trans hx331_6; replace p331 := eq_true p331; replace q331 := eq_true q331))
                    repeat (go_quiet (first | (go_at_call 25; (with_reducible refine (waystoneref07_Right.calls ((rd_T45 l0 x3_1).f0) ((rd_T45 l0 x3_1).f1) ((rd_T45 l0 x3_1).f2) ((rd_T45 l0 x3_1).f3) ((rd_T45 l0 x3_1).f4.f0) ((rd_T45 l0 x3_1).f4.f1) ((rd_T45 l0 x3_1).f5) true _ A4.out).mono ?_); rintro e w11 ⟨rfl, hb⟩; have n0_ := Aside0.mk (below_step (by repeat (first | (with_reducible first | exact HB.out | apply below_alloc | apply pw_below_drewN | apply below_drew1) | exact HB.out)) hb); clear HB; have HB := n0_; clear n0_; (try clear hb); (try clear hb2); (try clear hk); (try clear hi); have p330 : 0 ≤ ((ji7) : Int) := of_decide_eq_true (by first | (with_reducible assumption) | assumption); have q330 : (ji7) < (l0.length : Int) := of_decide_eq_true (by first | (with_reducible assumption) | assumption); obtain ⟨ad330, e330, hx330_0, hx330_1, hx330_2, hx330_3, hx330_4, hx330_5, hx330_6⟩ := at_T45 HR0.out (ji7) p330 q330; obtain rfl : ad328 = ad330 := (by injection e330); replace hx330_0 := (HB.out.cell (World.block_lt_of_cell? w _ hx330_0)).trans hx330_0; replace hx330_1 := (HB.out.cell (World.block_lt_of_cell? w _ hx330_1)).trans hx330_1; replace hx330_2 := (HB.out.cell (World.block_lt_of_cell? w _ hx330_2)).trans hx330_2; replace hx330_3 := (HB.out.cell (World.block_lt_of_cell? w _ hx330_3)).trans hx330_3; replace hx330_4 := (HB.out.cell (World.block_lt_of_cell? w _ hx330_4)).trans hx330_4; replace hx330_5 := (HB.out.cell (World.block_lt_of_cell? w _ hx330_5)).trans hx330_5; replace hx330_6 := (HB.out.cell (World.block_lt_of_cell? w _ hx330_6)).trans hx330_6; replace p330 := eq_true p330; replace q330 := eq_true q330; have p331 : 0 ≤ (x3_1 : Int) := of_decide_eq_true (by first | (with_reducible assumption) | assumption); have q331 : x3_1 < (l0.length : Int) := of_decide_eq_true (by first | (with_reducible assumption) | assumption); obtain ⟨ad331, e331, hx331_0, hx331_1, hx331_2, hx331_3, hx331_4, hx331_5, hx331_6⟩ := at_T45 HR0.out x3_1 p331 q331; obtain rfl : ad328 = ad331 := (by injection e331); replace hx331_0 := (HB.out.cell (World.block_lt_of_cell? w _ hx331_0)).trans hx331_0; replace hx331_1 := (HB.out.cell (World.block_lt_of_cell? w _ hx331_1)).trans hx331_1; replace hx331_2 := (HB.out.cell (World.block_lt_of_cell? w _ hx331_2)).trans hx331_2; replace hx331_3 := (HB.out.cell (World.block_lt_of_cell? w _ hx331_3)).trans hx331_3; replace hx331_4 := (HB.out.cell (World.block_lt_of_cell? w _ hx331_4)).trans hx331_4; replace hx331_5 := (HB.out.cell (World.block_lt_of_cell? w _ hx331_5)).trans hx331_5; replace hx331_6 := (HB.out.cell (World.block_lt_of_cell? w _ hx331_6)).trans hx331_6; replace p331 := eq_true p331; replace q331 := eq_true q331)); try go_wp2_with (first | (go_at_call 25; (with_reducible refine (waystoneref07_Right.calls ((rd_T45 l0 x3_1).f0) ((rd_T45 l0 x3_1).f1) ((rd_T45 l0 x3_1).f2) ((rd_T45 l0 x3_1).f3) ((rd_T45 l0 x3_1).f4.f0) ((rd_T45 l0 x3_1).f4.f1) ((rd_T45 l0 x3_1).f5) true _ A4.out).mono ?_); rintro e w11 ⟨rfl, hb⟩; have n0_ := Aside0.mk (below_step (by repeat (first | (with_reducible first | exact HB.out | apply below_alloc | apply pw_below_drewN | apply below_drew1) | exact HB.out)) hb); clear HB; have HB := n0_; clear n0_; (try clear hb); (try clear hb2); (try clear hk); (try clear hi); have p330 : 0 ≤ ((ji7) : Int) := of_decide_eq_true (by first | (with_reducible assumption) | assumption); have q330 : (ji7) < (l0.length : Int) := of_decide_eq_true (by first | (with_reducible assumption) | assumption); obtain ⟨ad330, e330, hx330_0, hx330_1, hx330_2, hx330_3, hx330_4, hx330_5, hx330_6⟩ := at_T45 HR0.out (ji7) p330 q330; obtain rfl : ad328 = ad330 := (by injection e330); replace hx330_0 := (HB.out.cell (World.block_lt_of_cell? w _ hx330_0)).trans hx330_0; replace hx330_1 := (HB.out.cell (World.block_lt_of_cell? w _ hx330_1)).trans hx330_1; replace hx330_2 := (HB.out.cell (World.block_lt_of_cell? w _ hx330_2)).trans hx330_2; replace hx330_3 := (HB.out.cell (World.block_lt_of_cell? w _ hx330_3)).trans hx330_3; replace hx330_4 := (HB.out.cell (World.block_lt_of_cell? w _ hx330_4)).trans hx330_4; replace hx330_5 := (HB.out.cell (World.block_lt_of_cell? w _ hx330_5)).trans hx330_5; replace hx330_6 := (HB.out.cell (World.block_lt_of_cell? w _ hx330_6)).trans hx330_6; replace p330 := eq_true p330; replace q330 := eq_true q330; have p331 : 0 ≤ (x3_1 : Int) := of_decide_eq_true (by first | (with_reducible assumption) | assumption); have q331 : x3_1 < (l0.length : Int) := of_decide_eq_true (by first | (with_reducible assumption) | assumption); obtain ⟨ad331, e331, hx331_0, hx331_1, hx331_2, hx331_3, hx331_4, hx331_5, hx331_6⟩ := at_T45 HR0.out x3_1 p331 q331; obtain rfl : ad328 = ad331 := (by injection e331); replace hx331_0 := (HB.out.cell (World.block_lt_of_cell? w _ hx331_0)).trans hx331_0; replace hx331_1 := (HB.out.cell (World.block_lt_of_cell? w _ hx331_1)).trans hx331_1; replace hx331_2 := (HB.out.cell (World.block_lt_of_cell? w _ hx331_2)).trans hx331_2; replace hx331_3 := (HB.out.cell (World.block_lt_of_cell? w _ hx331_3)).trans hx331_3; replace hx331_4 := (HB.out.cell (World.block_lt_of_cell? w _ hx331_4)).trans hx331_4; replace hx331_5 := (HB.out.cell (World.block_lt_of_cell? w _ hx331_5)).trans hx331_5; replace hx331_6 := (HB.out.cell (World.block_lt_of_cell? w _ hx331_6)).trans hx331_6; replace p331 := eq_true p331; replace q331 := eq_true q331)))
                    go_ret
                    exact ⟨by first | rfl | (simp [errW_none, errW_some] <;> rfl) | (simp only [← hji7]; first | rfl | (simp [errW_none, errW_some] <;> rfl)) | (simp [*, errW_none, errW_some] <;> rfl), by repeat (first | (with_reducible first | exact HB.out | apply below_alloc | apply pw_below_drewN | apply below_drew1) | exact HB.out)⟩
                  · rw [if_neg c10] at H
                    have c10b0 : decide (((rd_T45 l0 x3_1).f0) ≤ ((rd_T45 l0 (ji7)).f0)) = false := decide_eq_false c10
                    clear c10
                    have H' := Aside0.mk H
                    clear H
                    have p328 : 0 ≤ (x3_1 : Int) := of_decide_eq_true (by first | (with_reducible assumption) | assumption)
                    have q328 : x3_1 < (l0.length : Int) := of_decide_eq_true (by first | (with_reducible assumption) | assumption)
                    obtain ⟨ad328, e328, hx328_0, hx328_1, hx328_2, hx328_3, hx328_4, hx328_5, hx328_6⟩ := at_T45 HR0.out x3_1 p328 q328
                    cases e328
                    replace hx328_0 := (HB.out.cell (World.block_lt_of_cell? w _ hx328_0)).trans hx328_0
                    replace hx328_1 := (HB.out.cell (World.block_lt_of_cell? w _ hx328_1)).trans hx328_1
                    replace hx328_2 := (HB.out.cell (World.block_lt_of_cell? w _ hx328_2)).trans hx328_2
                    replace hx328_3 := (HB.out.cell (World.block_lt_of_cell? w _ hx328_3)).trans hx328_3
                    replace hx328_4 := (HB.out.cell (World.block_lt_of_cell? w _ hx328_4)).trans hx328_4
                    replace hx328_5 := (HB.out.cell (World.block_lt_of_cell? w _ hx328_5)).trans hx328_5
                    replace hx328_6 := (HB.out.cell (World.block_lt_of_cell? w _ hx328_6)).trans hx328_6
                    replace p328 := eq_true p328
                    replace q328 := eq_true q328
                    go_wp2_with (first | (go_at_call 25; (with_reducible refine (waystoneref07_Right.calls ((rd_T45 l0 x3_1).f0) ((rd_T45 l0 x3_1).f1) ((rd_T45 l0 x3_1).f2) ((rd_T45 l0 x3_1).f3) ((rd_T45 l0 x3_1).f4.f0) ((rd_T45 l0 x3_1).f4.f1) ((rd_T45 l0 x3_1).f5) true _ A4.out).mono ?_); rintro e w12 ⟨rfl, hb⟩; have n0_ := Aside0.mk (below_step (by repeat (first | (with_reducible first | exact HB.out | apply below_alloc | apply pw_below_drewN | apply below_drew1) | exact HB.out)) hb); clear HB; have HB := n0_; clear n0_; (try clear hb); (try clear hb2); (try clear hk); (try clear hi); have p330 : 0 ≤ ((ji7) : Int) := of_decide_eq_true (by first | (with_reducible assumption) | assumption); have q330 : (ji7) < (l0.length : Int) := of_decide_eq_true (by first | (with_reducible assumption) | assumption); obtain ⟨ad330, e330, hx330_0, hx330_1, hx330_2, hx330_3, hx330_4, hx330_5, hx330_6⟩ := at_T45 HR0.out (ji7) p330 q330; obtain rfl : ad328 = ad330 := (by injection e330); replace hx330_0 := (HB.out.cell (World.block_lt_of_cell? w _ hx330_0)).trans hx330_0; replace hx330_1 := (HB.out.cell (World.block_lt_of_cell? w _ hx330_1)).trans hx330_1; replace hx330_2 := (HB.out.cell (World.block_lt_of_cell? w _ hx330_2)).trans hx330_2; replace hx330_3 := (HB.out.cell (World.block_lt_of_cell? w _ hx330_3)).trans hx330_3; replace hx330_4 := (HB.out.cell (World.block_lt_of_cell? w _ hx330_4)).trans hx330_4; replace hx330_5 := (HB.out.cell (World.block_lt_of_cell? w _ hx330_5)).trans hx330_5; replace hx330_6 := (HB.out.cell (World.block_lt_of_cell? w _ hx330_6)).trans hx330_6; replace p330 := eq_true p330; replace q330 := eq_true q330; have p331 : 0 ≤ (x3_1 : Int) := of_decide_eq_true (by first | (with_reducible assumption) | assumption); have q331 : x3_1 < (l0.length : Int) := of_decide_eq_true (by first | (with_reducible assumption) | assumption); obtain ⟨ad331, e331, hx331_0, hx331_1, hx331_2, hx331_3, hx331_4, hx331_5, hx331_6⟩ := at_T45 HR0.out x3_1 p331 q331; obtain rfl : ad328 = ad331 := (by injection e331); replace hx331_0 := (HB.out.cell (World.block_lt_of_cell? w _ hx331_0)).trans hx331_0; replace hx331_1 := (HB.out.cell (World.block_lt_of_cell? w _ hx331_1)).trans hx331_1; replace hx331_2 := (HB.out.cell (World.block_lt_of_cell? w _ hx331_2)).trans hx331_2; replace hx331_3 := (HB.out.cell (World.block_lt_of_cell? w _ hx331_3)).trans hx331_3; replace hx331_4 := (HB.out.cell (World.block_lt_of_cell? w _ hx331_4)).trans hx331_4; replace hx331_5 := (HB.out.cell (World.block_lt_of_cell? w _ hx331_5)).trans hx331_5; replace hx331_6 := (HB.out.cell (World.block_lt_of_cell? w _ hx331_6)).trans hx331_6; replace p331 := eq_true p331; replace q331 := eq_true q331))
                    repeat (go_quiet (first | (go_at_call 25; (with_reducible refine (waystoneref07_Right.calls ((rd_T45 l0 x3_1).f0) ((rd_T45 l0 x3_1).f1) ((rd_T45 l0 x3_1).f2) ((rd_T45 l0 x3_1).f3) ((rd_T45 l0 x3_1).f4.f0) ((rd_T45 l0 x3_1).f4.f1) ((rd_T45 l0 x3_1).f5) true _ A4.out).mono ?_); rintro e w12 ⟨rfl, hb⟩; have n0_ := Aside0.mk (below_step (by repeat (first | (with_reducible first | exact HB.out | apply below_alloc | apply pw_below_drewN | apply below_drew1) | exact HB.out)) hb); clear HB; have HB := n0_; clear n0_; (try clear hb); (try clear hb2); (try clear hk); (try clear hi); have p330 : 0 ≤ ((ji7) : Int) := of_decide_eq_true (by first | (with_reducible assumption) | assumption); have q330 : (ji7) < (l0.length : Int) := of_decide_eq_true (by first | (with_reducible assumption) | assumption); obtain ⟨ad330, e330, hx330_0, hx330_1, hx330_2, hx330_3, hx330_4, hx330_5, hx330_6⟩ := at_T45 HR0.out (ji7) p330 q330; obtain rfl : ad328 = ad330 := (by injection e330); replace hx330_0 := (HB.out.cell (World.block_lt_of_cell? w _ hx330_0)).trans hx330_0; replace hx330_1 := (HB.out.cell (World.block_lt_of_cell? w _ hx330_1)).trans hx330_1; replace hx330_2 := (HB.out.cell (World.block_lt_of_cell? w _ hx330_2)).trans hx330_2; replace hx330_3 := (HB.out.cell (World.block_lt_of_cell? w _ hx330_3)).trans hx330_3; replace hx330_4 := (HB.out.cell (World.block_lt_of_cell? w _ hx330_4)).trans hx330_4; replace hx330_5 := (HB.out.cell (World.block_lt_of_cell? w _ hx330_5)).trans hx330_5; replace hx330_6 := (HB.out.cell (World.block_lt_of_cell? w _ hx330_6)).trans hx330_6; replace p330 := eq_true p330; replace q330 := eq_true q330; have p331 : 0 ≤ (x3_1 : Int) := of_decide_eq_true (by first | (with_reducible assumption) | assumption); have q331 : x3_1 < (l0.length : Int) := of_decide_eq_true (by first | (with_reducible assumption) | assumption); obtain ⟨ad331, e331, hx331_0, hx331_1, hx331_2, hx331_3, hx331_4, hx331_5, hx331_6⟩ := at_T45 HR0.out x3_1 p331 q331; obtain rfl : ad328 = ad331 := (by injection e331); replace hx331_0 := (HB.out.cell (World.block_lt_of_cell? w _ hx331_0)).trans hx331_0; replace hx331_1 := (HB.out.cell (World.block_lt_of_cell? w _ hx331_1)).trans hx331_1; replace hx331_2 := (HB.out.cell (World.block_lt_of_cell? w _ hx331_2)).trans hx331_2; replace hx331_3 := (HB.out.cell (World.block_lt_of_cell? w _ hx331_3)).trans hx331_3; replace hx331_4 := (HB.out.cell (World.block_lt_of_cell? w _ hx331_4)).trans hx331_4; replace hx331_5 := (HB.out.cell (World.block_lt_of_cell? w _ hx331_5)).trans hx331_5; replace hx331_6 := (HB.out.cell (World.block_lt_of_cell? w _ hx331_6)).trans hx331_6; replace p331 := eq_true p331; replace q331 := eq_true q331)); try go_wp2_with (first | (go_at_call 25; (with_reducible refine (waystoneref07_Right.calls ((rd_T45 l0 x3_1).f0) ((rd_T45 l0 x3_1).f1) ((rd_T45 l0 x3_1).f2) ((rd_T45 l0 x3_1).f3) ((rd_T45 l0 x3_1).f4.f0) ((rd_T45 l0 x3_1).f4.f1) ((rd_T45 l0 x3_1).f5) true _ A4.out).mono ?_); rintro e w12 ⟨rfl, hb⟩; have n0_ := Aside0.mk (below_step (by repeat (first | (with_reducible first | exact HB.out | apply below_alloc | apply pw_below_drewN | apply below_drew1) | exact HB.out)) hb); clear HB; have HB := n0_; clear n0_; (try clear hb); (try clear hb2); (try clear hk); (try clear hi); have p330 : 0 ≤ ((ji7) : Int) := of_decide_eq_true (by first | (with_reducible assumption) | assumption); have q330 : (ji7) < (l0.length : Int) := of_decide_eq_true (by first | (with_reducible assumption) | assumption); obtain ⟨ad330, e330, hx330_0, hx330_1, hx330_2, hx330_3, hx330_4, hx330_5, hx330_6⟩ := at_T45 HR0.out (ji7) p330 q330; obtain rfl : ad328 = ad330 := (by injection e330); replace hx330_0 := (HB.out.cell (World.block_lt_of_cell? w _ hx330_0)).trans hx330_0; replace hx330_1 := (HB.out.cell (World.block_lt_of_cell? w _ hx330_1)).trans hx330_1; replace hx330_2 := (HB.out.cell (World.block_lt_of_cell? w _ hx330_2)).trans hx330_2; replace hx330_3 := (HB.out.cell (World.block_lt_of_cell? w _ hx330_3)).trans hx330_3; replace hx330_4 := (HB.out.cell (World.block_lt_of_cell? w _ hx330_4)).trans hx330_4; replace hx330_5 := (HB.out.cell (World.block_lt_of_cell? w _ hx330_5)).trans hx330_5; replace hx330_6 := (HB.out.cell (World.block_lt_of_cell? w _ hx330_6)).trans hx330_6; replace p330 := eq_true p330; replace q330 := eq_true q330; have p331 : 0 ≤ (x3_1 : Int) := of_decide_eq_true (by first | (with_reducible assumption) | assumption); have q331 : x3_1 < (l0.length : Int) := of_decide_eq_true (by first | (with_reducible assumption) | assumption); obtain ⟨ad331, e331, hx331_0, hx331_1, hx331_2, hx331_3, hx331_4, hx331_5, hx331_6⟩ := at_T45 HR0.out x3_1 p331 q331; obtain rfl : ad328 = ad331 := (by injection e331); replace hx331_0 := (HB.out.cell (World.block_lt_of_cell? w _ hx331_0)).trans hx331_0; replace hx331_1 := (HB.out.cell (World.block_lt_of_cell? w _ hx331_1)).trans hx331_1; replace hx331_2 := (HB.out.cell (World.block_lt_of_cell? w _ hx331_2)).trans hx331_2; replace hx331_3 := (HB.out.cell (World.block_lt_of_cell? w _ hx331_3)).trans hx331_3; replace hx331_4 := (HB.out.cell (World.block_lt_of_cell? w _ hx331_4)).trans hx331_4; replace hx331_5 := (HB.out.cell (World.block_lt_of_cell? w _ hx331_5)).trans hx331_5; replace hx331_6 := (HB.out.cell (World.block_lt_of_cell? w _ hx331_6)).trans hx331_6; replace p331 := eq_true p331; replace q331 := eq_true q331)))
                    go_roundg k1
                    case measure => have := HK1.out; omega
                    case rel => exact ⟨(wrap64 (x3_1 + 1)), (by first | rfl | (simp; done) | (simp [*]; done)), H', ⟨by have := HK1.out; omega⟩, ⟨by repeat (first | (with_reducible first | exact HB.out | apply below_alloc | apply pw_below_drewN | apply below_drew1) | exact HB.out)⟩⟩
                · rw [if_neg c9] at H
                  exact absurd H (by simp)
              · rw [if_neg c8] at H
                exact absurd H (by simp)
            · rw [if_neg c6] at H
              have c6b0 : decide (0 < x3_1) = false := decide_eq_false c6
              clear c6
              have H' := Aside0.mk H
              clear H
              have p328 : 0 ≤ (x3_1 : Int) := of_decide_eq_true (by first | (with_reducible assumption) | assumption)
              have q328 : x3_1 < (l0.length : Int) := of_decide_eq_true (by first | (with_reducible assumption) | assumption)
              obtain ⟨ad328, e328, hx328_0, hx328_1, hx328_2, hx328_3, hx328_4, hx328_5, hx328_6⟩ := at_T45 HR0.out x3_1 p328 q328
              cases e328
              replace hx328_0 := (HB.out.cell (World.block_lt_of_cell? w _ hx328_0)).trans hx328_0
              replace hx328_1 := (HB.out.cell (World.block_lt_of_cell? w _ hx328_1)).trans hx328_1
              replace hx328_2 := (HB.out.cell (World.block_lt_of_cell? w _ hx328_2)).trans hx328_2
              replace hx328_3 := (HB.out.cell (World.block_lt_of_cell? w _ hx328_3)).trans hx328_3
              replace hx328_4 := (HB.out.cell (World.block_lt_of_cell? w _ hx328_4)).trans hx328_4
              replace hx328_5 := (HB.out.cell (World.block_lt_of_cell? w _ hx328_5)).trans hx328_5
              replace hx328_6 := (HB.out.cell (World.block_lt_of_cell? w _ hx328_6)).trans hx328_6
              replace p328 := eq_true p328
              replace q328 := eq_true q328
              go_wp2_with (first | (go_at_call 25; (with_reducible refine (waystoneref07_Right.calls ((rd_T45 l0 x3_1).f0) ((rd_T45 l0 x3_1).f1) ((rd_T45 l0 x3_1).f2) ((rd_T45 l0 x3_1).f3) ((rd_T45 l0 x3_1).f4.f0) ((rd_T45 l0 x3_1).f4.f1) ((rd_T45 l0 x3_1).f5) true _ A4.out).mono ?_); rintro e w13 ⟨rfl, hb⟩; have n0_ := Aside0.mk (below_step (by repeat (first | (with_reducible first | exact HB.out | apply below_alloc | apply pw_below_drewN | apply below_drew1) | exact HB.out)) hb); clear HB; have HB := n0_; clear n0_; (try clear hb); (try clear hb2); (try clear hk); (try clear hi)))
              repeat (go_quiet (first | (go_at_call 25; (with_reducible refine (waystoneref07_Right.calls ((rd_T45 l0 x3_1).f0) ((rd_T45 l0 x3_1).f1) ((rd_T45 l0 x3_1).f2) ((rd_T45 l0 x3_1).f3) ((rd_T45 l0 x3_1).f4.f0) ((rd_T45 l0 x3_1).f4.f1) ((rd_T45 l0 x3_1).f5) true _ A4.out).mono ?_); rintro e w13 ⟨rfl, hb⟩; have n0_ := Aside0.mk (below_step (by repeat (first | (with_reducible first | exact HB.out | apply below_alloc | apply pw_below_drewN | apply below_drew1) | exact HB.out)) hb); clear HB; have HB := n0_; clear n0_; (try clear hb); (try clear hb2); (try clear hk); (try clear hi))); try go_wp2_with (first | (go_at_call 25; (with_reducible refine (waystoneref07_Right.calls ((rd_T45 l0 x3_1).f0) ((rd_T45 l0 x3_1).f1) ((rd_T45 l0 x3_1).f2) ((rd_T45 l0 x3_1).f3) ((rd_T45 l0 x3_1).f4.f0) ((rd_T45 l0 x3_1).f4.f1) ((rd_T45 l0 x3_1).f5) true _ A4.out).mono ?_); rintro e w13 ⟨rfl, hb⟩; have n0_ := Aside0.mk (below_step (by repeat (first | (with_reducible first | exact HB.out | apply below_alloc | apply pw_below_drewN | apply below_drew1) | exact HB.out)) hb); clear HB; have HB := n0_; clear n0_; (try clear hb); (try clear hb2); (try clear hk); (try clear hi))))
              go_roundg k1
              case measure => have := HK1.out; omega
              case rel => exact ⟨(wrap64 (x3_1 + 1)), (by first | rfl | (simp; done) | (simp [*]; done)), H', ⟨by have := HK1.out; omega⟩, ⟨by repeat (first | (with_reducible first | exact HB.out | apply below_alloc | apply pw_below_drewN | apply below_drew1) | exact HB.out)⟩⟩
          · replace c5 := Bool.eq_false_iff.mpr c5
            subst c5
            have H1 : (some false) = some r := by rw [if_neg (show ¬ (false = true) by decide)] at H; exact H
            clear H
            have H := H1
            clear H1
            obtain rfl := Option.some.inj H
            have p328 : 0 ≤ (x3_1 : Int) := of_decide_eq_true (by first | (with_reducible assumption) | assumption)
            have q328 : x3_1 < (l0.length : Int) := of_decide_eq_true (by first | (with_reducible assumption) | assumption)
            obtain ⟨ad328, e328, hx328_0, hx328_1, hx328_2, hx328_3, hx328_4, hx328_5, hx328_6⟩ := at_T45 HR0.out x3_1 p328 q328
            cases e328
            replace hx328_0 := (HB.out.cell (World.block_lt_of_cell? w _ hx328_0)).trans hx328_0
            replace hx328_1 := (HB.out.cell (World.block_lt_of_cell? w _ hx328_1)).trans hx328_1
            replace hx328_2 := (HB.out.cell (World.block_lt_of_cell? w _ hx328_2)).trans hx328_2
            replace hx328_3 := (HB.out.cell (World.block_lt_of_cell? w _ hx328_3)).trans hx328_3
            replace hx328_4 := (HB.out.cell (World.block_lt_of_cell? w _ hx328_4)).trans hx328_4
            replace hx328_5 := (HB.out.cell (World.block_lt_of_cell? w _ hx328_5)).trans hx328_5
            replace hx328_6 := (HB.out.cell (World.block_lt_of_cell? w _ hx328_6)).trans hx328_6
            replace p328 := eq_true p328
            replace q328 := eq_true q328
            go_wp2_with (first | (go_at_call 25; (with_reducible refine (waystoneref07_Right.calls ((rd_T45 l0 x3_1).f0) ((rd_T45 l0 x3_1).f1) ((rd_T45 l0 x3_1).f2) ((rd_T45 l0 x3_1).f3) ((rd_T45 l0 x3_1).f4.f0) ((rd_T45 l0 x3_1).f4.f1) ((rd_T45 l0 x3_1).f5) false _ A4.out).mono ?_); rintro e w14 ⟨rfl, hb⟩; have n0_ := Aside0.mk (below_step (by repeat (first | (with_reducible first | exact HB.out | apply below_alloc | apply pw_below_drewN | apply below_drew1) | exact HB.out)) hb); clear HB; have HB := n0_; clear n0_; (try clear hb); (try clear hb2); (try clear hk); (try clear hi)))
            repeat (go_quiet (first | (go_at_call 25; (with_reducible refine (waystoneref07_Right.calls ((rd_T45 l0 x3_1).f0) ((rd_T45 l0 x3_1).f1) ((rd_T45 l0 x3_1).f2) ((rd_T45 l0 x3_1).f3) ((rd_T45 l0 x3_1).f4.f0) ((rd_T45 l0 x3_1).f4.f1) ((rd_T45 l0 x3_1).f5) false _ A4.out).mono ?_); rintro e w14 ⟨rfl, hb⟩; have n0_ := Aside0.mk (below_step (by repeat (first | (with_reducible first | exact HB.out | apply below_alloc | apply pw_below_drewN | apply below_drew1) | exact HB.out)) hb); clear HB; have HB := n0_; clear n0_; (try clear hb); (try clear hb2); (try clear hk); (try clear hi))); try go_wp2_with (first | (go_at_call 25; (with_reducible refine (waystoneref07_Right.calls ((rd_T45 l0 x3_1).f0) ((rd_T45 l0 x3_1).f1) ((rd_T45 l0 x3_1).f2) ((rd_T45 l0 x3_1).f3) ((rd_T45 l0 x3_1).f4.f0) ((rd_T45 l0 x3_1).f4.f1) ((rd_T45 l0 x3_1).f5) false _ A4.out).mono ?_); rintro e w14 ⟨rfl, hb⟩; have n0_ := Aside0.mk (below_step (by repeat (first | (with_reducible first | exact HB.out | apply below_alloc | apply pw_below_drewN | apply below_drew1) | exact HB.out)) hb); clear HB; have HB := n0_; clear n0_; (try clear hb); (try clear hb2); (try clear hk); (try clear hi))))
            go_ret
            exact ⟨by first | rfl | (simp [errW_none, errW_some] <;> rfl) | (simp [*, errW_none, errW_some] <;> rfl), by repeat (first | (with_reducible first | exact HB.out | apply below_alloc | apply pw_below_drewN | apply below_drew1) | exact HB.out)⟩
        · rw [if_neg c3] at H
          exact absurd H (by simp)
      · rw [if_neg c2] at H
        have c2b0 : decide (x3_1 < (l0.length : Int)) = false := decide_eq_false c2
        clear c2
        obtain rfl := Option.some.inj H
        go_wp2
        repeat (go_quiet (fail); try go_wp2)
        go_ret
        exact ⟨by first | rfl | (simp [errW_none, errW_some] <;> rfl) | (simp [*, errW_none, errW_some] <;> rfl), by repeat (first | (with_reducible first | exact HB.out | apply below_alloc | apply pw_below_drewN | apply below_drew1) | exact HB.out)⟩

end Go.Proofs.YtfjamikpahmfhaaDoor.P
