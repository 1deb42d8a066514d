/- Printed by a program of the session out of the translation: what each function answers (.f), and that a call of it answers so (.calls). -/
import Derived.Test.YtfjamikpahmfhaaDoorPKinds
import Derived.Test.YtfjamikpahmfhaaDoorPEq2
import Derived.Test.YtfjamikpahmfhaaDoorPRuleAll
import Derived.Test.YtfjamikpahmfhaaDoorPWaystonelaw07Alive
import Derived.Test.YtfjamikpahmfhaaDoorXFind
import Derived.Test.YtfjamikpahmfhaaDoorXMatch
namespace Go.Proofs.YtfjamikpahmfhaaDoor.P
open Go.RowKit Go.Proofs.YtfjamikpahmfhaaDoorW.PrintWords Go.Proofs.YtfjamikpahmfhaaDoorW.PrintLast Go.Proofs.YtfjamikpahmfhaaDoorW.PrintMore
attribute [local go_sem] max2_int min2_int max_two min_two max_three min_three max_four min_four   -- for this text's walks alone
set_option linter.unusedVariables false
set_option linter.unusedSimpArgs false

attribute [local go_sem high] eqA45
/-! ### waystonelaw07_RuleFirst: function 7 -/
mutual
def waystonelaw07_RuleFirst.j0 : Nat → List (S45) → Int → Int → Bool → Option (Bool)
  | 0, _, _, _, _ => none
  | k + 1, x0, x1, x2, x21 => if x21 = true then ((waystonelaw07_alive.f k).bind fun t348 => (some t348)) else ((rule_Match.f x0 x1 x2).bind fun bt349 => (waystonelaw07_RuleFirst.l0 k x0 x1 x2 bt349.2.2.2.2.2.2.2 false 0 bt349.1 bt349.2.1 bt349.2.2.1 bt349.2.2.2.1 bt349.2.2.2.2.1 bt349.2.2.2.2.2.1 bt349.2.2.2.2.2.2.1))
def waystonelaw07_RuleFirst.l0 : Nat → List (S45) → Int → Int → Bool → Bool → Int → Int → Int → Int → Int → Int → Int → Int → Option (Bool)
  | 0, _, _, _, _, _, _, _, _, _, _, _, _, _ => none
  | k + 1, x0, x1, x2, x8, x9, x10, x358000, x358001, x358002, x358003, x358004, x358005, x358006 => if x10 < (x0.length : Int) then (if 0 ≤ x10 then (if ((rd_T45 x0 x10).f1) = x1 then (if x2 < ((rd_T45 x0 x10).f4.f0) then (waystonelaw07_RuleFirst.j2 k x0 x1 x2 x8 x9 x10 true x358000 x358001 x358002 x358003 x358004 x358005 x358006 ((rd_T45 x0 x10).f0) ((rd_T45 x0 x10).f1) ((rd_T45 x0 x10).f2) ((rd_T45 x0 x10).f3) ((rd_T45 x0 x10).f4.f0) ((rd_T45 x0 x10).f4.f1) ((rd_T45 x0 x10).f5)) else (if x2 > ((rd_T45 x0 x10).f4.f1) then (waystonelaw07_RuleFirst.j2 k x0 x1 x2 x8 x9 x10 true x358000 x358001 x358002 x358003 x358004 x358005 x358006 ((rd_T45 x0 x10).f0) ((rd_T45 x0 x10).f1) ((rd_T45 x0 x10).f2) ((rd_T45 x0 x10).f3) ((rd_T45 x0 x10).f4.f0) ((rd_T45 x0 x10).f4.f1) ((rd_T45 x0 x10).f5)) else (if ((rd_T45 x0 x10).f3) = 2 then (waystonelaw07_RuleFirst.j2 k x0 x1 x2 x8 x9 x10 true x358000 x358001 x358002 x358003 x358004 x358005 x358006 ((rd_T45 x0 x10).f0) ((rd_T45 x0 x10).f1) ((rd_T45 x0 x10).f2) ((rd_T45 x0 x10).f3) ((rd_T45 x0 x10).f4.f0) ((rd_T45 x0 x10).f4.f1) ((rd_T45 x0 x10).f5)) else (waystonelaw07_RuleFirst.j2 k x0 x1 x2 x8 x9 x10 (((rd_T45 x0 x10).f3) == 3) x358000 x358001 x358002 x358003 x358004 x358005 x358006 ((rd_T45 x0 x10).f0) ((rd_T45 x0 x10).f1) ((rd_T45 x0 x10).f2) ((rd_T45 x0 x10).f3) ((rd_T45 x0 x10).f4.f0) ((rd_T45 x0 x10).f4.f1) ((rd_T45 x0 x10).f5))))) else (waystonelaw07_RuleFirst.j2 k x0 x1 x2 x8 x9 x10 true x358000 x358001 x358002 x358003 x358004 x358005 x358006 ((rd_T45 x0 x10).f0) ((rd_T45 x0 x10).f1) ((rd_T45 x0 x10).f2) ((rd_T45 x0 x10).f3) ((rd_T45 x0 x10).f4.f0) ((rd_T45 x0 x10).f4.f1) ((rd_T45 x0 x10).f5))) else (none)) else ((rule_Find.f x0 x358000).bind fun bt358 => ((waystonelaw07_alive.f k).bind fun t367 => (if t367 = true then (if (x8 == x9) = true then (if x8 = true then (if x358001 = x1 then (if bt358.2.2.2.2.2.2.2 = true then (some (bt358.1 == x358000 && (bt358.2.1 == x358001 && (bt358.2.2.1 == x358002 && (bt358.2.2.2.1 == x358003 && ((bt358.2.2.2.2.1 == x358004 && (bt358.2.2.2.2.2.1 == x358005)) && (bt358.2.2.2.2.2.2.1 == x358006))))))) else (none)) else (none)) else (some true)) else (none)) else (none))))
def waystonelaw07_RuleFirst.j2 : Nat → List (S45) → Int → Int → Bool → Bool → Int → Bool → Int → Int → Int → Int → Int → Int → Int → Int → Int → Int → Int → Int → Int → Int → Option (Bool)
  | 0, _, _, _, _, _, _, _, _, _, _, _, _, _, _, _, _, _, _, _, _, _ => none
  | k + 1, x0, x1, x2, x8, x9, x10, x67, x358000, x358001, x358002, x358003, x358004, x358005, x358006, x370000, x370001, x370002, x370003, x370004, x370005, x370006 => if x67 = true then (waystonelaw07_RuleFirst.l0 k x0 x1 x2 x8 x9 (wrap64 (x10 + 1)) x358000 x358001 x358002 x358003 x358004 x358005 x358006) else (if x370002 > x358002 then (none) else (if x370002 = x358002 then (if x370000 < x358000 then (none) else (waystonelaw07_RuleFirst.l0 k x0 x1 x2 x8 true (wrap64 (x10 + 1)) x358000 x358001 x358002 x358003 x358004 x358005 x358006)) else (waystonelaw07_RuleFirst.l0 k x0 x1 x2 x8 true (wrap64 (x10 + 1)) x358000 x358001 x358002 x358003 x358004 x358005 x358006)))
end
def waystonelaw07_RuleFirst.f (k : Nat) (l0 : List (S45)) (a1 : Int) (a2 : Int) : Option (Bool) := if (l0.length : Int) > 60 then (waystonelaw07_RuleFirst.j0 k l0 a1 a2 true) else ((rule_All.f k l0).bind fun t347 => (waystonelaw07_RuleFirst.j0 k l0 a1 a2 (!t347)))
theorem waystonelaw07_RuleFirst.mono_l : ∀ k, (∀ y0 y1 y2 y3, LeO (waystonelaw07_RuleFirst.j0 k y0 y1 y2 y3) (waystonelaw07_RuleFirst.j0 (k + 1) y0 y1 y2 y3)) ∧ (∀ y0 y1 y2 y3 y4 y5 y6 y7 y8 y9 y10 y11 y12, LeO (waystonelaw07_RuleFirst.l0 k y0 y1 y2 y3 y4 y5 y6 y7 y8 y9 y10 y11 y12) (waystonelaw07_RuleFirst.l0 (k + 1) y0 y1 y2 y3 y4 y5 y6 y7 y8 y9 y10 y11 y12)) ∧ (∀ y0 y1 y2 y3 y4 y5 y6 y7 y8 y9 y10 y11 y12 y13 y14 y15 y16 y17 y18 y19 y20, LeO (waystonelaw07_RuleFirst.j2 k y0 y1 y2 y3 y4 y5 y6 y7 y8 y9 y10 y11 y12 y13 y14 y15 y16 y17 y18 y19 y20) (waystonelaw07_RuleFirst.j2 (k + 1) y0 y1 y2 y3 y4 y5 y6 y7 y8 y9 y10 y11 y12 y13 y14 y15 y16 y17 y18 y19 y20))
  | 0 => ⟨fun _ _ _ _ r h => by simp [waystonelaw07_RuleFirst.j0] at h, fun _ _ _ _ _ _ _ _ _ _ _ _ _ r h => by simp [waystonelaw07_RuleFirst.l0] at h, fun _ _ _ _ _ _ _ _ _ _ _ _ _ _ _ _ _ _ _ _ _ r h => by simp [waystonelaw07_RuleFirst.j2] at h⟩
  | k + 1 => by
    obtain ⟨ih0, ih1, ih2⟩ := waystonelaw07_RuleFirst.mono_l k
    refine ⟨?_, ?_, ?_⟩
    · intro y0 y1 y2 y3
      unfold waystonelaw07_RuleFirst.j0
      repeat' first
      | (with_reducible exact ih0 _ _ _ _)
      | (with_reducible exact ih1 _ _ _ _ _ _ _ _ _ _ _ _ _)
      | (with_reducible exact ih2 _ _ _ _ _ _ _ _ _ _ _ _ _ _ _ _ _ _ _ _ _)
      | (with_reducible exact rule_All.mono _ _)
      | (with_reducible exact waystonelaw07_alive.mono _)
      | (with_reducible exact LeO.refl _)
      | (with_reducible exact LeO.none _)
      | (with_reducible refine LeO.ite ?_ ?_)
      | (with_reducible refine LeO.bind ?_ (fun _ => ?_))
      | exact ih0 _ _ _ _
      | exact ih1 _ _ _ _ _ _ _ _ _ _ _ _ _
      | exact ih2 _ _ _ _ _ _ _ _ _ _ _ _ _ _ _ _ _ _ _ _ _
      | exact rule_All.mono _ _
      | exact waystonelaw07_alive.mono _
      | exact LeO.none _
      | refine LeO.ite ?_ ?_
      | refine LeO.bind ?_ (fun _ => ?_)
    · intro y0 y1 y2 y3 y4 y5 y6 y7 y8 y9 y10 y11 y12
      unfold waystonelaw07_RuleFirst.l0
      repeat' first
      | (with_reducible exact ih0 _ _ _ _)
      | (with_reducible exact ih1 _ _ _ _ _ _ _ _ _ _ _ _ _)
      | (with_reducible exact ih2 _ _ _ _ _ _ _ _ _ _ _ _ _ _ _ _ _ _ _ _ _)
      | (with_reducible exact rule_All.mono _ _)
      | (with_reducible exact waystonelaw07_alive.mono _)
      | (with_reducible exact LeO.refl _)
      | (with_reducible exact LeO.none _)
      | (with_reducible refine LeO.ite ?_ ?_)
      | (with_reducible refine LeO.bind ?_ (fun _ => ?_))
      | exact ih0 _ _ _ _
      | exact ih1 _ _ _ _ _ _ _ _ _ _ _ _ _
      | exact ih2 _ _ _ _ _ _ _ _ _ _ _ _ _ _ _ _ _ _ _ _ _
      | exact rule_All.mono _ _
      | exact waystonelaw07_alive.mono _
      | exact LeO.none _
      | refine LeO.ite ?_ ?_
      | refine LeO.bind ?_ (fun _ => ?_)
    · intro y0 y1 y2 y3 y4 y5 y6 y7 y8 y9 y10 y11 y12 y13 y14 y15 y16 y17 y18 y19 y20
      unfold waystonelaw07_RuleFirst.j2
      repeat' first
      | (with_reducible exact ih0 _ _ _ _)
      | (with_reducible exact ih1 _ _ _ _ _ _ _ _ _ _ _ _ _)
      | (with_reducible exact ih2 _ _ _ _ _ _ _ _ _ _ _ _ _ _ _ _ _ _ _ _ _)
      | (with_reducible exact rule_All.mono _ _)
      | (with_reducible exact waystonelaw07_alive.mono _)
      | (with_reducible exact LeO.refl _)
      | (with_reducible exact LeO.none _)
      | (with_reducible refine LeO.ite ?_ ?_)
      | (with_reducible refine LeO.bind ?_ (fun _ => ?_))
      | exact ih0 _ _ _ _
      | exact ih1 _ _ _ _ _ _ _ _ _ _ _ _ _
      | exact ih2 _ _ _ _ _ _ _ _ _ _ _ _ _ _ _ _ _ _ _ _ _
      | exact rule_All.mono _ _
      | exact waystonelaw07_alive.mono _
      | exact LeO.none _
      | refine LeO.ite ?_ ?_
      | refine LeO.bind ?_ (fun _ => ?_)
theorem waystonelaw07_RuleFirst.mono : ∀ a0 a1 a2 k, LeO (waystonelaw07_RuleFirst.f k a0 a1 a2) (waystonelaw07_RuleFirst.f (k + 1) a0 a1 a2) := by
  intro a0 a1 a2 k
  obtain ⟨ih0, ih1, ih2⟩ := waystonelaw07_RuleFirst.mono_l k
  unfold waystonelaw07_RuleFirst.f
  repeat' first
      | (with_reducible exact ih0 _ _ _ _)
      | (with_reducible exact ih1 _ _ _ _ _ _ _ _ _ _ _ _ _)
      | (with_reducible exact ih2 _ _ _ _ _ _ _ _ _ _ _ _ _ _ _ _ _ _ _ _ _)
      | (with_reducible exact rule_All.mono _ _)
      | (with_reducible exact waystonelaw07_alive.mono _)
      | (with_reducible exact LeO.refl _)
      | (with_reducible exact LeO.none _)
      | (with_reducible refine LeO.ite ?_ ?_)
      | (with_reducible refine LeO.bind ?_ (fun _ => ?_))
      | exact ih0 _ _ _ _
      | exact ih1 _ _ _ _ _ _ _ _ _ _ _ _ _
      | exact ih2 _ _ _ _ _ _ _ _ _ _ _ _ _ _ _ _ _ _ _ _ _
      | exact rule_All.mono _ _
      | exact waystonelaw07_alive.mono _
      | exact LeO.none _
      | refine LeO.ite ?_ ?_
      | refine LeO.bind ?_ (fun _ => ?_)
set_option maxHeartbeats 8000000 in
set_option maxRecDepth 100000 in
theorem waystonelaw07_RuleFirst.calls (k : Nat) (A0 : Option Addr) (c0 : Nat) (l0 : List (S45)) (a1 : Int) (a2 : Int) (r : Bool) (w : World) (hr0 : Kd.C k45 w A0 l0.length l0) (hc0 : l0.length ≤ c0) (HLd : Laid w) (h : waystonelaw07_RuleFirst.f k l0 a1 a2 = some r) :
    Calls Tryd.prog 7 #[.slice A0 l0.length c0, .int .i64 a1, .int .u32 a2] w fun e w' => e = .returned (.bool r) ∧ Below w.heap.size w w' := by
  have hu45 := Tryd.underlying45
  have HR0 := Aside0.mk hr0
  have HC0 := Aside0.mk hc0
  clear hr0 hc0
  have HB := Aside0.mk (Below.refl w.heap.size w)
  have H : (if (l0.length : Int) > 60 then (waystonelaw07_RuleFirst.j0 k l0 a1 a2 true) else ((rule_All.f k l0).bind fun t347 => (waystonelaw07_RuleFirst.j0 k l0 a1 a2 (!t347)))) = some r := h
  clear h
  have HC4 := Aside0.mk H
  clear H
  go_enter Tryd.func7, Tryd.ntmps7
  go_upto_region 1 with (fail)
  go_cut [21] (fun v21 wc => ∃ (kq : Nat) (x21_3 : Bool), v21 = .bool x21_3 ∧ Aside0 (waystonelaw07_RuleFirst.j0 kq l0 a1 a2 x21_3 = some r) ∧ Aside0 (kq ≤ k) ∧ Aside0 (Below w.heap.size w wc))
  case first =>
    have H := HC4.out
    clear HC4
    by_cases c5 : (l0.length : Int) > 60
    · rw [if_pos c5] at H
      have c5b0 : decide (60 < (l0.length : Int)) = true := decide_eq_true c5
      have c5b1 : decide (60 < l0.length) = true := decide_eq_true (by omega)
      clear c5
      (first | rw [c5b0] | (simp only [i64_w, i32_w]; rw [c5b0]) | skip)
      have H' := Aside0.mk H
      clear H
      go_wp2
      go_meet
      case rel => exact ⟨_, (true), (by first | rfl | (simp; done) | (simp [*]; done)), H', ⟨by first | omega | exact Nat.le_refl _⟩, ⟨by repeat (first | (with_reducible first | exact HB.out | apply below_alloc | apply pw_below_drewN | apply below_drew1) | exact HB.out)⟩⟩
    · rw [if_neg c5] at H
      have c5b0 : decide (60 < (l0.length : Int)) = false := decide_eq_false c5
      have c5b1 : decide (60 < l0.length) = false := decide_eq_false (by omega)
      clear c5
      (first | rw [c5b0] | (simp only [i64_w, i32_w]; rw [c5b0]) | skip)
      replace H := Option.bind_eq_some_iff.mp H
      obtain ⟨t347, A60, H⟩ := H
      replace H : (waystonelaw07_RuleFirst.j0 k l0 a1 a2 (!t347)) = some r := H
      have A6 := Aside0.mk A60
      clear A60
      have H' := Aside0.mk H
      clear H
      go_wp2_with (first | (go_at_call 22; (with_reducible refine (rule_All.calls k _ _ l0 t347 _ ?side1 ?side2 A6.out).mono ?_); (case side1 => repeat (first | exact (Kd.C_below HR0.out HB.out) | (with_reducible refine Kd.C_alloc ?_ _) | (with_reducible refine Kd.C_drewN ?_ _) | (with_reducible refine Kd.C_drew ?_))); (case side2 => exact HC0.out); rintro e w7 ⟨rfl, hb⟩; have n0_ := Aside0.mk (below_step (by repeat (first | (with_reducible first | exact HB.out | apply below_alloc | apply pw_below_drewN | apply below_drew1) | exact HB.out)) hb); clear HB; have HB := n0_; clear n0_; (try clear hb); (try clear hb2); (try clear hk); (try clear hi)))
      go_meet
      case rel => exact ⟨_, (!t347), (by first | rfl | (simp; done) | (simp [*]; done)), H', ⟨by first | omega | exact Nat.le_refl _⟩, ⟨by repeat (first | (with_reducible first | exact HB.out | apply below_alloc | apply pw_below_drewN | apply below_drew1) | exact HB.out)⟩⟩
  case rest =>
    clear HC4
    try clear p2
    try clear c5
    try clear c5b0
    try clear c5b1
    try clear c7
    obtain ⟨kq, x21_3, rfl, HA, HJ3, HB⟩ := hcut
    cases kq with
    | zero => exact absurd HA.out (by simp [waystonelaw07_RuleFirst.j0])
    | succ kj3 =>
      have H := HA.out
      clear HA
      simp only [waystonelaw07_RuleFirst.j0] at H
      by_cases c8 : x21_3 = true
      · subst c8
        have H1 : ((waystonelaw07_alive.f kj3).bind fun t348 => (some t348)) = some r := by rw [if_pos rfl] at H; exact H
        clear H
        have H := H1
        clear H1
        replace H := Option.bind_eq_some_iff.mp H
        obtain ⟨t348, A90, H⟩ := H
        replace H : (some t348) = some r := H
        have A9 := Aside0.mk A90
        clear A90
        obtain rfl := Option.some.inj H
        go_wp2_with (first | ((with_reducible refine gate_callee (f := 19) rfl ?_); refine goesL_ (some 22) rfl rfl Tryd.func19 (by kernel_rfl) rfl #[] rfl (by (try simp only [List.map_toArray, List.map_cons, List.map_nil]); first | done | rfl | (simp only [List.length_drop, List.length_take]; rfl)) ?_; (with_reducible refine (waystonelaw07_alive.calls kj3  t348 _ ?side1 A9.out).mono ?_); (case side1 => exact HLd.below (by repeat (first | (with_reducible first | exact HB.out | apply below_alloc | apply pw_below_drewN | apply below_drew1) | exact HB.out))); rintro e w10 ⟨rfl, hb⟩; refine ⟨_, rfl, ?_⟩; have n0_ := Aside0.mk (below_step (by repeat (first | (with_reducible first | exact HB.out | apply below_alloc | apply pw_below_drewN | apply below_drew1) | exact HB.out)) hb); clear HB; have HB := n0_; clear n0_; (try clear hb); (try clear hb2); (try clear hk); (try clear hi)))
        go_ret
        exact ⟨by first | rfl | (simp [errW_none, errW_some] <;> rfl) | (simp [*, errW_none, errW_some] <;> rfl), by repeat (first | (with_reducible first | exact HB.out | apply below_alloc | apply pw_below_drewN | apply below_drew1) | exact HB.out)⟩
      · replace c8 := Bool.eq_false_iff.mpr c8
        subst c8
        have H1 : ((rule_Match.f l0 a1 a2).bind fun bt349 => (waystonelaw07_RuleFirst.l0 kj3 l0 a1 a2 bt349.2.2.2.2.2.2.2 false 0 bt349.1 bt349.2.1 bt349.2.2.1 bt349.2.2.2.1 bt349.2.2.2.2.1 bt349.2.2.2.2.2.1 bt349.2.2.2.2.2.2.1)) = some r := by rw [if_neg (show ¬ (false = true) by decide)] at H; exact H
        clear H
        have H := H1
        clear H1
        replace H := Option.bind_eq_some_iff.mp H
        obtain ⟨⟨t349, t350, t351, t352, t353, t354, t355, t356⟩, A110, H⟩ := H
        replace H : (waystonelaw07_RuleFirst.l0 kj3 l0 a1 a2 t356 false 0 t349 t350 t351 t352 t353 t354 t355) = some r := H
        have A11 := Aside0.mk A110
        clear A110
        have H' := Aside0.mk H
        clear H
        go_wp2_with (first | ((with_reducible refine gate_callee (f := 23) rfl ?_); refine goesL_ (some 27) rfl rfl Tryd.func23 (by kernel_rfl) rfl #[.slice A0 l0.length c0, .int .i64 a1, .int .u32 a2] rfl (by (try simp only [List.map_toArray, List.map_cons, List.map_nil]); first | done | rfl | (simp only [List.length_drop, List.length_take]; rfl)) ?_; (with_reducible refine (rule_Match.calls _ _ l0 a1 a2 t349 t350 t351 t352 t353 t354 t355 t356 _ ?side1 ?side2 A11.out).mono ?_); (case side1 => repeat (first | exact (Kd.C_below HR0.out HB.out) | (with_reducible refine Kd.C_alloc ?_ _) | (with_reducible refine Kd.C_drewN ?_ _) | (with_reducible refine Kd.C_drew ?_))); (case side2 => exact HC0.out); rintro e w12 ⟨rfl, hb⟩; refine ⟨_, rfl, ?_⟩; have n0_ := Aside0.mk (below_step (by repeat (first | (with_reducible first | exact HB.out | apply below_alloc | apply pw_below_drewN | apply below_drew1) | exact HB.out)) hb); clear HB; have HB := n0_; clear n0_; (try clear hb); (try clear hb2); (try clear hk); (try clear hi)) | ((with_reducible refine gate_dst (N := 7) rfl ?_); refine box_event ?hg (N := 7) ?hd (cs := #[.int .i64 0, .int .i64 0, .int .i64 0, .int .i64 0, .int .u32 0, .int .u32 0, .int .i64 0]) (t := 45) ?hr ?_; (case hd => rfl); (case hg => rfl); (case hr => first | (go_simp; done) | (go_simp; rfl)); intro gb357 hg w13 hbox hb; have n0_ := Aside0.mk (below_step (by repeat (first | (with_reducible first | exact HB.out | apply below_alloc | apply pw_below_drewN | apply below_drew1) | exact HB.out)) hb); have n1_ := Aside0.mk (hbox); have n2_ := Aside0.mk ((by rw [hg]; exact (below_size (by repeat (first | (with_reducible first | exact HB.out | apply below_alloc | apply pw_below_drewN | apply below_drew1) | exact HB.out))) : w.heap.size ≤ gb357)); have n3_ := Aside0.mk ((by rw [hg]; exact (below_size (by repeat (first | (with_reducible first | exact HB.out | apply below_alloc | apply pw_below_drewN | apply below_drew1) | exact HB.out))) : w.heap.size ≤ gb357)); clear HB; have HB := n0_; have BK357 := n1_; have GW357 := n2_; have GE357 := n3_; clear n0_ n1_ n2_ n3_; clear hb hbox hg; have hcz14_0 : w13.cell? ⟨gb357, 0, none⟩ = some (.int .i64 0) := (blk_cell BK357.out 0).trans rfl; have hcz14_1 : w13.cell? ⟨gb357, 1, none⟩ = some (.int .i64 0) := (blk_cell BK357.out 1).trans rfl; have hcz14_2 : w13.cell? ⟨gb357, 2, none⟩ = some (.int .i64 0) := (blk_cell BK357.out 2).trans rfl; have hcz14_3 : w13.cell? ⟨gb357, 3, none⟩ = some (.int .i64 0) := (blk_cell BK357.out 3).trans rfl; have hcz14_4 : w13.cell? ⟨gb357, 4, none⟩ = some (.int .u32 0) := (blk_cell BK357.out 4).trans rfl; have hcz14_5 : w13.cell? ⟨gb357, 5, none⟩ = some (.int .u32 0) := (blk_cell BK357.out 5).trans rfl; have hcz14_6 : w13.cell? ⟨gb357, 6, none⟩ = some (.int .i64 0) := (blk_cell BK357.out 6).trans rfl; have hfz14_0 := blk_frozen BK357.out 0; have hfz14_1 := blk_frozen BK357.out 1; have hfz14_2 := blk_frozen BK357.out 2; have hfz14_3 := blk_frozen BK357.out 3; have hfz14_4 := blk_frozen BK357.out 4; have hfz14_5 := blk_frozen BK357.out 5; have hfz14_6 := blk_frozen BK357.out 6))
        go_loopg [9, 10] kj3 (fun kq v9 v10 w' => ∃ (x9_2 : Bool) (x10_2 : Int), v9 = .bool x9_2 ∧ v10 = .int .i64 x10_2 ∧ Aside0 (waystonelaw07_RuleFirst.l0 kq l0 a1 a2 t356 x9_2 x10_2 t349 t350 t351 t352 t353 t354 t355 = some r) ∧ Aside0 (kq ≤ kj3) ∧ Aside0 (w'.heap[gb357]? = some (.cells #[.int .i64 t349, .int .i64 t350, .int .i64 t351, .int .i64 t352, .int .u32 t353, .int .u32 t354, .int .i64 t355] 45 (0, 0))) ∧ Aside0 (Below w.heap.size w w'))
        case atStart => exact ⟨(false), (0), (by first | rfl | (simp; done) | (simp [*]; done)), (by first | rfl | (simp; done) | (simp [*]; done)), H', ⟨Nat.le_refl _⟩, ⟨by (with_reducible repeat (first | refine blk_drewN ?_ _ | refine blk_drew ?_ | refine blk_alloc ?_ _)); refine blk_put (cs := #[.int .i64 t349, .int .i64 t350, .int .i64 t351, .int .i64 t352, .int .u32 t353, .int .u32 t354, .int .i64 0]) ?_ 6 _ rfl; (with_reducible repeat (first | refine blk_drewN ?_ _ | refine blk_drew ?_ | refine blk_alloc ?_ _)); refine blk_put (cs := #[.int .i64 t349, .int .i64 t350, .int .i64 t351, .int .i64 t352, .int .u32 t353, .int .u32 0, .int .i64 0]) ?_ 5 _ rfl; (with_reducible repeat (first | refine blk_drewN ?_ _ | refine blk_drew ?_ | refine blk_alloc ?_ _)); refine blk_put (cs := #[.int .i64 t349, .int .i64 t350, .int .i64 t351, .int .i64 t352, .int .u32 0, .int .u32 0, .int .i64 0]) ?_ 4 _ rfl; (with_reducible repeat (first | refine blk_drewN ?_ _ | refine blk_drew ?_ | refine blk_alloc ?_ _)); refine blk_put (cs := #[.int .i64 t349, .int .i64 t350, .int .i64 t351, .int .i64 0, .int .u32 0, .int .u32 0, .int .i64 0]) ?_ 3 _ rfl; (with_reducible repeat (first | refine blk_drewN ?_ _ | refine blk_drew ?_ | refine blk_alloc ?_ _)); refine blk_put (cs := #[.int .i64 t349, .int .i64 t350, .int .i64 0, .int .i64 0, .int .u32 0, .int .u32 0, .int .i64 0]) ?_ 2 _ rfl; (with_reducible repeat (first | refine blk_drewN ?_ _ | refine blk_drew ?_ | refine blk_alloc ?_ _)); refine blk_put (cs := #[.int .i64 t349, .int .i64 0, .int .i64 0, .int .i64 0, .int .u32 0, .int .u32 0, .int .i64 0]) ?_ 1 _ rfl; (with_reducible repeat (first | refine blk_drewN ?_ _ | refine blk_drew ?_ | refine blk_alloc ?_ _)); refine blk_put (cs := #[.int .i64 0, .int .i64 0, .int .i64 0, .int .i64 0, .int .u32 0, .int .u32 0, .int .i64 0]) ?_ 0 _ rfl; (with_reducible repeat (first | refine blk_drewN ?_ _ | refine blk_drew ?_ | refine blk_alloc ?_ _)); exact BK357.out⟩, ⟨by repeat (first | (with_reducible first | exact HB.out | apply below_alloc | apply pw_below_drewN | apply below_drew1 | refine below_set ?_ GE357.out) | exact HB.out)⟩⟩
        case round =>
          clear H'
          try clear c1
          try clear c2
          try clear p2
          try clear c5
          try clear c5b0
          try clear c5b1
          try clear c7
          try clear c8
          try clear hcz14_0
          try clear hcz14_1
          try clear hcz14_2
          try clear hcz14_3
          try clear hcz14_4
          try clear hcz14_5
          try clear hcz14_6
          try clear hfz14_0
          try clear hfz14_1
          try clear hfz14_2
          try clear hfz14_3
          try clear hfz14_4
          try clear hfz14_5
          try clear hfz14_6
          try clear p2
          obtain ⟨x9_2, x10_2, rfl, rfl, HA, HK2, BK357, HB⟩ := hrel
          cases gk with
          | zero => exact absurd HA.out (by simp [waystonelaw07_RuleFirst.l0])
          | succ k2 =>
            have H := HA.out
            clear HA
            simp only [waystonelaw07_RuleFirst.l0] at H
            by_cases c15 : x10_2 < (l0.length : Int)
            · rw [if_pos c15] at H
              have c15b0 : decide (x10_2 < (l0.length : Int)) = true := decide_eq_true c15
              clear c15
              by_cases c16 : 0 ≤ x10_2
              · rw [if_pos c16] at H
                have c16b0 : decide (0 ≤ x10_2) = true := decide_eq_true c16
                clear c16
                have HC17 := Aside0.mk H
                clear H
                have p368 : 0 ≤ (x10_2 : Int) := of_decide_eq_true (by first | (with_reducible assumption) | assumption)
                have q368 : x10_2 < (l0.length : Int) := of_decide_eq_true (by first | (with_reducible assumption) | assumption)
                obtain ⟨ad368, e368, hx368_0, hx368_1, hx368_2, hx368_3, hx368_4, hx368_5, hx368_6⟩ := at_T45 HR0.out x10_2 p368 q368
                cases e368
                replace hx368_0 := (HB.out.cell (World.block_lt_of_cell? w _ hx368_0)).trans hx368_0
                replace hx368_1 := (HB.out.cell (World.block_lt_of_cell? w _ hx368_1)).trans hx368_1
                replace hx368_2 := (HB.out.cell (World.block_lt_of_cell? w _ hx368_2)).trans hx368_2
                replace hx368_3 := (HB.out.cell (World.block_lt_of_cell? w _ hx368_3)).trans hx368_3
                replace hx368_4 := (HB.out.cell (World.block_lt_of_cell? w _ hx368_4)).trans hx368_4
                replace hx368_5 := (HB.out.cell (World.block_lt_of_cell? w _ hx368_5)).trans hx368_5
                replace hx368_6 := (HB.out.cell (World.block_lt_of_cell? w _ hx368_6)).trans hx368_6
                replace p368 := eq_true p368
                replace q368 := eq_true q368
                go_upto_region 9 with (first | ((with_reducible refine gate_dst (N := 11) rfl ?_); refine box_event ?hg (N := 11) ?hd (cs := #[.int .i64 0, .int .i64 0, .int .i64 0, .int .i64 0, .int .u32 0, .int .u32 0, .int .i64 0]) (t := 45) ?hr ?_; (case hd => rfl); (case hg => rfl); (case hr => first | (go_simp; done) | (go_simp; rfl)); intro gb369 hg w18 hbox hb; have n0_ := Aside0.mk (blk_below (g := gb357) (o := .cells #[.int .i64 t349, .int .i64 t350, .int .i64 t351, .int .i64 t352, .int .u32 t353, .int .u32 t354, .int .i64 t355] 45 (0, 0)) (by (with_reducible repeat (first | refine blk_drewN ?_ _ | refine blk_drew ?_ | refine blk_alloc ?_ _)); exact BK357.out) hb); have n1_ := Aside0.mk (below_step (by repeat (first | (with_reducible first | exact HB.out | apply below_alloc | apply pw_below_drewN | apply below_drew1 | refine below_set ?_ GE357.out) | exact HB.out)) hb); have n2_ := Aside0.mk (hbox); have n3_ := Aside0.mk ((by rw [hg]; exact (below_size (by repeat (first | (with_reducible first | exact HB.out | apply below_alloc | apply pw_below_drewN | apply below_drew1 | refine below_set ?_ GE357.out) | exact HB.out))) : w.heap.size ≤ gb369)); have n4_ := Aside0.mk ((by rw [hg]; exact (below_size (by repeat (first | (with_reducible first | exact HB.out | apply below_alloc | apply pw_below_drewN | apply below_drew1 | refine below_set ?_ GE357.out) | exact HB.out))) : w.heap.size ≤ gb369)); have n5_ := Aside0.mk ((by rw [hg]; exact Nat.ne_of_lt (blk_lt (g := gb357) (o := .cells #[.int .i64 t349, .int .i64 t350, .int .i64 t351, .int .i64 t352, .int .u32 t353, .int .u32 t354, .int .i64 t355] 45 (0, 0)) (by (with_reducible repeat (first | refine blk_drewN ?_ _ | refine blk_drew ?_ | refine blk_alloc ?_ _)); exact BK357.out)) : gb357 ≠ gb369)); have n6_ := Aside0.mk ((by rw [hg]; exact Nat.ne_of_gt (blk_lt (g := gb357) (o := .cells #[.int .i64 t349, .int .i64 t350, .int .i64 t351, .int .i64 t352, .int .u32 t353, .int .u32 t354, .int .i64 t355] 45 (0, 0)) (by (with_reducible repeat (first | refine blk_drewN ?_ _ | refine blk_drew ?_ | refine blk_alloc ?_ _)); exact BK357.out)) : gb369 ≠ gb357)); clear BK357; clear HB; have BK357 := n0_; have HB := n1_; have BK369 := n2_; have GW369 := n3_; have GE369 := n4_; have NB357_369 := n5_; have NB369_357 := n6_; clear n0_ n1_ n2_ n3_ n4_ n5_ n6_; clear hb hbox hg; have hnb19 := NB369_357.out; have hnc19 := NB357_369.out; have hcz20_0 : w18.cell? ⟨gb369, 0, none⟩ = some (.int .i64 0) := (blk_cell BK369.out 0).trans rfl; have hcz20_1 : w18.cell? ⟨gb369, 1, none⟩ = some (.int .i64 0) := (blk_cell BK369.out 1).trans rfl; have hcz20_2 : w18.cell? ⟨gb369, 2, none⟩ = some (.int .i64 0) := (blk_cell BK369.out 2).trans rfl; have hcz20_3 : w18.cell? ⟨gb369, 3, none⟩ = some (.int .i64 0) := (blk_cell BK369.out 3).trans rfl; have hcz20_4 : w18.cell? ⟨gb369, 4, none⟩ = some (.int .u32 0) := (blk_cell BK369.out 4).trans rfl; have hcz20_5 : w18.cell? ⟨gb369, 5, none⟩ = some (.int .u32 0) := (blk_cell BK369.out 5).trans rfl; have hcz20_6 : w18.cell? ⟨gb369, 6, none⟩ = some (.int .i64 0) := (blk_cell BK369.out 6).trans rfl; have hfz20_0 := blk_frozen BK369.out 0; have hfz20_1 := blk_frozen BK369.out 1; have hfz20_2 := blk_frozen BK369.out 2; have hfz20_3 := blk_frozen BK369.out 3; have hfz20_4 := blk_frozen BK369.out 4; have hfz20_5 := blk_frozen BK369.out 5; have hfz20_6 := blk_frozen BK369.out 6))
                (try simp only [Act.put, List.setIfInBounds_toArray, List.set_cons_zero, List.set_cons_succ])
                go_cut [67] (fun v67 wc => ∃ (kq : Nat) (x67_16 : Bool), v67 = .bool x67_16 ∧ Aside0 (waystonelaw07_RuleFirst.j2 kq l0 a1 a2 t356 x9_2 x10_2 x67_16 t349 t350 t351 t352 t353 t354 t355 ((rd_T45 l0 x10_2).f0) ((rd_T45 l0 x10_2).f1) ((rd_T45 l0 x10_2).f2) ((rd_T45 l0 x10_2).f3) ((rd_T45 l0 x10_2).f4.f0) ((rd_T45 l0 x10_2).f4.f1) ((rd_T45 l0 x10_2).f5) = some r) ∧ Aside0 (kq ≤ k2) ∧ Aside0 (wc.heap[gb357]? = some (.cells #[.int .i64 t349, .int .i64 t350, .int .i64 t351, .int .i64 t352, .int .u32 t353, .int .u32 t354, .int .i64 t355] 45 (0, 0))) ∧ Aside0 (wc.heap[gb369]? = some (.cells #[.int .i64 ((rd_T45 l0 x10_2).f0), .int .i64 ((rd_T45 l0 x10_2).f1), .int .i64 ((rd_T45 l0 x10_2).f2), .int .i64 ((rd_T45 l0 x10_2).f3), .int .u32 ((rd_T45 l0 x10_2).f4.f0), .int .u32 ((rd_T45 l0 x10_2).f4.f1), .int .i64 ((rd_T45 l0 x10_2).f5)] 45 (0, 0))) ∧ Aside0 (Below w.heap.size w wc))
                case first =>
                  have H := HC17.out
                  clear HC17
                  by_cases c21 : ((rd_T45 l0 x10_2).f1) = a1
                  · rw [if_pos c21] at H
                    have c21b0 : (((rd_T45 l0 x10_2).f1) == a1) = true := beq_iff_eq.mpr c21
                    have c21b1 : (((rd_T45 l0 x10_2).f1) != a1) = false := bne_eq_false_iff_eq.mpr c21
                    clear c21
                    (first | rw [c21b0] | (simp only [i64_w, i32_w]; rw [c21b0]) | skip)
                    by_cases c22 : a2 < ((rd_T45 l0 x10_2).f4.f0)
                    · rw [if_pos c22] at H
                      have c22b0 : decide (a2 < ((rd_T45 l0 x10_2).f4.f0)) = true := decide_eq_true c22
                      clear c22
                      have H' := Aside0.mk H
                      clear H
                      have hnb23 := NB369_357.out
                      have hnc23 := NB357_369.out
                      have hcz24_0 : w18.cell? ⟨gb369, 0, none⟩ = some (.int .i64 0) := (blk_cell BK369.out 0).trans rfl
                      have hcz24_1 : w18.cell? ⟨gb369, 1, none⟩ = some (.int .i64 0) := (blk_cell BK369.out 1).trans rfl
                      have hcz24_2 : w18.cell? ⟨gb369, 2, none⟩ = some (.int .i64 0) := (blk_cell BK369.out 2).trans rfl
                      have hcz24_3 : w18.cell? ⟨gb369, 3, none⟩ = some (.int .i64 0) := (blk_cell BK369.out 3).trans rfl
                      have hcz24_4 : w18.cell? ⟨gb369, 4, none⟩ = some (.int .u32 0) := (blk_cell BK369.out 4).trans rfl
                      have hcz24_5 : w18.cell? ⟨gb369, 5, none⟩ = some (.int .u32 0) := (blk_cell BK369.out 5).trans rfl
                      have hcz24_6 : w18.cell? ⟨gb369, 6, none⟩ = some (.int .i64 0) := (blk_cell BK369.out 6).trans rfl
                      have hfz24_0 := blk_frozen BK369.out 0
                      have hfz24_1 := blk_frozen BK369.out 1
                      have hfz24_2 := blk_frozen BK369.out 2
                      have hfz24_3 := blk_frozen BK369.out 3
                      have hfz24_4 := blk_frozen BK369.out 4
                      have hfz24_5 := blk_frozen BK369.out 5
                      have hfz24_6 := blk_frozen BK369.out 6
                      go_wp2
                      go_meet
                      case rel => exact ⟨_, (true), (by first | rfl | (simp; done) | (simp [*]; done)), H', ⟨by have := HJ3.out; have := HK2.out; first | omega | exact Nat.le_refl _⟩, ⟨by (with_reducible repeat (first | refine blk_drewN ?_ _ | refine blk_drew ?_ | refine blk_alloc ?_ _)); refine blk_far ?_ NB357_369.out _; (with_reducible repeat (first | refine blk_drewN ?_ _ | refine blk_drew ?_ | refine blk_alloc ?_ _)); refine blk_far ?_ NB357_369.out _; (with_reducible repeat (first | refine blk_drewN ?_ _ | refine blk_drew ?_ | refine blk_alloc ?_ _)); refine blk_far ?_ NB357_369.out _; (with_reducible repeat (first | refine blk_drewN ?_ _ | refine blk_drew ?_ | refine blk_alloc ?_ _)); refine blk_far ?_ NB357_369.out _; (with_reducible repeat (first | refine blk_drewN ?_ _ | refine blk_drew ?_ | refine blk_alloc ?_ _)); refine blk_far ?_ NB357_369.out _; (with_reducible repeat (first | refine blk_drewN ?_ _ | refine blk_drew ?_ | refine blk_alloc ?_ _)); refine blk_far ?_ NB357_369.out _; (with_reducible repeat (first | refine blk_drewN ?_ _ | refine blk_drew ?_ | refine blk_alloc ?_ _)); refine blk_far ?_ NB357_369.out _; (with_reducible repeat (first | refine blk_drewN ?_ _ | refine blk_drew ?_ | refine blk_alloc ?_ _)); exact BK357.out⟩, ⟨by (with_reducible repeat (first | refine blk_drewN ?_ _ | refine blk_drew ?_ | refine blk_alloc ?_ _)); refine blk_put (cs := #[.int .i64 ((rd_T45 l0 x10_2).f0), .int .i64 ((rd_T45 l0 x10_2).f1), .int .i64 ((rd_T45 l0 x10_2).f2), .int .i64 ((rd_T45 l0 x10_2).f3), .int .u32 ((rd_T45 l0 x10_2).f4.f0), .int .u32 ((rd_T45 l0 x10_2).f4.f1), .int .i64 0]) ?_ 6 _ rfl; (with_reducible repeat (first | refine blk_drewN ?_ _ | refine blk_drew ?_ | refine blk_alloc ?_ _)); refine blk_put (cs := #[.int .i64 ((rd_T45 l0 x10_2).f0), .int .i64 ((rd_T45 l0 x10_2).f1), .int .i64 ((rd_T45 l0 x10_2).f2), .int .i64 ((rd_T45 l0 x10_2).f3), .int .u32 ((rd_T45 l0 x10_2).f4.f0), .int .u32 0, .int .i64 0]) ?_ 5 _ rfl; (with_reducible repeat (first | refine blk_drewN ?_ _ | refine blk_drew ?_ | refine blk_alloc ?_ _)); refine blk_put (cs := #[.int .i64 ((rd_T45 l0 x10_2).f0), .int .i64 ((rd_T45 l0 x10_2).f1), .int .i64 ((rd_T45 l0 x10_2).f2), .int .i64 ((rd_T45 l0 x10_2).f3), .int .u32 0, .int .u32 0, .int .i64 0]) ?_ 4 _ rfl; (with_reducible repeat (first | refine blk_drewN ?_ _ | refine blk_drew ?_ | refine blk_alloc ?_ _)); refine blk_put (cs := #[.int .i64 ((rd_T45 l0 x10_2).f0), .int .i64 ((rd_T45 l0 x10_2).f1), .int .i64 ((rd_T45 l0 x10_2).f2), .int .i64 0, .int .u32 0, .int .u32 0, .int .i64 0]) ?_ 3 _ rfl; (with_reducible repeat (first | refine blk_drewN ?_ _ | refine blk_drew ?_ | refine blk_alloc ?_ _)); refine blk_put (cs := #[.int .i64 ((rd_T45 l0 x10_2).f0), .int .i64 ((rd_T45 l0 x10_2).f1), .int .i64 0, .int .i64 0, .int .u32 0, .int .u32 0, .int .i64 0]) ?_ 2 _ rfl; (with_reducible repeat (first | refine blk_drewN ?_ _ | refine blk_drew ?_ | refine blk_alloc ?_ _)); refine blk_put (cs := #[.int .i64 ((rd_T45 l0 x10_2).f0), .int .i64 0, .int .i64 0, .int .i64 0, .int .u32 0, .int .u32 0, .int .i64 0]) ?_ 1 _ rfl; (with_reducible repeat (first | refine blk_drewN ?_ _ | refine blk_drew ?_ | refine blk_alloc ?_ _)); refine blk_put (cs := #[.int .i64 0, .int .i64 0, .int .i64 0, .int .i64 0, .int .u32 0, .int .u32 0, .int .i64 0]) ?_ 0 _ rfl; (with_reducible repeat (first | refine blk_drewN ?_ _ | refine blk_drew ?_ | refine blk_alloc ?_ _)); exact BK369.out⟩, ⟨by repeat (first | (with_reducible first | exact HB.out | apply below_alloc | apply pw_below_drewN | apply below_drew1 | refine below_set ?_ GE357.out | refine below_set ?_ GE369.out) | exact HB.out)⟩⟩
                    · rw [if_neg c22] at H
                      have c22b0 : decide (a2 < ((rd_T45 l0 x10_2).f4.f0)) = false := decide_eq_false c22
                      clear c22
                      by_cases c25 : a2 > ((rd_T45 l0 x10_2).f4.f1)
                      · rw [if_pos c25] at H
                        have c25b0 : decide (((rd_T45 l0 x10_2).f4.f1) < a2) = true := decide_eq_true c25
                        clear c25
                        have H' := Aside0.mk H
                        clear H
                        have hnb26 := NB369_357.out
                        have hnc26 := NB357_369.out
                        have hcz27_0 : w18.cell? ⟨gb369, 0, none⟩ = some (.int .i64 0) := (blk_cell BK369.out 0).trans rfl
                        have hcz27_1 : w18.cell? ⟨gb369, 1, none⟩ = some (.int .i64 0) := (blk_cell BK369.out 1).trans rfl
                        have hcz27_2 : w18.cell? ⟨gb369, 2, none⟩ = some (.int .i64 0) := (blk_cell BK369.out 2).trans rfl
                        have hcz27_3 : w18.cell? ⟨gb369, 3, none⟩ = some (.int .i64 0) := (blk_cell BK369.out 3).trans rfl
                        have hcz27_4 : w18.cell? ⟨gb369, 4, none⟩ = some (.int .u32 0) := (blk_cell BK369.out 4).trans rfl
                        have hcz27_5 : w18.cell? ⟨gb369, 5, none⟩ = some (.int .u32 0) := (blk_cell BK369.out 5).trans rfl
                        have hcz27_6 : w18.cell? ⟨gb369, 6, none⟩ = some (.int .i64 0) := (blk_cell BK369.out 6).trans rfl
                        have hfz27_0 := blk_frozen BK369.out 0
                        have hfz27_1 := blk_frozen BK369.out 1
                        have hfz27_2 := blk_frozen BK369.out 2
                        have hfz27_3 := blk_frozen BK369.out 3
                        have hfz27_4 := blk_frozen BK369.out 4
                        have hfz27_5 := blk_frozen BK369.out 5
                        have hfz27_6 := blk_frozen BK369.out 6
                        go_wp2
                        go_meet
                        case rel => exact ⟨_, (true), (by first | rfl | (simp; done) | (simp [*]; done)), H', ⟨by have := HJ3.out; have := HK2.out; first | omega | exact Nat.le_refl _⟩, ⟨by (with_reducible repeat (first | refine blk_drewN ?_ _ | refine blk_drew ?_ | refine blk_alloc ?_ _)); refine blk_far ?_ NB357_369.out _; (with_reducible repeat (first | refine blk_drewN ?_ _ | refine blk_drew ?_ | refine blk_alloc ?_ _)); refine blk_far ?_ NB357_369.out _; (with_reducible repeat (first | refine blk_drewN ?_ _ | refine blk_drew ?_ | refine blk_alloc ?_ _)); refine blk_far ?_ NB357_369.out _; (with_reducible repeat (first | refine blk_drewN ?_ _ | refine blk_drew ?_ | refine blk_alloc ?_ _)); refine blk_far ?_ NB357_369.out _; (with_reducible repeat (first | refine blk_drewN ?_ _ | refine blk_drew ?_ | refine blk_alloc ?_ _)); refine blk_far ?_ NB357_369.out _; (with_reducible repeat (first | refine blk_drewN ?_ _ | refine blk_drew ?_ | refine blk_alloc ?_ _)); refine blk_far ?_ NB357_369.out _; (with_reducible repeat (first | refine blk_drewN ?_ _ | refine blk_drew ?_ | refine blk_alloc ?_ _)); refine blk_far ?_ NB357_369.out _; (with_reducible repeat (first | refine blk_drewN ?_ _ | refine blk_drew ?_ | refine blk_alloc ?_ _)); exact BK357.out⟩, ⟨by (with_reducible repeat (first | refine blk_drewN ?_ _ | refine blk_drew ?_ | refine blk_alloc ?_ _)); refine blk_put (cs := #[.int .i64 ((rd_T45 l0 x10_2).f0), .int .i64 ((rd_T45 l0 x10_2).f1), .int .i64 ((rd_T45 l0 x10_2).f2), .int .i64 ((rd_T45 l0 x10_2).f3), .int .u32 ((rd_T45 l0 x10_2).f4.f0), .int .u32 ((rd_T45 l0 x10_2).f4.f1), .int .i64 0]) ?_ 6 _ rfl; (with_reducible repeat (first | refine blk_drewN ?_ _ | refine blk_drew ?_ | refine blk_alloc ?_ _)); refine blk_put (cs := #[.int .i64 ((rd_T45 l0 x10_2).f0), .int .i64 ((rd_T45 l0 x10_2).f1), .int .i64 ((rd_T45 l0 x10_2).f2), .int .i64 ((rd_T45 l0 x10_2).f3), .int .u32 ((rd_T45 l0 x10_2).f4.f0), .int .u32 0, .int .i64 0]) ?_ 5 _ rfl; (with_reducible repeat (first | refine blk_drewN ?_ _ | refine blk_drew ?_ | refine blk_alloc ?_ _)); refine blk_put (cs := #[.int .i64 ((rd_T45 l0 x10_2).f0), .int .i64 ((rd_T45 l0 x10_2).f1), .int .i64 ((rd_T45 l0 x10_2).f2), .int .i64 ((rd_T45 l0 x10_2).f3), .int .u32 0, .int .u32 0, .int .i64 0]) ?_ 4 _ rfl; (with_reducible repeat (first | refine blk_drewN ?_ _ | refine blk_drew ?_ | refine blk_alloc ?_ _)); refine blk_put (cs := #[.int .i64 ((rd_T45 l0 x10_2).f0), .int .i64 ((rd_T45 l0 x10_2).f1), .int .i64 ((rd_T45 l0 x10_2).f2), .int .i64 0, .int .u32 0, .int .u32 0, .int .i64 0]) ?_ 3 _ rfl; (with_reducible repeat (first | refine blk_drewN ?_ _ | refine blk_drew ?_ | refine blk_alloc ?_ _)); refine blk_put (cs := #[.int .i64 ((rd_T45 l0 x10_2).f0), .int .i64 ((rd_T45 l0 x10_2).f1), .int .i64 0, .int .i64 0, .int .u32 0, .int .u32 0, .int .i64 0]) ?_ 2 _ rfl; (with_reducible repeat (first | refine blk_drewN ?_ _ | refine blk_drew ?_ | refine blk_alloc ?_ _)); refine blk_put (cs := #[.int .i64 ((rd_T45 l0 x10_2).f0), .int .i64 0, .int .i64 0, .int .i64 0, .int .u32 0, .int .u32 0, .int .i64 0]) ?_ 1 _ rfl; (with_reducible repeat (first | refine blk_drewN ?_ _ | refine blk_drew ?_ | refine blk_alloc ?_ _)); refine blk_put (cs := #[.int .i64 0, .int .i64 0, .int .i64 0, .int .i64 0, .int .u32 0, .int .u32 0, .int .i64 0]) ?_ 0 _ rfl; (with_reducible repeat (first | refine blk_drewN ?_ _ | refine blk_drew ?_ | refine blk_alloc ?_ _)); exact BK369.out⟩, ⟨by repeat (first | (with_reducible first | exact HB.out | apply below_alloc | apply pw_below_drewN | apply below_drew1 | refine below_set ?_ GE357.out | refine below_set ?_ GE369.out) | exact HB.out)⟩⟩
                      · rw [if_neg c25] at H
                        have c25b0 : decide (((rd_T45 l0 x10_2).f4.f1) < a2) = false := decide_eq_false c25
                        clear c25
                        by_cases c28 : ((rd_T45 l0 x10_2).f3) = 2
                        · rw [if_pos c28] at H
                          have c28b0 : (((rd_T45 l0 x10_2).f3) == 2) = true := beq_iff_eq.mpr c28
                          have c28b1 : (((rd_T45 l0 x10_2).f3) != 2) = false := bne_eq_false_iff_eq.mpr c28
                          clear c28
                          have H' := Aside0.mk H
                          clear H
                          have hnb29 := NB369_357.out
                          have hnc29 := NB357_369.out
                          have hcz30_0 : w18.cell? ⟨gb369, 0, none⟩ = some (.int .i64 0) := (blk_cell BK369.out 0).trans rfl
                          have hcz30_1 : w18.cell? ⟨gb369, 1, none⟩ = some (.int .i64 0) := (blk_cell BK369.out 1).trans rfl
                          have hcz30_2 : w18.cell? ⟨gb369, 2, none⟩ = some (.int .i64 0) := (blk_cell BK369.out 2).trans rfl
                          have hcz30_3 : w18.cell? ⟨gb369, 3, none⟩ = some (.int .i64 0) := (blk_cell BK369.out 3).trans rfl
                          have hcz30_4 : w18.cell? ⟨gb369, 4, none⟩ = some (.int .u32 0) := (blk_cell BK369.out 4).trans rfl
                          have hcz30_5 : w18.cell? ⟨gb369, 5, none⟩ = some (.int .u32 0) := (blk_cell BK369.out 5).trans rfl
                          have hcz30_6 : w18.cell? ⟨gb369, 6, none⟩ = some (.int .i64 0) := (blk_cell BK369.out 6).trans rfl
                          have hfz30_0 := blk_frozen BK369.out 0
                          have hfz30_1 := blk_frozen BK369.out 1
                          have hfz30_2 := blk_frozen BK369.out 2
                          have hfz30_3 := blk_frozen BK369.out 3
                          have hfz30_4 := blk_frozen BK369.out 4
                          have hfz30_5 := blk_frozen BK369.out 5
                          have hfz30_6 := blk_frozen BK369.out 6
                          go_wp2
                          go_meet
                          case rel => exact ⟨_, (true), (by first | rfl | (simp; done) | (simp [*]; done)), H', ⟨by have := HJ3.out; have := HK2.out; first | omega | exact Nat.le_refl _⟩, ⟨by (with_reducible repeat (first | refine blk_drewN ?_ _ | refine blk_drew ?_ | refine blk_alloc ?_ _)); refine blk_far ?_ NB357_369.out _; (with_reducible repeat (first | refine blk_drewN ?_ _ | refine blk_drew ?_ | refine blk_alloc ?_ _)); refine blk_far ?_ NB357_369.out _; (with_reducible repeat (first | refine blk_drewN ?_ _ | refine blk_drew ?_ | refine blk_alloc ?_ _)); refine blk_far ?_ NB357_369.out _; (with_reducible repeat (first | refine blk_drewN ?_ _ | refine blk_drew ?_ | refine blk_alloc ?_ _)); refine blk_far ?_ NB357_369.out _; (with_reducible repeat (first | refine blk_drewN ?_ _ | refine blk_drew ?_ | refine blk_alloc ?_ _)); refine blk_far ?_ NB357_369.out _; (with_reducible repeat (first | refine blk_drewN ?_ _ | refine blk_drew ?_ | refine blk_alloc ?_ _)); refine blk_far ?_ NB357_369.out _; (with_reducible repeat (first | refine blk_drewN ?_ _ | refine blk_drew ?_ | refine blk_alloc ?_ _)); refine blk_far ?_ NB357_369.out _; (with_reducible repeat (first | refine blk_drewN ?_ _ | refine blk_drew ?_ | refine blk_alloc ?_ _)); exact BK357.out⟩, ⟨by (with_reducible repeat (first | refine blk_drewN ?_ _ | refine blk_drew ?_ | refine blk_alloc ?_ _)); refine blk_put (cs := #[.int .i64 ((rd_T45 l0 x10_2).f0), .int .i64 ((rd_T45 l0 x10_2).f1), .int .i64 ((rd_T45 l0 x10_2).f2), .int .i64 ((rd_T45 l0 x10_2).f3), .int .u32 ((rd_T45 l0 x10_2).f4.f0), .int .u32 ((rd_T45 l0 x10_2).f4.f1), .int .i64 0]) ?_ 6 _ rfl; (with_reducible repeat (first | refine blk_drewN ?_ _ | refine blk_drew ?_ | refine blk_alloc ?_ _)); refine blk_put (cs := #[.int .i64 ((rd_T45 l0 x10_2).f0), .int .i64 ((rd_T45 l0 x10_2).f1), .int .i64 ((rd_T45 l0 x10_2).f2), .int .i64 ((rd_T45 l0 x10_2).f3), .int .u32 ((rd_T45 l0 x10_2).f4.f0), .int .u32 0, .int .i64 0]) ?_ 5 _ rfl; (with_reducible repeat (first | refine blk_drewN ?_ _ | refine blk_drew ?_ | refine blk_alloc ?_ _)); refine blk_put (cs := #[.int .i64 ((rd_T45 l0 x10_2).f0), .int .i64 ((rd_T45 l0 x10_2).f1), .int .i64 ((rd_T45 l0 x10_2).f2), .int .i64 ((rd_T45 l0 x10_2).f3), .int .u32 0, .int .u32 0, .int .i64 0]) ?_ 4 _ rfl; (with_reducible repeat (first | refine blk_drewN ?_ _ | refine blk_drew ?_ | refine blk_alloc ?_ _)); refine blk_put (cs := #[.int .i64 ((rd_T45 l0 x10_2).f0), .int .i64 ((rd_T45 l0 x10_2).f1), .int .i64 ((rd_T45 l0 x10_2).f2), .int .i64 0, .int .u32 0, .int .u32 0, .int .i64 0]) ?_ 3 _ rfl; (with_reducible repeat (first | refine blk_drewN ?_ _ | refine blk_drew ?_ | refine blk_alloc ?_ _)); refine blk_put (cs := #[.int .i64 ((rd_T45 l0 x10_2).f0), .int .i64 ((rd_T45 l0 x10_2).f1), .int .i64 0, .int .i64 0, .int .u32 0, .int .u32 0, .int .i64 0]) ?_ 2 _ rfl; (with_reducible repeat (first | refine blk_drewN ?_ _ | refine blk_drew ?_ | refine blk_alloc ?_ _)); refine blk_put (cs := #[.int .i64 ((rd_T45 l0 x10_2).f0), .int .i64 0, .int .i64 0, .int .i64 0, .int .u32 0, .int .u32 0, .int .i64 0]) ?_ 1 _ rfl; (with_reducible repeat (first | refine blk_drewN ?_ _ | refine blk_drew ?_ | refine blk_alloc ?_ _)); refine blk_put (cs := #[.int .i64 0, .int .i64 0, .int .i64 0, .int .i64 0, .int .u32 0, .int .u32 0, .int .i64 0]) ?_ 0 _ rfl; (with_reducible repeat (first | refine blk_drewN ?_ _ | refine blk_drew ?_ | refine blk_alloc ?_ _)); exact BK369.out⟩, ⟨by repeat (first | (with_reducible first | exact HB.out | apply below_alloc | apply pw_below_drewN | apply below_drew1 | refine below_set ?_ GE357.out | refine below_set ?_ GE369.out) | exact HB.out)⟩⟩
                        · rw [if_neg c28] at H
                          have c28b0 : (((rd_T45 l0 x10_2).f3) == 2) = false := beq_eq_false_iff_ne.mpr c28
                          have c28b1 : (((rd_T45 l0 x10_2).f3) != 2) = true := bne_iff_ne.mpr c28
                          have H' := Aside0.mk H
                          clear H
                          have hnb31 := NB369_357.out
                          have hnc31 := NB357_369.out
                          have hcz32_0 : w18.cell? ⟨gb369, 0, none⟩ = some (.int .i64 0) := (blk_cell BK369.out 0).trans rfl
                          have hcz32_1 : w18.cell? ⟨gb369, 1, none⟩ = some (.int .i64 0) := (blk_cell BK369.out 1).trans rfl
                          have hcz32_2 : w18.cell? ⟨gb369, 2, none⟩ = some (.int .i64 0) := (blk_cell BK369.out 2).trans rfl
                          have hcz32_3 : w18.cell? ⟨gb369, 3, none⟩ = some (.int .i64 0) := (blk_cell BK369.out 3).trans rfl
                          have hcz32_4 : w18.cell? ⟨gb369, 4, none⟩ = some (.int .u32 0) := (blk_cell BK369.out 4).trans rfl
                          have hcz32_5 : w18.cell? ⟨gb369, 5, none⟩ = some (.int .u32 0) := (blk_cell BK369.out 5).trans rfl
                          have hcz32_6 : w18.cell? ⟨gb369, 6, none⟩ = some (.int .i64 0) := (blk_cell BK369.out 6).trans rfl
                          have hfz32_0 := blk_frozen BK369.out 0
                          have hfz32_1 := blk_frozen BK369.out 1
                          have hfz32_2 := blk_frozen BK369.out 2
                          have hfz32_3 := blk_frozen BK369.out 3
                          have hfz32_4 := blk_frozen BK369.out 4
                          have hfz32_5 := blk_frozen BK369.out 5
                          have hfz32_6 := blk_frozen BK369.out 6
                          go_wp2
                          go_meet
                          case rel => exact ⟨_, ((((rd_T45 l0 x10_2).f3) == 3)), (by first | rfl | (simp; done) | (simp [*]; done)), H', ⟨by have := HJ3.out; have := HK2.out; first | omega | exact Nat.le_refl _⟩, ⟨by (with_reducible repeat (first | refine blk_drewN ?_ _ | refine blk_drew ?_ | refine blk_alloc ?_ _)); refine blk_far ?_ NB357_369.out _; (with_reducible repeat (first | refine blk_drewN ?_ _ | refine blk_drew ?_ | refine blk_alloc ?_ _)); refine blk_far ?_ NB357_369.out _; (with_reducible repeat (first | refine blk_drewN ?_ _ | refine blk_drew ?_ | refine blk_alloc ?_ _)); refine blk_far ?_ NB357_369.out _; (with_reducible repeat (first | refine blk_drewN ?_ _ | refine blk_drew ?_ | refine blk_alloc ?_ _)); refine blk_far ?_ NB357_369.out _; (with_reducible repeat (first | refine blk_drewN ?_ _ | refine blk_drew ?_ | refine blk_alloc ?_ _)); refine blk_far ?_ NB357_369.out _; (with_reducible repeat (first | refine blk_drewN ?_ _ | refine blk_drew ?_ | refine blk_alloc ?_ _)); refine blk_far ?_ NB357_369.out _; (with_reducible repeat (first | refine blk_drewN ?_ _ | refine blk_drew ?_ | refine blk_alloc ?_ _)); refine blk_far ?_ NB357_369.out _; (with_reducible repeat (first | refine blk_drewN ?_ _ | refine blk_drew ?_ | refine blk_alloc ?_ _)); exact BK357.out⟩, ⟨by (with_reducible repeat (first | refine blk_drewN ?_ _ | refine blk_drew ?_ | refine blk_alloc ?_ _)); refine blk_put (cs := #[.int .i64 ((rd_T45 l0 x10_2).f0), .int .i64 ((rd_T45 l0 x10_2).f1), .int .i64 ((rd_T45 l0 x10_2).f2), .int .i64 ((rd_T45 l0 x10_2).f3), .int .u32 ((rd_T45 l0 x10_2).f4.f0), .int .u32 ((rd_T45 l0 x10_2).f4.f1), .int .i64 0]) ?_ 6 _ rfl; (with_reducible repeat (first | refine blk_drewN ?_ _ | refine blk_drew ?_ | refine blk_alloc ?_ _)); refine blk_put (cs := #[.int .i64 ((rd_T45 l0 x10_2).f0), .int .i64 ((rd_T45 l0 x10_2).f1), .int .i64 ((rd_T45 l0 x10_2).f2), .int .i64 ((rd_T45 l0 x10_2).f3), .int .u32 ((rd_T45 l0 x10_2).f4.f0), .int .u32 0, .int .i64 0]) ?_ 5 _ rfl; (with_reducible repeat (first | refine blk_drewN ?_ _ | refine blk_drew ?_ | refine blk_alloc ?_ _)); refine blk_put (cs := #[.int .i64 ((rd_T45 l0 x10_2).f0), .int .i64 ((rd_T45 l0 x10_2).f1), .int .i64 ((rd_T45 l0 x10_2).f2), .int .i64 ((rd_T45 l0 x10_2).f3), .int .u32 0, .int .u32 0, .int .i64 0]) ?_ 4 _ rfl; (with_reducible repeat (first | refine blk_drewN ?_ _ | refine blk_drew ?_ | refine blk_alloc ?_ _)); refine blk_put (cs := #[.int .i64 ((rd_T45 l0 x10_2).f0), .int .i64 ((rd_T45 l0 x10_2).f1), .int .i64 ((rd_T45 l0 x10_2).f2), .int .i64 0, .int .u32 0, .int .u32 0, .int .i64 0]) ?_ 3 _ rfl; (with_reducible repeat (first | refine blk_drewN ?_ _ | refine blk_drew ?_ | refine blk_alloc ?_ _)); refine blk_put (cs := #[.int .i64 ((rd_T45 l0 x10_2).f0), .int .i64 ((rd_T45 l0 x10_2).f1), .int .i64 0, .int .i64 0, .int .u32 0, .int .u32 0, .int .i64 0]) ?_ 2 _ rfl; (with_reducible repeat (first | refine blk_drewN ?_ _ | refine blk_drew ?_ | refine blk_alloc ?_ _)); refine blk_put (cs := #[.int .i64 ((rd_T45 l0 x10_2).f0), .int .i64 0, .int .i64 0, .int .i64 0, .int .u32 0, .int .u32 0, .int .i64 0]) ?_ 1 _ rfl; (with_reducible repeat (first | refine blk_drewN ?_ _ | refine blk_drew ?_ | refine blk_alloc ?_ _)); refine blk_put (cs := #[.int .i64 0, .int .i64 0, .int .i64 0, .int .i64 0, .int .u32 0, .int .u32 0, .int .i64 0]) ?_ 0 _ rfl; (with_reducible repeat (first | refine blk_drewN ?_ _ | refine blk_drew ?_ | refine blk_alloc ?_ _)); exact BK369.out⟩, ⟨by repeat (first | (with_reducible first | exact HB.out | apply below_alloc | apply pw_below_drewN | apply below_drew1 | refine below_set ?_ GE357.out | refine below_set ?_ GE369.out) | exact HB.out)⟩⟩
                  · rw [if_neg c21] at H
                    have c21b0 : (((rd_T45 l0 x10_2).f1) == a1) = false := beq_eq_false_iff_ne.mpr c21
                    have c21b1 : (((rd_T45 l0 x10_2).f1) != a1) = true := bne_iff_ne.mpr c21
                    (first | rw [c21b0] | (simp only [i64_w, i32_w]; rw [c21b0]) | skip)
                    have H' := Aside0.mk H
                    clear H
                    have hnb33 := NB369_357.out
                    have hnc33 := NB357_369.out
                    have hcz34_0 : w18.cell? ⟨gb369, 0, none⟩ = some (.int .i64 0) := (blk_cell BK369.out 0).trans rfl
                    have hcz34_1 : w18.cell? ⟨gb369, 1, none⟩ = some (.int .i64 0) := (blk_cell BK369.out 1).trans rfl
                    have hcz34_2 : w18.cell? ⟨gb369, 2, none⟩ = some (.int .i64 0) := (blk_cell BK369.out 2).trans rfl
                    have hcz34_3 : w18.cell? ⟨gb369, 3, none⟩ = some (.int .i64 0) := (blk_cell BK369.out 3).trans rfl
                    have hcz34_4 : w18.cell? ⟨gb369, 4, none⟩ = some (.int .u32 0) := (blk_cell BK369.out 4).trans rfl
                    have hcz34_5 : w18.cell? ⟨gb369, 5, none⟩ = some (.int .u32 0) := (blk_cell BK369.out 5).trans rfl
                    have hcz34_6 : w18.cell? ⟨gb369, 6, none⟩ = some (.int .i64 0) := (blk_cell BK369.out 6).trans rfl
                    have hfz34_0 := blk_frozen BK369.out 0
                    have hfz34_1 := blk_frozen BK369.out 1
                    have hfz34_2 := blk_frozen BK369.out 2
                    have hfz34_3 := blk_frozen BK369.out 3
                    have hfz34_4 := blk_frozen BK369.out 4
                    have hfz34_5 := blk_frozen BK369.out 5
                    have hfz34_6 := blk_frozen BK369.out 6
                    go_wp2
                    go_meet
                    case rel => exact ⟨_, (true), (by first | rfl | (simp; done) | (simp [*]; done)), H', ⟨by have := HJ3.out; have := HK2.out; first | omega | exact Nat.le_refl _⟩, ⟨by (with_reducible repeat (first | refine blk_drewN ?_ _ | refine blk_drew ?_ | refine blk_alloc ?_ _)); refine blk_far ?_ NB357_369.out _; (with_reducible repeat (first | refine blk_drewN ?_ _ | refine blk_drew ?_ | refine blk_alloc ?_ _)); refine blk_far ?_ NB357_369.out _; (with_reducible repeat (first | refine blk_drewN ?_ _ | refine blk_drew ?_ | refine blk_alloc ?_ _)); refine blk_far ?_ NB357_369.out _; (with_reducible repeat (first | refine blk_drewN ?_ _ | refine blk_drew ?_ | refine blk_alloc ?_ _)); refine blk_far ?_ NB357_369.out _; (with_reducible repeat (first | refine blk_drewN ?_ _ | refine blk_drew ?_ | refine blk_alloc ?_ _)); refine blk_far ?_ NB357_369.out _; (with_reducible repeat (first | refine blk_drewN ?_ _ | refine blk_drew ?_ | refine blk_alloc ?_ _)); refine blk_far ?_ NB357_369.out _; (with_reducible repeat (first | refine blk_drewN ?_ _ | refine blk_drew ?_ | refine blk_alloc ?_ _)); refine blk_far ?_ NB357_369.out _; (with_reducible repeat (first | refine blk_drewN ?_ _ | refine blk_drew ?_ | refine blk_alloc ?_ _)); exact BK357.out⟩, ⟨by (with_reducible repeat (first | refine blk_drewN ?_ _ | refine blk_drew ?_ | refine blk_alloc ?_ _)); refine blk_put (cs := #[.int .i64 ((rd_T45 l0 x10_2).f0), .int .i64 ((rd_T45 l0 x10_2).f1), .int .i64 ((rd_T45 l0 x10_2).f2), .int .i64 ((rd_T45 l0 x10_2).f3), .int .u32 ((rd_T45 l0 x10_2).f4.f0), .int .u32 ((rd_T45 l0 x10_2).f4.f1), .int .i64 0]) ?_ 6 _ rfl; (with_reducible repeat (first | refine blk_drewN ?_ _ | refine blk_drew ?_ | refine blk_alloc ?_ _)); refine blk_put (cs := #[.int .i64 ((rd_T45 l0 x10_2).f0), .int .i64 ((rd_T45 l0 x10_2).f1), .int .i64 ((rd_T45 l0 x10_2).f2), .int .i64 ((rd_T45 l0 x10_2).f3), .int .u32 ((rd_T45 l0 x10_2).f4.f0), .int .u32 0, .int .i64 0]) ?_ 5 _ rfl; (with_reducible repeat (first | refine blk_drewN ?_ _ | refine blk_drew ?_ | refine blk_alloc ?_ _)); refine blk_put (cs := #[.int .i64 ((rd_T45 l0 x10_2).f0), .int .i64 ((rd_T45 l0 x10_2).f1), .int .i64 ((rd_T45 l0 x10_2).f2), .int .i64 ((rd_T45 l0 x10_2).f3), .int .u32 0, .int .u32 0, .int .i64 0]) ?_ 4 _ rfl; (with_reducible repeat (first | refine blk_drewN ?_ _ | refine blk_drew ?_ | refine blk_alloc ?_ _)); refine blk_put (cs := #[.int .i64 ((rd_T45 l0 x10_2).f0), .int .i64 ((rd_T45 l0 x10_2).f1), .int .i64 ((rd_T45 l0 x10_2).f2), .int .i64 0, .int .u32 0, .int .u32 0, .int .i64 0]) ?_ 3 _ rfl; (with_reducible repeat (first | refine blk_drewN ?_ _ | refine blk_drew ?_ | refine blk_alloc ?_ _)); refine blk_put (cs := #[.int .i64 ((rd_T45 l0 x10_2).f0), .int .i64 ((rd_T45 l0 x10_2).f1), .int .i64 0, .int .i64 0, .int .u32 0, .int .u32 0, .int .i64 0]) ?_ 2 _ rfl; (with_reducible repeat (first | refine blk_drewN ?_ _ | refine blk_drew ?_ | refine blk_alloc ?_ _)); refine blk_put (cs := #[.int .i64 ((rd_T45 l0 x10_2).f0), .int .i64 0, .int .i64 0, .int .i64 0, .int .u32 0, .int .u32 0, .int .i64 0]) ?_ 1 _ rfl; (with_reducible repeat (first | refine blk_drewN ?_ _ | refine blk_drew ?_ | refine blk_alloc ?_ _)); refine blk_put (cs := #[.int .i64 0, .int .i64 0, .int .i64 0, .int .i64 0, .int .u32 0, .int .u32 0, .int .i64 0]) ?_ 0 _ rfl; (with_reducible repeat (first | refine blk_drewN ?_ _ | refine blk_drew ?_ | refine blk_alloc ?_ _)); exact BK369.out⟩, ⟨by repeat (first | (with_reducible first | exact HB.out | apply below_alloc | apply pw_below_drewN | apply below_drew1 | refine below_set ?_ GE357.out | refine below_set ?_ GE369.out) | exact HB.out)⟩⟩
                case rest =>
                  clear HC17
                  try clear c1
                  try clear c2
                  try clear p2
                  try clear c3
                  try clear p3
                  try clear q3
                  try clear hx3
                  try clear c5
                  try clear c5b0
                  try clear c5b1
                  try clear c7
                  try clear c8
                  try clear c15
                  try clear c15b0
                  try clear c16
                  try clear c16b0
                  try clear c19
                  try clear c21
                  try clear c21b0
                  try clear c21b1
                  try clear c22
                  try clear c22b0
                  try clear c23
                  try clear c25
                  try clear c25b0
                  try clear c26
                  try clear c28
                  try clear c28b0
                  try clear c28b1
                  try clear c29
                  try clear c31
                  try clear c33
                  try clear hcz14_0
                  try clear hcz14_1
                  try clear hcz14_2
                  try clear hcz14_3
                  try clear hcz14_4
                  try clear hcz14_5
                  try clear hcz14_6
                  try clear hcz20_0
                  try clear hcz20_1
                  try clear hcz20_2
                  try clear hcz20_3
                  try clear hcz20_4
                  try clear hcz20_5
                  try clear hcz20_6
                  try clear hcz24_0
                  try clear hcz24_1
                  try clear hcz24_2
                  try clear hcz24_3
                  try clear hcz24_4
                  try clear hcz24_5
                  try clear hcz24_6
                  try clear hcz27_0
                  try clear hcz27_1
                  try clear hcz27_2
                  try clear hcz27_3
                  try clear hcz27_4
                  try clear hcz27_5
                  try clear hcz27_6
                  try clear hcz30_0
                  try clear hcz30_1
                  try clear hcz30_2
                  try clear hcz30_3
                  try clear hcz30_4
                  try clear hcz30_5
                  try clear hcz30_6
                  try clear hcz32_0
                  try clear hcz32_1
                  try clear hcz32_2
                  try clear hcz32_3
                  try clear hcz32_4
                  try clear hcz32_5
                  try clear hcz32_6
                  try clear hcz34_0
                  try clear hcz34_1
                  try clear hcz34_2
                  try clear hcz34_3
                  try clear hcz34_4
                  try clear hcz34_5
                  try clear hcz34_6
                  try clear hfz14_0
                  try clear hfz14_1
                  try clear hfz14_2
                  try clear hfz14_3
                  try clear hfz14_4
                  try clear hfz14_5
                  try clear hfz14_6
                  try clear hfz20_0
                  try clear hfz20_1
                  try clear hfz20_2
                  try clear hfz20_3
                  try clear hfz20_4
                  try clear hfz20_5
                  try clear hfz20_6
                  try clear hfz24_0
                  try clear hfz24_1
                  try clear hfz24_2
                  try clear hfz24_3
                  try clear hfz24_4
                  try clear hfz24_5
                  try clear hfz24_6
                  try clear hfz27_0
                  try clear hfz27_1
                  try clear hfz27_2
                  try clear hfz27_3
                  try clear hfz27_4
                  try clear hfz27_5
                  try clear hfz27_6
                  try clear hfz30_0
                  try clear hfz30_1
                  try clear hfz30_2
                  try clear hfz30_3
                  try clear hfz30_4
                  try clear hfz30_5
                  try clear hfz30_6
                  try clear hfz32_0
                  try clear hfz32_1
                  try clear hfz32_2
                  try clear hfz32_3
                  try clear hfz32_4
                  try clear hfz32_5
                  try clear hfz32_6
                  try clear hfz34_0
                  try clear hfz34_1
                  try clear hfz34_2
                  try clear hfz34_3
                  try clear hfz34_4
                  try clear hfz34_5
                  try clear hfz34_6
                  try clear hx368_0
                  try clear hx368_1
                  try clear hx368_2
                  try clear hx368_3
                  try clear hx368_4
                  try clear hx368_5
                  try clear hx368_6
                  try clear p2
                  try clear p368
                  try clear q368
                  obtain ⟨kq, x67_16, rfl, HA, HJ16, BK357, BK369, HB⟩ := hcut
                  cases kq with
                  | zero => exact absurd HA.out (by simp [waystonelaw07_RuleFirst.j2])
                  | succ kj16 =>
                    have H := HA.out
                    clear HA
                    simp only [waystonelaw07_RuleFirst.j2] at H
                    by_cases c35 : x67_16 = true
                    · subst c35
                      have H1 : (waystonelaw07_RuleFirst.l0 kj16 l0 a1 a2 t356 x9_2 (wrap64 (x10_2 + 1)) t349 t350 t351 t352 t353 t354 t355) = some r := by rw [if_pos rfl] at H; exact H
                      clear H
                      have H := H1
                      clear H1
                      have H' := Aside0.mk H
                      clear H
                      go_wp2
                      go_roundg kj16
                      case measure => have := HJ3.out; have := HK2.out; have := HJ16.out; omega
                      case rel => exact ⟨(x9_2), (wrap64 (x10_2 + 1)), (by first | rfl | (simp; done) | (simp [*]; done)), (by first | rfl | (simp; done) | (simp [*]; done)), H', ⟨by have := HJ3.out; have := HK2.out; have := HJ16.out; omega⟩, ⟨by (with_reducible repeat (first | refine blk_drewN ?_ _ | refine blk_drew ?_ | refine blk_alloc ?_ _)); exact BK357.out⟩, ⟨by repeat (first | (with_reducible first | exact HB.out | apply below_alloc | apply pw_below_drewN | apply below_drew1 | refine below_set ?_ GE357.out | refine below_set ?_ GE369.out) | exact HB.out)⟩⟩
                    · replace c35 := Bool.eq_false_iff.mpr c35
                      subst c35
                      have H1 : (if ((rd_T45 l0 x10_2).f2) > t351 then (none) else (if ((rd_T45 l0 x10_2).f2) = t351 then (if ((rd_T45 l0 x10_2).f0) < t349 then (none) else (waystonelaw07_RuleFirst.l0 kj16 l0 a1 a2 t356 true (wrap64 (x10_2 + 1)) t349 t350 t351 t352 t353 t354 t355)) else (waystonelaw07_RuleFirst.l0 kj16 l0 a1 a2 t356 true (wrap64 (x10_2 + 1)) t349 t350 t351 t352 t353 t354 t355))) = some r := by rw [if_neg (show ¬ (false = true) by decide)] at H; exact H
                      clear H
                      have H := H1
                      clear H1
                      by_cases c36 : ((rd_T45 l0 x10_2).f2) > t351
                      · rw [if_pos c36] at H
                        exact absurd H (by simp)
                      · rw [if_neg c36] at H
                        have c36b0 : decide (t351 < ((rd_T45 l0 x10_2).f2)) = false := decide_eq_false c36
                        clear c36
                        by_cases c37 : ((rd_T45 l0 x10_2).f2) = t351
                        · rw [if_pos c37] at H
                          have c37b0 : (((rd_T45 l0 x10_2).f2) == t351) = true := beq_iff_eq.mpr c37
                          have c37b1 : (((rd_T45 l0 x10_2).f2) != t351) = false := bne_eq_false_iff_eq.mpr c37
                          clear c37
                          by_cases c38 : ((rd_T45 l0 x10_2).f0) < t349
                          · rw [if_pos c38] at H
                            exact absurd H (by simp)
                          · rw [if_neg c38] at H
                            have c38b0 : decide (((rd_T45 l0 x10_2).f0) < t349) = false := decide_eq_false c38
                            clear c38
                            have H' := Aside0.mk H
                            clear H
                            have hnb39 := NB369_357.out
                            have hnc39 := NB357_369.out
                            have hcz40_0 : wc.cell? ⟨gb369, 0, none⟩ = some (.int .i64 ((rd_T45 l0 x10_2).f0)) := (blk_cell BK369.out 0).trans rfl
                            have hcz40_1 : wc.cell? ⟨gb369, 1, none⟩ = some (.int .i64 ((rd_T45 l0 x10_2).f1)) := (blk_cell BK369.out 1).trans rfl
                            have hcz40_2 : wc.cell? ⟨gb369, 2, none⟩ = some (.int .i64 ((rd_T45 l0 x10_2).f2)) := (blk_cell BK369.out 2).trans rfl
                            have hcz40_3 : wc.cell? ⟨gb369, 3, none⟩ = some (.int .i64 ((rd_T45 l0 x10_2).f3)) := (blk_cell BK369.out 3).trans rfl
                            have hcz40_4 : wc.cell? ⟨gb369, 4, none⟩ = some (.int .u32 ((rd_T45 l0 x10_2).f4.f0)) := (blk_cell BK369.out 4).trans rfl
                            have hcz40_5 : wc.cell? ⟨gb369, 5, none⟩ = some (.int .u32 ((rd_T45 l0 x10_2).f4.f1)) := (blk_cell BK369.out 5).trans rfl
                            have hcz40_6 : wc.cell? ⟨gb369, 6, none⟩ = some (.int .i64 ((rd_T45 l0 x10_2).f5)) := (blk_cell BK369.out 6).trans rfl
                            have hfz40_0 := blk_frozen BK369.out 0
                            have hfz40_1 := blk_frozen BK369.out 1
                            have hfz40_2 := blk_frozen BK369.out 2
                            have hfz40_3 := blk_frozen BK369.out 3
                            have hfz40_4 := blk_frozen BK369.out 4
                            have hfz40_5 := blk_frozen BK369.out 5
                            have hfz40_6 := blk_frozen BK369.out 6
                            have hcz41_0 : wc.cell? ⟨gb357, 0, none⟩ = some (.int .i64 t349) := (blk_cell BK357.out 0).trans rfl
                            have hcz41_1 : wc.cell? ⟨gb357, 1, none⟩ = some (.int .i64 t350) := (blk_cell BK357.out 1).trans rfl
                            have hcz41_2 : wc.cell? ⟨gb357, 2, none⟩ = some (.int .i64 t351) := (blk_cell BK357.out 2).trans rfl
                            have hcz41_3 : wc.cell? ⟨gb357, 3, none⟩ = some (.int .i64 t352) := (blk_cell BK357.out 3).trans rfl
                            have hcz41_4 : wc.cell? ⟨gb357, 4, none⟩ = some (.int .u32 t353) := (blk_cell BK357.out 4).trans rfl
                            have hcz41_5 : wc.cell? ⟨gb357, 5, none⟩ = some (.int .u32 t354) := (blk_cell BK357.out 5).trans rfl
                            have hcz41_6 : wc.cell? ⟨gb357, 6, none⟩ = some (.int .i64 t355) := (blk_cell BK357.out 6).trans rfl
                            have hfz41_0 := blk_frozen BK357.out 0
                            have hfz41_1 := blk_frozen BK357.out 1
                            have hfz41_2 := blk_frozen BK357.out 2
                            have hfz41_3 := blk_frozen BK357.out 3
                            have hfz41_4 := blk_frozen BK357.out 4
                            have hfz41_5 := blk_frozen BK357.out 5
                            have hfz41_6 := blk_frozen BK357.out 6
                            go_wp2
                            go_roundg kj16
                            case measure => have := HJ3.out; have := HK2.out; have := HJ16.out; omega
                            case rel => exact ⟨(true), (wrap64 (x10_2 + 1)), (by first | rfl | (simp; done) | (simp [*]; done)), (by first | rfl | (simp; done) | (simp [*]; done)), H', ⟨by have := HJ3.out; have := HK2.out; have := HJ16.out; omega⟩, ⟨by (with_reducible repeat (first | refine blk_drewN ?_ _ | refine blk_drew ?_ | refine blk_alloc ?_ _)); exact BK357.out⟩, ⟨by repeat (first | (with_reducible first | exact HB.out | apply below_alloc | apply pw_below_drewN | apply below_drew1 | refine below_set ?_ GE357.out | refine below_set ?_ GE369.out) | exact HB.out)⟩⟩
                        · rw [if_neg c37] at H
                          have c37b0 : (((rd_T45 l0 x10_2).f2) == t351) = false := beq_eq_false_iff_ne.mpr c37
                          have c37b1 : (((rd_T45 l0 x10_2).f2) != t351) = true := bne_iff_ne.mpr c37
                          have H' := Aside0.mk H
                          clear H
                          have hnb42 := NB369_357.out
                          have hnc42 := NB357_369.out
                          have hcz43_0 : wc.cell? ⟨gb369, 0, none⟩ = some (.int .i64 ((rd_T45 l0 x10_2).f0)) := (blk_cell BK369.out 0).trans rfl
                          have hcz43_1 : wc.cell? ⟨gb369, 1, none⟩ = some (.int .i64 ((rd_T45 l0 x10_2).f1)) := (blk_cell BK369.out 1).trans rfl
                          have hcz43_2 : wc.cell? ⟨gb369, 2, none⟩ = some (.int .i64 ((rd_T45 l0 x10_2).f2)) := (blk_cell BK369.out 2).trans rfl
                          have hcz43_3 : wc.cell? ⟨gb369, 3, none⟩ = some (.int .i64 ((rd_T45 l0 x10_2).f3)) := (blk_cell BK369.out 3).trans rfl
                          have hcz43_4 : wc.cell? ⟨gb369, 4, none⟩ = some (.int .u32 ((rd_T45 l0 x10_2).f4.f0)) := (blk_cell BK369.out 4).trans rfl
                          have hcz43_5 : wc.cell? ⟨gb369, 5, none⟩ = some (.int .u32 ((rd_T45 l0 x10_2).f4.f1)) := (blk_cell BK369.out 5).trans rfl
                          have hcz43_6 : wc.cell? ⟨gb369, 6, none⟩ = some (.int .i64 ((rd_T45 l0 x10_2).f5)) := (blk_cell BK369.out 6).trans rfl
                          have hfz43_0 := blk_frozen BK369.out 0
                          have hfz43_1 := blk_frozen BK369.out 1
                          have hfz43_2 := blk_frozen BK369.out 2
                          have hfz43_3 := blk_frozen BK369.out 3
                          have hfz43_4 := blk_frozen BK369.out 4
                          have hfz43_5 := blk_frozen BK369.out 5
                          have hfz43_6 := blk_frozen BK369.out 6
                          have hcz44_0 : wc.cell? ⟨gb357, 0, none⟩ = some (.int .i64 t349) := (blk_cell BK357.out 0).trans rfl
                          have hcz44_1 : wc.cell? ⟨gb357, 1, none⟩ = some (.int .i64 t350) := (blk_cell BK357.out 1).trans rfl
                          have hcz44_2 : wc.cell? ⟨gb357, 2, none⟩ = some (.int .i64 t351) := (blk_cell BK357.out 2).trans rfl
                          have hcz44_3 : wc.cell? ⟨gb357, 3, none⟩ = some (.int .i64 t352) := (blk_cell BK357.out 3).trans rfl
                          have hcz44_4 : wc.cell? ⟨gb357, 4, none⟩ = some (.int .u32 t353) := (blk_cell BK357.out 4).trans rfl
                          have hcz44_5 : wc.cell? ⟨gb357, 5, none⟩ = some (.int .u32 t354) := (blk_cell BK357.out 5).trans rfl
                          have hcz44_6 : wc.cell? ⟨gb357, 6, none⟩ = some (.int .i64 t355) := (blk_cell BK357.out 6).trans rfl
                          have hfz44_0 := blk_frozen BK357.out 0
                          have hfz44_1 := blk_frozen BK357.out 1
                          have hfz44_2 := blk_frozen BK357.out 2
                          have hfz44_3 := blk_frozen BK357.out 3
                          have hfz44_4 := blk_frozen BK357.out 4
                          have hfz44_5 := blk_frozen BK357.out 5
                          have hfz44_6 := blk_frozen BK357.out 6
                          go_wp2
                          go_roundg kj16
                          case measure => have := HJ3.out; have := HK2.out; have := HJ16.out; omega
                          case rel => exact ⟨(true), (wrap64 (x10_2 + 1)), (by first | rfl | (simp; done) | (simp [*]; done)), (by first | rfl | (simp; done) | (simp [*]; done)), H', ⟨by have := HJ3.out; have := HK2.out; have := HJ16.out; omega⟩, ⟨by (with_reducible repeat (first | refine blk_drewN ?_ _ | refine blk_drew ?_ | refine blk_alloc ?_ _)); exact BK357.out⟩, ⟨by repeat (first | (with_reducible first | exact HB.out | apply below_alloc | apply pw_below_drewN | apply below_drew1 | refine below_set ?_ GE357.out | refine below_set ?_ GE369.out) | exact HB.out)⟩⟩
              · rw [if_neg c16] at H
                exact absurd H (by simp)
            · rw [if_neg c15] at H
              have c15b0 : decide (x10_2 < (l0.length : Int)) = false := decide_eq_false c15
              clear c15
              replace H := Option.bind_eq_some_iff.mp H
              obtain ⟨⟨t358, t359, t360, t361, t362, t363, t364, t365⟩, A450, H⟩ := H
              replace H : ((waystonelaw07_alive.f k2).bind fun t367 => (if t367 = true then (if (t356 == x9_2) = true then (if t356 = true then (if t350 = a1 then (if t365 = true then (some (t358 == t349 && (t359 == t350 && (t360 == t351 && (t361 == t352 && ((t362 == t353 && (t363 == t354)) && (t364 == t355))))))) else (none)) else (none)) else (some true)) else (none)) else (none))) = some r := H
              have A45 := Aside0.mk A450
              clear A450
              replace H := Option.bind_eq_some_iff.mp H
              obtain ⟨t367, A460, H⟩ := H
              replace H : (if t367 = true then (if (t356 == x9_2) = true then (if t356 = true then (if t350 = a1 then (if t365 = true then (some (t358 == t349 && (t359 == t350 && (t360 == t351 && (t361 == t352 && ((t362 == t353 && (t363 == t354)) && (t364 == t355))))))) else (none)) else (none)) else (some true)) else (none)) else (none)) = some r := H
              have A46 := Aside0.mk A460
              clear A460
              by_cases c47 : t367 = true
              · subst c47
                have H1 : (if (t356 == x9_2) = true then (if t356 = true then (if t350 = a1 then (if t365 = true then (some (t358 == t349 && (t359 == t350 && (t360 == t351 && (t361 == t352 && ((t362 == t353 && (t363 == t354)) && (t364 == t355))))))) else (none)) else (none)) else (some true)) else (none)) = some r := by rw [if_pos rfl] at H; exact H
                clear H
                have H := H1
                clear H1
                by_cases c48 : (t356 == x9_2) = true
                · rw [if_pos c48] at H
                  have c48b0 : (t356 == x9_2) = true := c48
                  (try (have c48b1 : decide (t356 = x9_2) = true := by simpa using c48))
                  (try (have c48b2 : (t356 == x9_2) = true := by simpa using c48))
                  clear c48
                  by_cases c49 : t356 = true
                  · subst c49
                    have H1 : (if t350 = a1 then (if t365 = true then (some (t358 == t349 && (t359 == t350 && (t360 == t351 && (t361 == t352 && ((t362 == t353 && (t363 == t354)) && (t364 == t355))))))) else (none)) else (none)) = some r := by rw [if_pos rfl] at H; exact H
                    clear H
                    have H := H1
                    clear H1
                    by_cases c50 : t350 = a1
                    · rw [if_pos c50] at H
                      have c50b0 : (t350 == a1) = true := beq_iff_eq.mpr c50
                      have c50b1 : (t350 != a1) = false := bne_eq_false_iff_eq.mpr c50
                      clear c50
                      by_cases c51 : t365 = true
                      · subst c51
                        have H1 : (some (t358 == t349 && (t359 == t350 && (t360 == t351 && (t361 == t352 && ((t362 == t353 && (t363 == t354)) && (t364 == t355))))))) = some r := by rw [if_pos rfl] at H; exact H
                        clear H
                        have H := H1
                        clear H1
                        obtain rfl := Option.some.inj H
                        have hcz52_0 : wr.cell? ⟨gb357, 0, none⟩ = some (.int .i64 t349) := (blk_cell BK357.out 0).trans rfl
                        have hcz52_1 : wr.cell? ⟨gb357, 1, none⟩ = some (.int .i64 t350) := (blk_cell BK357.out 1).trans rfl
                        have hcz52_2 : wr.cell? ⟨gb357, 2, none⟩ = some (.int .i64 t351) := (blk_cell BK357.out 2).trans rfl
                        have hcz52_3 : wr.cell? ⟨gb357, 3, none⟩ = some (.int .i64 t352) := (blk_cell BK357.out 3).trans rfl
                        have hcz52_4 : wr.cell? ⟨gb357, 4, none⟩ = some (.int .u32 t353) := (blk_cell BK357.out 4).trans rfl
                        have hcz52_5 : wr.cell? ⟨gb357, 5, none⟩ = some (.int .u32 t354) := (blk_cell BK357.out 5).trans rfl
                        have hcz52_6 : wr.cell? ⟨gb357, 6, none⟩ = some (.int .i64 t355) := (blk_cell BK357.out 6).trans rfl
                        have hfz52_0 := blk_frozen BK357.out 0
                        have hfz52_1 := blk_frozen BK357.out 1
                        have hfz52_2 := blk_frozen BK357.out 2
                        have hfz52_3 := blk_frozen BK357.out 3
                        have hfz52_4 := blk_frozen BK357.out 4
                        have hfz52_5 := blk_frozen BK357.out 5
                        have hfz52_6 := blk_frozen BK357.out 6
                        go_wp2_with (first | ((with_reducible refine gate_callee (f := 29) rfl ?_); refine goesL_ (some 91) rfl rfl Tryd.func29 (by kernel_rfl) rfl #[.slice A0 l0.length c0, .int .i64 t349] rfl (by (try simp only [List.map_toArray, List.map_cons, List.map_nil]); first | done | rfl | (simp only [List.length_drop, List.length_take]; rfl)) ?_; (with_reducible refine (rule_Find.calls _ _ l0 t349 t358 t359 t360 t361 t362 t363 t364 true _ ?side1 ?side2 A45.out).mono ?_); (case side1 => repeat (first | exact (Kd.C_below HR0.out HB.out) | (with_reducible refine Kd.C_alloc ?_ _) | (with_reducible refine Kd.C_drewN ?_ _) | (with_reducible refine Kd.C_drew ?_))); (case side2 => exact HC0.out); rintro e w53 ⟨rfl, hb⟩; refine ⟨_, rfl, ?_⟩; have n0_ := Aside0.mk (blk_below (g := gb357) (o := .cells #[.int .i64 t349, .int .i64 t350, .int .i64 t351, .int .i64 t352, .int .u32 t353, .int .u32 t354, .int .i64 t355] 45 (0, 0)) (by (with_reducible repeat (first | refine blk_drewN ?_ _ | refine blk_drew ?_ | refine blk_alloc ?_ _)); exact BK357.out) hb); have n1_ := Aside0.mk (below_step (by repeat (first | (with_reducible first | exact HB.out | apply below_alloc | apply pw_below_drewN | apply below_drew1 | refine below_set ?_ GE357.out) | exact HB.out)) hb); clear BK357; clear HB; have BK357 := n0_; have HB := n1_; clear n0_ n1_; (try clear hb); (try clear hb2); (try clear hk); (try clear hi)) | ((with_reducible refine gate_dst (N := 12) rfl ?_); refine box_event ?hg (N := 12) ?hd (cs := #[.int .i64 0, .int .i64 0, .int .i64 0, .int .i64 0, .int .u32 0, .int .u32 0, .int .i64 0]) (t := 45) ?hr ?_; (case hd => rfl); (case hg => rfl); (case hr => first | (go_simp; done) | (go_simp; rfl)); intro gb366 hg w54 hbox hb; have n0_ := Aside0.mk (blk_below (g := gb357) (o := .cells #[.int .i64 t349, .int .i64 t350, .int .i64 t351, .int .i64 t352, .int .u32 t353, .int .u32 t354, .int .i64 t355] 45 (0, 0)) (by (with_reducible repeat (first | refine blk_drewN ?_ _ | refine blk_drew ?_ | refine blk_alloc ?_ _)); exact BK357.out) hb); have n1_ := Aside0.mk (below_step (by repeat (first | (with_reducible first | exact HB.out | apply below_alloc | apply pw_below_drewN | apply below_drew1 | refine below_set ?_ GE357.out) | exact HB.out)) hb); have n2_ := Aside0.mk (hbox); have n3_ := Aside0.mk ((by rw [hg]; exact (below_size (by repeat (first | (with_reducible first | exact HB.out | apply below_alloc | apply pw_below_drewN | apply below_drew1 | refine below_set ?_ GE357.out) | exact HB.out))) : w.heap.size ≤ gb366)); have n4_ := Aside0.mk ((by rw [hg]; exact (below_size (by repeat (first | (with_reducible first | exact HB.out | apply below_alloc | apply pw_below_drewN | apply below_drew1 | refine below_set ?_ GE357.out) | exact HB.out))) : w.heap.size ≤ gb366)); have n5_ := Aside0.mk ((by rw [hg]; exact Nat.ne_of_lt (blk_lt (g := gb357) (o := .cells #[.int .i64 t349, .int .i64 t350, .int .i64 t351, .int .i64 t352, .int .u32 t353, .int .u32 t354, .int .i64 t355] 45 (0, 0)) (by (with_reducible repeat (first | refine blk_drewN ?_ _ | refine blk_drew ?_ | refine blk_alloc ?_ _)); exact BK357.out)) : gb357 ≠ gb366)); have n6_ := Aside0.mk ((by rw [hg]; exact Nat.ne_of_gt (blk_lt (g := gb357) (o := .cells #[.int .i64 t349, .int .i64 t350, .int .i64 t351, .int .i64 t352, .int .u32 t353, .int .u32 t354, .int .i64 t355] 45 (0, 0)) (by (with_reducible repeat (first | refine blk_drewN ?_ _ | refine blk_drew ?_ | refine blk_alloc ?_ _)); exact BK357.out)) : gb366 ≠ gb357)); clear BK357; clear HB; have BK357 := n0_; have HB := n1_; have BK366 := n2_; have GW366 := n3_; have GE366 := n4_; have NB357_366 := n5_; have NB366_357 := n6_; clear n0_ n1_ n2_ n3_ n4_ n5_ n6_; clear hb hbox hg; have hnb55 := NB366_357.out; have hnc55 := NB357_366.out; have hcz56_0 : w54.cell? ⟨gb366, 0, none⟩ = some (.int .i64 0) := (blk_cell BK366.out 0).trans rfl; have hcz56_1 : w54.cell? ⟨gb366, 1, none⟩ = some (.int .i64 0) := (blk_cell BK366.out 1).trans rfl; have hcz56_2 : w54.cell? ⟨gb366, 2, none⟩ = some (.int .i64 0) := (blk_cell BK366.out 2).trans rfl; have hcz56_3 : w54.cell? ⟨gb366, 3, none⟩ = some (.int .i64 0) := (blk_cell BK366.out 3).trans rfl; have hcz56_4 : w54.cell? ⟨gb366, 4, none⟩ = some (.int .u32 0) := (blk_cell BK366.out 4).trans rfl; have hcz56_5 : w54.cell? ⟨gb366, 5, none⟩ = some (.int .u32 0) := (blk_cell BK366.out 5).trans rfl; have hcz56_6 : w54.cell? ⟨gb366, 6, none⟩ = some (.int .i64 0) := (blk_cell BK366.out 6).trans rfl; have hfz56_0 := blk_frozen BK366.out 0; have hfz56_1 := blk_frozen BK366.out 1; have hfz56_2 := blk_frozen BK366.out 2; have hfz56_3 := blk_frozen BK366.out 3; have hfz56_4 := blk_frozen BK366.out 4; have hfz56_5 := blk_frozen BK366.out 5; have hfz56_6 := blk_frozen BK366.out 6) | ((with_reducible refine gate_callee (f := 19) rfl ?_); refine goesL_ (some 94) rfl rfl Tryd.func19 (by kernel_rfl) rfl #[] rfl (by (try simp only [List.map_toArray, List.map_cons, List.map_nil]); first | done | rfl | (simp only [List.length_drop, List.length_take]; rfl)) ?_; (with_reducible refine (waystonelaw07_alive.calls k2  true _ ?side1 A46.out).mono ?_); (case side1 => exact HLd.below (by repeat (first | (with_reducible first | exact HB.out | apply below_alloc | apply pw_below_drewN | apply below_drew1 | refine below_set ?_ GE357.out | refine below_set ?_ GE366.out) | exact HB.out))); rintro e w57 ⟨rfl, hb⟩; refine ⟨_, rfl, ?_⟩; have n0_ := Aside0.mk (blk_below (g := gb357) (o := .cells #[.int .i64 t349, .int .i64 t350, .int .i64 t351, .int .i64 t352, .int .u32 t353, .int .u32 t354, .int .i64 t355] 45 (0, 0)) (by (with_reducible repeat (first | refine blk_drewN ?_ _ | refine blk_drew ?_ | refine blk_alloc ?_ _)); refine blk_far ?_ NB357_366.out _; (with_reducible repeat (first | refine blk_drewN ?_ _ | refine blk_drew ?_ | refine blk_alloc ?_ _)); refine blk_far ?_ NB357_366.out _; (with_reducible repeat (first | refine blk_drewN ?_ _ | refine blk_drew ?_ | refine blk_alloc ?_ _)); refine blk_far ?_ NB357_366.out _; (with_reducible repeat (first | refine blk_drewN ?_ _ | refine blk_drew ?_ | refine blk_alloc ?_ _)); refine blk_far ?_ NB357_366.out _; (with_reducible repeat (first | refine blk_drewN ?_ _ | refine blk_drew ?_ | refine blk_alloc ?_ _)); refine blk_far ?_ NB357_366.out _; (with_reducible repeat (first | refine blk_drewN ?_ _ | refine blk_drew ?_ | refine blk_alloc ?_ _)); refine blk_far ?_ NB357_366.out _; (with_reducible repeat (first | refine blk_drewN ?_ _ | refine blk_drew ?_ | refine blk_alloc ?_ _)); refine blk_far ?_ NB357_366.out _; (with_reducible repeat (first | refine blk_drewN ?_ _ | refine blk_drew ?_ | refine blk_alloc ?_ _)); exact BK357.out) hb); have n1_ := Aside0.mk (blk_below (g := gb366) (o := .cells #[.int .i64 t358, .int .i64 t359, .int .i64 t360, .int .i64 t361, .int .u32 t362, .int .u32 t363, .int .i64 t364] 45 (0, 0)) (by (with_reducible repeat (first | refine blk_drewN ?_ _ | refine blk_drew ?_ | refine blk_alloc ?_ _)); refine blk_put (cs := #[.int .i64 t358, .int .i64 t359, .int .i64 t360, .int .i64 t361, .int .u32 t362, .int .u32 t363, .int .i64 0]) ?_ 6 _ rfl; (with_reducible repeat (first | refine blk_drewN ?_ _ | refine blk_drew ?_ | refine blk_alloc ?_ _)); refine blk_put (cs := #[.int .i64 t358, .int .i64 t359, .int .i64 t360, .int .i64 t361, .int .u32 t362, .int .u32 0, .int .i64 0]) ?_ 5 _ rfl; (with_reducible repeat (first | refine blk_drewN ?_ _ | refine blk_drew ?_ | refine blk_alloc ?_ _)); refine blk_put (cs := #[.int .i64 t358, .int .i64 t359, .int .i64 t360, .int .i64 t361, .int .u32 0, .int .u32 0, .int .i64 0]) ?_ 4 _ rfl; (with_reducible repeat (first | refine blk_drewN ?_ _ | refine blk_drew ?_ | refine blk_alloc ?_ _)); refine blk_put (cs := #[.int .i64 t358, .int .i64 t359, .int .i64 t360, .int .i64 0, .int .u32 0, .int .u32 0, .int .i64 0]) ?_ 3 _ rfl; (with_reducible repeat (first | refine blk_drewN ?_ _ | refine blk_drew ?_ | refine blk_alloc ?_ _)); refine blk_put (cs := #[.int .i64 t358, .int .i64 t359, .int .i64 0, .int .i64 0, .int .u32 0, .int .u32 0, .int .i64 0]) ?_ 2 _ rfl; (with_reducible repeat (first | refine blk_drewN ?_ _ | refine blk_drew ?_ | refine blk_alloc ?_ _)); refine blk_put (cs := #[.int .i64 t358, .int .i64 0, .int .i64 0, .int .i64 0, .int .u32 0, .int .u32 0, .int .i64 0]) ?_ 1 _ rfl; (with_reducible repeat (first | refine blk_drewN ?_ _ | refine blk_drew ?_ | refine blk_alloc ?_ _)); refine blk_put (cs := #[.int .i64 0, .int .i64 0, .int .i64 0, .int .i64 0, .int .u32 0, .int .u32 0, .int .i64 0]) ?_ 0 _ rfl; (with_reducible repeat (first | refine blk_drewN ?_ _ | refine blk_drew ?_ | refine blk_alloc ?_ _)); exact BK366.out) hb); have n2_ := Aside0.mk (below_step (by repeat (first | (with_reducible first | exact HB.out | apply below_alloc | apply pw_below_drewN | apply below_drew1 | refine below_set ?_ GE357.out | refine below_set ?_ GE366.out) | exact HB.out)) hb); clear BK357; clear BK366; clear HB; have BK357 := n0_; have BK366 := n1_; have HB := n2_; clear n0_ n1_ n2_; (try clear hb); (try clear hb2); (try clear hk); (try clear hi); have hcz58_0 : w57.cell? ⟨gb357, 0, none⟩ = some (.int .i64 t349) := (blk_cell BK357.out 0).trans rfl; have hcz58_1 : w57.cell? ⟨gb357, 1, none⟩ = some (.int .i64 t350) := (blk_cell BK357.out 1).trans rfl; have hcz58_2 : w57.cell? ⟨gb357, 2, none⟩ = some (.int .i64 t351) := (blk_cell BK357.out 2).trans rfl; have hcz58_3 : w57.cell? ⟨gb357, 3, none⟩ = some (.int .i64 t352) := (blk_cell BK357.out 3).trans rfl; have hcz58_4 : w57.cell? ⟨gb357, 4, none⟩ = some (.int .u32 t353) := (blk_cell BK357.out 4).trans rfl; have hcz58_5 : w57.cell? ⟨gb357, 5, none⟩ = some (.int .u32 t354) := (blk_cell BK357.out 5).trans rfl; have hcz58_6 : w57.cell? ⟨gb357, 6, none⟩ = some (.int .i64 t355) := (blk_cell BK357.out 6).trans rfl; have hfz58_0 := blk_frozen BK357.out 0; have hfz58_1 := blk_frozen BK357.out 1; have hfz58_2 := blk_frozen BK357.out 2; have hfz58_3 := blk_frozen BK357.out 3; have hfz58_4 := blk_frozen BK357.out 4; have hfz58_5 := blk_frozen BK357.out 5; have hfz58_6 := blk_frozen BK357.out 6; have hcz59_0 : w57.cell? ⟨gb366, 0, none⟩ = some (.int .i64 t358) := (blk_cell BK366.out 0).trans rfl; have hcz59_1 : w57.cell? ⟨gb366, 1, none⟩ = some (.int .i64 t359) := (blk_cell BK366.out 1).trans rfl; have hcz59_2 : w57.cell? ⟨gb366, 2, none⟩ = some (.int .i64 t360) := (blk_cell BK366.out 2).trans rfl; have hcz59_3 : w57.cell? ⟨gb366, 3, none⟩ = some (.int .i64 t361) := (blk_cell BK366.out 3).trans rfl; have hcz59_4 : w57.cell? ⟨gb366, 4, none⟩ = some (.int .u32 t362) := (blk_cell BK366.out 4).trans rfl; have hcz59_5 : w57.cell? ⟨gb366, 5, none⟩ = some (.int .u32 t363) := (blk_cell BK366.out 5).trans rfl; have hcz59_6 : w57.cell? ⟨gb366, 6, none⟩ = some (.int .i64 t364) := (blk_cell BK366.out 6).trans rfl; have hfz59_0 := blk_frozen BK366.out 0; have hfz59_1 := blk_frozen BK366.out 1; have hfz59_2 := blk_frozen BK366.out 2; have hfz59_3 := blk_frozen BK366.out 3; have hfz59_4 := blk_frozen BK366.out 4; have hfz59_5 := blk_frozen BK366.out 5; have hfz59_6 := blk_frozen BK366.out 6))
                        go_ret
                        exact ⟨by first | rfl | (simp [errW_none, errW_some] <;> rfl) | (simp [*, errW_none, errW_some] <;> rfl), by repeat (first | (with_reducible first | exact HB.out | apply below_alloc | apply pw_below_drewN | apply below_drew1 | refine below_set ?_ GE357.out | refine below_set ?_ GE366.out) | exact HB.out)⟩
                      · replace c51 := Bool.eq_false_iff.mpr c51
                        subst c51
                        have H1 : (none) = some r := by rw [if_neg (show ¬ (false = true) by decide)] at H; exact H
                        clear H
                        have H := H1
                        clear H1
                        exact absurd H (by simp)
                    · rw [if_neg c50] at H
                      exact absurd H (by simp)
                  · replace c49 := Bool.eq_false_iff.mpr c49
                    subst c49
                    have H1 : (some true) = some r := by rw [if_neg (show ¬ (false = true) by decide)] at H; exact H
                    clear H
                    have H := H1
                    clear H1
                    obtain rfl := Option.some.inj H
                    have hcz60_0 : wr.cell? ⟨gb357, 0, none⟩ = some (.int .i64 t349) := (blk_cell BK357.out 0).trans rfl
                    have hcz60_1 : wr.cell? ⟨gb357, 1, none⟩ = some (.int .i64 t350) := (blk_cell BK357.out 1).trans rfl
                    have hcz60_2 : wr.cell? ⟨gb357, 2, none⟩ = some (.int .i64 t351) := (blk_cell BK357.out 2).trans rfl
                    have hcz60_3 : wr.cell? ⟨gb357, 3, none⟩ = some (.int .i64 t352) := (blk_cell BK357.out 3).trans rfl
                    have hcz60_4 : wr.cell? ⟨gb357, 4, none⟩ = some (.int .u32 t353) := (blk_cell BK357.out 4).trans rfl
                    have hcz60_5 : wr.cell? ⟨gb357, 5, none⟩ = some (.int .u32 t354) := (blk_cell BK357.out 5).trans rfl
                    have hcz60_6 : wr.cell? ⟨gb357, 6, none⟩ = some (.int .i64 t355) := (blk_cell BK357.out 6).trans rfl
                    have hfz60_0 := blk_frozen BK357.out 0
                    have hfz60_1 := blk_frozen BK357.out 1
                    have hfz60_2 := blk_frozen BK357.out 2
                    have hfz60_3 := blk_frozen BK357.out 3
                    have hfz60_4 := blk_frozen BK357.out 4
                    have hfz60_5 := blk_frozen BK357.out 5
                    have hfz60_6 := blk_frozen BK357.out 6
                    go_wp2_with (first | ((with_reducible refine gate_callee (f := 29) rfl ?_); refine goesL_ (some 91) rfl rfl Tryd.func29 (by kernel_rfl) rfl #[.slice A0 l0.length c0, .int .i64 t349] rfl (by (try simp only [List.map_toArray, List.map_cons, List.map_nil]); first | done | rfl | (simp only [List.length_drop, List.length_take]; rfl)) ?_; (with_reducible refine (rule_Find.calls _ _ l0 t349 t358 t359 t360 t361 t362 t363 t364 t365 _ ?side1 ?side2 A45.out).mono ?_); (case side1 => repeat (first | exact (Kd.C_below HR0.out HB.out) | (with_reducible refine Kd.C_alloc ?_ _) | (with_reducible refine Kd.C_drewN ?_ _) | (with_reducible refine Kd.C_drew ?_))); (case side2 => exact HC0.out); rintro e w61 ⟨rfl, hb⟩; refine ⟨_, rfl, ?_⟩; have n0_ := Aside0.mk (blk_below (g := gb357) (o := .cells #[.int .i64 t349, .int .i64 t350, .int .i64 t351, .int .i64 t352, .int .u32 t353, .int .u32 t354, .int .i64 t355] 45 (0, 0)) (by (with_reducible repeat (first | refine blk_drewN ?_ _ | refine blk_drew ?_ | refine blk_alloc ?_ _)); exact BK357.out) hb); have n1_ := Aside0.mk (below_step (by repeat (first | (with_reducible first | exact HB.out | apply below_alloc | apply pw_below_drewN | apply below_drew1 | refine below_set ?_ GE357.out) | exact HB.out)) hb); clear BK357; clear HB; have BK357 := n0_; have HB := n1_; clear n0_ n1_; (try clear hb); (try clear hb2); (try clear hk); (try clear hi)) | ((with_reducible refine gate_dst (N := 12) rfl ?_); refine box_event ?hg (N := 12) ?hd (cs := #[.int .i64 0, .int .i64 0, .int .i64 0, .int .i64 0, .int .u32 0, .int .u32 0, .int .i64 0]) (t := 45) ?hr ?_; (case hd => rfl); (case hg => rfl); (case hr => first | (go_simp; done) | (go_simp; rfl)); intro gb366 hg w62 hbox hb; have n0_ := Aside0.mk (blk_below (g := gb357) (o := .cells #[.int .i64 t349, .int .i64 t350, .int .i64 t351, .int .i64 t352, .int .u32 t353, .int .u32 t354, .int .i64 t355] 45 (0, 0)) (by (with_reducible repeat (first | refine blk_drewN ?_ _ | refine blk_drew ?_ | refine blk_alloc ?_ _)); exact BK357.out) hb); have n1_ := Aside0.mk (below_step (by repeat (first | (with_reducible first | exact HB.out | apply below_alloc | apply pw_below_drewN | apply below_drew1 | refine below_set ?_ GE357.out) | exact HB.out)) hb); have n2_ := Aside0.mk (hbox); have n3_ := Aside0.mk ((by rw [hg]; exact (below_size (by repeat (first | (with_reducible first | exact HB.out | apply below_alloc | apply pw_below_drewN | apply below_drew1 | refine below_set ?_ GE357.out) | exact HB.out))) : w.heap.size ≤ gb366)); have n4_ := Aside0.mk ((by rw [hg]; exact (below_size (by repeat (first | (with_reducible first | exact HB.out | apply below_alloc | apply pw_below_drewN | apply below_drew1 | refine below_set ?_ GE357.out) | exact HB.out))) : w.heap.size ≤ gb366)); have n5_ := Aside0.mk ((by rw [hg]; exact Nat.ne_of_lt (blk_lt (g := gb357) (o := .cells #[.int .i64 t349, .int .i64 t350, .int .i64 t351, .int .i64 t352, .int .u32 t353, .int .u32 t354, .int .i64 t355] 45 (0, 0)) (by (with_reducible repeat (first | refine blk_drewN ?_ _ | refine blk_drew ?_ | refine blk_alloc ?_ _)); exact BK357.out)) : gb357 ≠ gb366)); have n6_ := Aside0.mk ((by rw [hg]; exact Nat.ne_of_gt (blk_lt (g := gb357) (o := .cells #[.int .i64 t349, .int .i64 t350, .int .i64 t351, .int .i64 t352, .int .u32 t353, .int .u32 t354, .int .i64 t355] 45 (0, 0)) (by (with_reducible repeat (first | refine blk_drewN ?_ _ | refine blk_drew ?_ | refine blk_alloc ?_ _)); exact BK357.out)) : gb366 ≠ gb357)); clear BK357; clear HB; have BK357 := n0_; have HB := n1_; have BK366 := n2_; have GW366 := n3_; have GE366 := n4_; have NB357_366 := n5_; have NB366_357 := n6_; clear n0_ n1_ n2_ n3_ n4_ n5_ n6_; clear hb hbox hg; have hnb63 := NB366_357.out; have hnc63 := NB357_366.out; have hcz64_0 : w62.cell? ⟨gb366, 0, none⟩ = some (.int .i64 0) := (blk_cell BK366.out 0).trans rfl; have hcz64_1 : w62.cell? ⟨gb366, 1, none⟩ = some (.int .i64 0) := (blk_cell BK366.out 1).trans rfl; have hcz64_2 : w62.cell? ⟨gb366, 2, none⟩ = some (.int .i64 0) := (blk_cell BK366.out 2).trans rfl; have hcz64_3 : w62.cell? ⟨gb366, 3, none⟩ = some (.int .i64 0) := (blk_cell BK366.out 3).trans rfl; have hcz64_4 : w62.cell? ⟨gb366, 4, none⟩ = some (.int .u32 0) := (blk_cell BK366.out 4).trans rfl; have hcz64_5 : w62.cell? ⟨gb366, 5, none⟩ = some (.int .u32 0) := (blk_cell BK366.out 5).trans rfl; have hcz64_6 : w62.cell? ⟨gb366, 6, none⟩ = some (.int .i64 0) := (blk_cell BK366.out 6).trans rfl; have hfz64_0 := blk_frozen BK366.out 0; have hfz64_1 := blk_frozen BK366.out 1; have hfz64_2 := blk_frozen BK366.out 2; have hfz64_3 := blk_frozen BK366.out 3; have hfz64_4 := blk_frozen BK366.out 4; have hfz64_5 := blk_frozen BK366.out 5; have hfz64_6 := blk_frozen BK366.out 6) | ((with_reducible refine gate_callee (f := 19) rfl ?_); refine goesL_ (some 94) rfl rfl Tryd.func19 (by kernel_rfl) rfl #[] rfl (by (try simp only [List.map_toArray, List.map_cons, List.map_nil]); first | done | rfl | (simp only [List.length_drop, List.length_take]; rfl)) ?_; (with_reducible refine (waystonelaw07_alive.calls k2  true _ ?side1 A46.out).mono ?_); (case side1 => exact HLd.below (by repeat (first | (with_reducible first | exact HB.out | apply below_alloc | apply pw_below_drewN | apply below_drew1 | refine below_set ?_ GE357.out | refine below_set ?_ GE366.out) | exact HB.out))); rintro e w65 ⟨rfl, hb⟩; refine ⟨_, rfl, ?_⟩; have n0_ := Aside0.mk (blk_below (g := gb357) (o := .cells #[.int .i64 t349, .int .i64 t350, .int .i64 t351, .int .i64 t352, .int .u32 t353, .int .u32 t354, .int .i64 t355] 45 (0, 0)) (by (with_reducible repeat (first | refine blk_drewN ?_ _ | refine blk_drew ?_ | refine blk_alloc ?_ _)); refine blk_far ?_ NB357_366.out _; (with_reducible repeat (first | refine blk_drewN ?_ _ | refine blk_drew ?_ | refine blk_alloc ?_ _)); refine blk_far ?_ NB357_366.out _; (with_reducible repeat (first | refine blk_drewN ?_ _ | refine blk_drew ?_ | refine blk_alloc ?_ _)); refine blk_far ?_ NB357_366.out _; (with_reducible repeat (first | refine blk_drewN ?_ _ | refine blk_drew ?_ | refine blk_alloc ?_ _)); refine blk_far ?_ NB357_366.out _; (with_reducible repeat (first | refine blk_drewN ?_ _ | refine blk_drew ?_ | refine blk_alloc ?_ _)); refine blk_far ?_ NB357_366.out _; (with_reducible repeat (first | refine blk_drewN ?_ _ | refine blk_drew ?_ | refine blk_alloc ?_ _)); refine blk_far ?_ NB357_366.out _; (with_reducible repeat (first | refine blk_drewN ?_ _ | refine blk_drew ?_ | refine blk_alloc ?_ _)); refine blk_far ?_ NB357_366.out _; (with_reducible repeat (first | refine blk_drewN ?_ _ | refine blk_drew ?_ | refine blk_alloc ?_ _)); exact BK357.out) hb); have n1_ := Aside0.mk (blk_below (g := gb366) (o := .cells #[.int .i64 t358, .int .i64 t359, .int .i64 t360, .int .i64 t361, .int .u32 t362, .int .u32 t363, .int .i64 t364] 45 (0, 0)) (by (with_reducible repeat (first | refine blk_drewN ?_ _ | refine blk_drew ?_ | refine blk_alloc ?_ _)); refine blk_put (cs := #[.int .i64 t358, .int .i64 t359, .int .i64 t360, .int .i64 t361, .int .u32 t362, .int .u32 t363, .int .i64 0]) ?_ 6 _ rfl; (with_reducible repeat (first | refine blk_drewN ?_ _ | refine blk_drew ?_ | refine blk_alloc ?_ _)); refine blk_put (cs := #[.int .i64 t358, .int .i64 t359, .int .i64 t360, .int .i64 t361, .int .u32 t362, .int .u32 0, .int .i64 0]) ?_ 5 _ rfl; (with_reducible repeat (first | refine blk_drewN ?_ _ | refine blk_drew ?_ | refine blk_alloc ?_ _)); refine blk_put (cs := #[.int .i64 t358, .int .i64 t359, .int .i64 t360, .int .i64 t361, .int .u32 0, .int .u32 0, .int .i64 0]) ?_ 4 _ rfl; (with_reducible repeat (first | refine blk_drewN ?_ _ | refine blk_drew ?_ | refine blk_alloc ?_ _)); refine blk_put (cs := #[.int .i64 t358, .int .i64 t359, .int .i64 t360, .int .i64 0, .int .u32 0, .int .u32 0, .int .i64 0]) ?_ 3 _ rfl; (with_reducible repeat (first | refine blk_drewN ?_ _ | refine blk_drew ?_ | refine blk_alloc ?_ _)); refine blk_put (cs := #[.int .i64 t358, .int .i64 t359, .int .i64 0, .int .i64 0, .int .u32 0, .int .u32 0, .int .i64 0]) ?_ 2 _ rfl; (with_reducible repeat (first | refine blk_drewN ?_ _ | refine blk_drew ?_ | refine blk_alloc ?_ _)); refine blk_put (cs := #[.int .i64 t358, .int .i64 0, .int .i64 0, .int .i64 0, .int .u32 0, .int .u32 0, .int .i64 0]) ?_ 1 _ rfl; (with_reducible repeat (first | refine blk_drewN ?_ _ | refine blk_drew ?_ | refine blk_alloc ?_ _)); refine blk_put (cs := #[.int .i64 0, .int .i64 0, .int .i64 0, .int .i64 0, .int .u32 0, .int .u32 0, .int .i64 0]) ?_ 0 _ rfl; (with_reducible repeat (first | refine blk_drewN ?_ _ | refine blk_drew ?_ | refine blk_alloc ?_ _)); exact BK366.out) hb); have n2_ := Aside0.mk (below_step (by repeat (first | (with_reducible first | exact HB.out | apply below_alloc | apply pw_below_drewN | apply below_drew1 | refine below_set ?_ GE357.out | refine below_set ?_ GE366.out) | exact HB.out)) hb); clear BK357; clear BK366; clear HB; have BK357 := n0_; have BK366 := n1_; have HB := n2_; clear n0_ n1_ n2_; (try clear hb); (try clear hb2); (try clear hk); (try clear hi)))
                    go_ret
                    exact ⟨by first | rfl | (simp [errW_none, errW_some] <;> rfl) | (simp [*, errW_none, errW_some] <;> rfl), by repeat (first | (with_reducible first | exact HB.out | apply below_alloc | apply pw_below_drewN | apply below_drew1 | refine below_set ?_ GE357.out | refine below_set ?_ GE366.out) | exact HB.out)⟩
                · rw [if_neg c48] at H
                  exact absurd H (by simp)
              · replace c47 := Bool.eq_false_iff.mpr c47
                subst c47
                have H1 : (none) = some r := by rw [if_neg (show ¬ (false = true) by decide)] at H; exact H
                clear H
                have H := H1
                clear H1
                exact absurd H (by simp)

end Go.Proofs.YtfjamikpahmfhaaDoor.P
