/- Printed by a program of the session out of the translation: what each function answers (.f), and that a call of it answers so (.calls). -/
import Derived.Test.YtfjamikpahmfhaaGreatDoorPKinds
import Derived.Test.YtfjamikpahmfhaaGreatDoorXNumber
import Derived.Test.YtfjamikpahmfhaaGreatDoorXSplit
namespace Go.Proofs.YtfjamikpahmfhaaGreatDoor.P
open Go.RowKit Go.Proofs.YtfjamikpahmfhaaGreatDoorW.PrintWords Go.Proofs.YtfjamikpahmfhaaGreatDoorW.PrintLast Go.Proofs.YtfjamikpahmfhaaGreatDoorW.PrintMore
attribute [local go_sem] max2_int min2_int max_two min_two max_three min_three max_four min_four   -- for this text's walks alone
set_option linter.unusedVariables false
set_option linter.unusedSimpArgs false

/-! ### prefix_ParseAddr: function 110 -/
def prefix_ParseAddr.l0 : Nat → Int → List ByteArray → Int → Int → Option (Int × Int)
  | 0, _, _, _, _ => none
  | k + 1, x5, x15, x16, x17 => if x17 < x16 then (if 0 ≤ x17 then (if x17 < (x15.length : Int) then ((prefix_number.f (rdOf ByteArray.empty x15 x17) 255).bind fun bt394 => (if bt394.2 = true then (prefix_ParseAddr.l0 k (Go.bits .or .u32 ((x5 * 256) % 4294967296) ((bt394.1) % 4294967296)) x15 x16 (wrap64 (x17 + 1))) else (some (0, 21)))) else (none)) else (none)) else (some (x5, 0))
def prefix_ParseAddr.f (k : Nat) (a0 : ByteArray) : Option (Int × Int) := (strings_Split.f a0 (⟨#[46]⟩ : ByteArray)).bind fun t390 => (if (t390.length : Int) = 4 then (prefix_ParseAddr.l0 k 0 t390 (t390.length : Int) 0) else (some (0, 21)))
theorem prefix_ParseAddr.mono_l : ∀ k, (∀ y0 y1 y2 y3, LeO (prefix_ParseAddr.l0 k y0 y1 y2 y3) (prefix_ParseAddr.l0 (k + 1) y0 y1 y2 y3))
  | 0 => fun _ _ _ _ r h => by simp [prefix_ParseAddr.l0] at h
  | k + 1 => by
    have ih0 := prefix_ParseAddr.mono_l k
    · intro y0 y1 y2 y3
      unfold prefix_ParseAddr.l0
      repeat' first
      | (with_reducible exact ih0 _ _ _ _)
      | (with_reducible exact LeO.refl _)
      | (with_reducible exact LeO.none _)
      | (with_reducible refine LeO.ite ?_ ?_)
      | (with_reducible refine LeO.bind ?_ (fun _ => ?_))
      | exact ih0 _ _ _ _
      | exact LeO.none _
      | refine LeO.ite ?_ ?_
      | refine LeO.bind ?_ (fun _ => ?_)
theorem prefix_ParseAddr.mono : ∀ a0 k, LeO (prefix_ParseAddr.f k a0) (prefix_ParseAddr.f (k + 1) a0) := by
  intro a0 k
  have ih0 := prefix_ParseAddr.mono_l k
  unfold prefix_ParseAddr.f
  repeat' first
      | (with_reducible exact ih0 _ _ _ _)
      | (with_reducible exact LeO.refl _)
      | (with_reducible exact LeO.none _)
      | (with_reducible refine LeO.ite ?_ ?_)
      | (with_reducible refine LeO.bind ?_ (fun _ => ?_))
      | exact ih0 _ _ _ _
      | exact LeO.none _
      | refine LeO.ite ?_ ?_
      | refine LeO.bind ?_ (fun _ => ?_)
set_option maxHeartbeats 8000000 in
set_option maxRecDepth 100000 in
theorem prefix_ParseAddr.calls (k : Nat) (a0 : ByteArray) (r1 : Int) (r2 : Int) (w : World) (HLd : Laid w) (h : prefix_ParseAddr.f k a0 = some (r1, r2)) :
    Calls Tryz.prog 110 #[.string a0] w fun e w' => e = .returned (.tuple #[.int .u32 r1, .int .i64 r2]) ∧ Below w.heap.size w w' := by
  have HB := Aside0.mk (Below.refl w.heap.size w)
  have H : ((strings_Split.f a0 (⟨#[46]⟩ : ByteArray)).bind fun t390 => (if (t390.length : Int) = 4 then (prefix_ParseAddr.l0 k 0 t390 (t390.length : Int) 0) else (some (0, 21)))) = some (r1, r2) := h
  clear h
  replace H := Option.bind_eq_some_iff.mp H
  obtain ⟨t390, A20, H⟩ := H
  replace H : (if (t390.length : Int) = 4 then (prefix_ParseAddr.l0 k 0 t390 (t390.length : Int) 0) else (some (0, 21))) = some (r1, r2) := H
  have A2 := Aside0.mk A20
  clear A20
  by_cases c3 : (t390.length : Int) = 4
  · rw [if_pos c3] at H
    have c3b0 : ((t390.length : Int) == 4) = true := beq_iff_eq.mpr c3
    have c3b1 : ((t390.length : Int) != 4) = false := bne_eq_false_iff_eq.mpr c3
    clear c3
    have H' := Aside0.mk H
    clear H
    go_enter Tryz.func110, Tryz.ntmps110
    go_wp2_with (first | ((with_reducible refine gate_callee (f := 56) rfl ?_); refine goesL_ (some 11) rfl rfl Tryz.func56 (by kernel_rfl) rfl #[.string a0, .string (⟨#[46]⟩ : ByteArray)] rfl (by (try simp only [List.map_toArray, List.map_cons, List.map_nil]); first | done | rfl | (simp only [List.length_drop, List.length_take]; rfl)) ?_; (with_reducible refine (strings_Split.calls a0 (⟨#[46]⟩ : ByteArray) t390 _ ?side1 A2.out).mono ?_); (case side1 => exact HLd.below (by repeat (first | (with_reducible first | exact HB.out | apply below_alloc | apply pw_below_drewN | apply below_drew1) | exact HB.out))); rintro e w4 ⟨v391, rfl, ho0, hb⟩; refine ⟨_, rfl, ?_⟩; have n0_ := Aside0.mk (Kd.R_lower ho0 (below_size (by repeat (first | (with_reducible first | exact HB.out | apply below_alloc | apply pw_below_drewN | apply below_drew1) | exact HB.out)))); have n1_ := Aside0.mk (below_step (by repeat (first | (with_reducible first | exact HB.out | apply below_alloc | apply pw_below_drewN | apply below_drew1) | exact HB.out)) hb); clear HB; have HO392 := n0_; have HB := n1_; clear n0_ n1_; (try clear hb); (try clear hb2); (try clear hk); (try clear hi); (try clear ho0); obtain ⟨Ao5, co5, eo5⟩ := Kd.R_slice HO392.out; subst eo5))
    go_loopg [5, 17] k (fun kq v5 v17 w' => ∃ (x5_1 : Int) (x17_1 : Int), v5 = .int .u32 x5_1 ∧ v17 = .int .i64 x17_1 ∧ Aside0 (prefix_ParseAddr.l0 kq x5_1 t390 (t390.length : Int) x17_1 = some (r1, r2)) ∧ Aside0 (kq ≤ k) ∧ Aside0 (Kd.R Kd.string 9 w' w.heap.size (fun _ => True) (.slice Ao5 t390.length co5) t390) ∧ Aside0 (Below w.heap.size w w'))
    case atStart => exact ⟨(0), (0), (by first | rfl | (simp; done) | (simp [*]; done)), (by first | rfl | (simp; done) | (simp [*]; done)), H', ⟨Nat.le_refl _⟩, ⟨by (with_reducible repeat (first | apply Kd.R_alloc | apply Kd.R_drewN | apply Kd.R_drew)); exact HO392.out⟩, ⟨by repeat (first | (with_reducible first | exact HB.out | apply below_alloc | apply pw_below_drewN | apply below_drew1) | exact HB.out)⟩⟩
    case round =>
      clear H'
      try clear c1
      try clear p2
      try clear c3
      try clear c3b0
      try clear c3b1
      try clear c5
      obtain ⟨x5_1, x17_1, rfl, rfl, HA, HK1, HO_15, HB⟩ := hrel
      cases gk with
      | zero => exact absurd HA.out (by simp [prefix_ParseAddr.l0])
      | succ k1 =>
        have H := HA.out
        clear HA
        simp only [prefix_ParseAddr.l0] at H
        by_cases c6 : x17_1 < (t390.length : Int)
        · rw [if_pos c6] at H
          have c6b0 : decide (x17_1 < (t390.length : Int)) = true := decide_eq_true c6
          clear c6
          by_cases c7 : 0 ≤ x17_1
          · rw [if_pos c7] at H
            have c7b0 : decide (0 ≤ x17_1) = true := decide_eq_true c7
            clear c7
            by_cases c8 : x17_1 < (t390.length : Int)
            · rw [if_pos c8] at H
              have c8b0 : decide (x17_1 < (t390.length : Int)) = true := decide_eq_true c8
              clear c8
              replace H := Option.bind_eq_some_iff.mp H
              obtain ⟨⟨t394, t395⟩, A90, H⟩ := H
              replace H : (if t395 = true then (prefix_ParseAddr.l0 k1 (Go.bits .or .u32 ((x5_1 * 256) % 4294967296) ((t394) % 4294967296)) t390 (t390.length : Int) (wrap64 (x17_1 + 1))) else (some (0, 21))) = some (r1, r2) := H
              have A9 := Aside0.mk A90
              clear A90
              by_cases c10 : t395 = true
              · subst c10
                have H1 : (prefix_ParseAddr.l0 k1 (Go.bits .or .u32 ((x5_1 * 256) % 4294967296) ((t394) % 4294967296)) t390 (t390.length : Int) (wrap64 (x17_1 + 1))) = some (r1, r2) := by rw [if_pos rfl] at H; exact H
                clear H
                have H := H1
                clear H1
                have H' := Aside0.mk H
                clear H
                have p393 : 0 ≤ (x17_1 : Int) := of_decide_eq_true (by first | (with_reducible assumption) | assumption)
                have q393 : x17_1 < (t390.length : Int) := of_decide_eq_true (by first | (with_reducible assumption) | assumption)
                obtain ⟨ad393, e393, hx393_0⟩ := Kd.at_string (Kd.R_reads' HO_15.out).2.2 x17_1 p393 q393
                cases e393
                replace p393 := eq_true p393
                replace q393 := eq_true q393
                go_wp2_with (first | ((with_reducible refine gate_callee (f := 151) rfl ?_); refine goesL_ (some 23) rfl rfl Tryz.func151 (by kernel_rfl) rfl #[.string (rdOf ByteArray.empty t390 x17_1), .int .i64 255] rfl (by (try simp only [List.map_toArray, List.map_cons, List.map_nil]); first | done | rfl | (simp only [List.length_drop, List.length_take]; rfl)) ?_; (with_reducible refine (prefix_number.calls (rdOf ByteArray.empty t390 x17_1) 255 t394 true _ ?side1 A9.out).mono ?_); (case side1 => exact HLd.below (by repeat (first | (with_reducible first | exact HB.out | apply below_alloc | apply pw_below_drewN | apply below_drew1) | exact HB.out))); rintro e w11 ⟨rfl, hb⟩; refine ⟨_, rfl, ?_⟩; have n0_ := Aside0.mk (Kd.R_below (by (with_reducible repeat (first | apply Kd.R_alloc | apply Kd.R_drewN | apply Kd.R_drew)); exact HO_15.out) hb); have n1_ := Aside0.mk (below_step (by repeat (first | (with_reducible first | exact HB.out | apply below_alloc | apply pw_below_drewN | apply below_drew1) | exact HB.out)) hb); clear HO_15; clear HB; have HO_15 := n0_; have HB := n1_; clear n0_ n1_; (try clear hb); (try clear hb2); (try clear hk); (try clear hi)))
                go_roundg k1
                case measure => have := HK1.out; omega
                case rel => exact ⟨(Go.bits .or .u32 ((x5_1 * 256) % 4294967296) ((t394) % 4294967296)), (wrap64 (x17_1 + 1)), (by first | rfl | (simp; done) | (simp [*]; done)), (by first | rfl | (simp; done) | (simp [*]; done)), H', ⟨by have := HK1.out; omega⟩, ⟨by (with_reducible repeat (first | apply Kd.R_alloc | apply Kd.R_drewN | apply Kd.R_drew)); exact HO_15.out⟩, ⟨by repeat (first | (with_reducible first | exact HB.out | apply below_alloc | apply pw_below_drewN | apply below_drew1) | exact HB.out)⟩⟩
              · replace c10 := Bool.eq_false_iff.mpr c10
                subst c10
                have H1 : (some (0, 21)) = some (r1, r2) := by rw [if_neg (show ¬ (false = true) by decide)] at H; exact H
                clear H
                have H := H1
                clear H1
                simp only [Option.some.injEq, Prod.mk.injEq] at H
                obtain ⟨rfl, rfl⟩ := H
                have p393 : 0 ≤ (x17_1 : Int) := of_decide_eq_true (by first | (with_reducible assumption) | assumption)
                have q393 : x17_1 < (t390.length : Int) := of_decide_eq_true (by first | (with_reducible assumption) | assumption)
                obtain ⟨ad393, e393, hx393_0⟩ := Kd.at_string (Kd.R_reads' HO_15.out).2.2 x17_1 p393 q393
                cases e393
                replace p393 := eq_true p393
                replace q393 := eq_true q393
                go_wp2_with (first | ((with_reducible refine gate_callee (f := 151) rfl ?_); refine goesL_ (some 23) rfl rfl Tryz.func151 (by kernel_rfl) rfl #[.string (rdOf ByteArray.empty t390 x17_1), .int .i64 255] rfl (by (try simp only [List.map_toArray, List.map_cons, List.map_nil]); first | done | rfl | (simp only [List.length_drop, List.length_take]; rfl)) ?_; (with_reducible refine (prefix_number.calls (rdOf ByteArray.empty t390 x17_1) 255 t394 false _ ?side1 A9.out).mono ?_); (case side1 => exact HLd.below (by repeat (first | (with_reducible first | exact HB.out | apply below_alloc | apply pw_below_drewN | apply below_drew1) | exact HB.out))); rintro e w12 ⟨rfl, hb⟩; refine ⟨_, rfl, ?_⟩; have n0_ := Aside0.mk (Kd.R_below (by (with_reducible repeat (first | apply Kd.R_alloc | apply Kd.R_drewN | apply Kd.R_drew)); exact HO_15.out) hb); have n1_ := Aside0.mk (below_step (by repeat (first | (with_reducible first | exact HB.out | apply below_alloc | apply pw_below_drewN | apply below_drew1) | exact HB.out)) hb); clear HO_15; clear HB; have HO_15 := n0_; have HB := n1_; clear n0_ n1_; (try clear hb); (try clear hb2); (try clear hk); (try clear hi)))
                go_ret2
                exact ⟨by first | rfl | (simp [errW_none, errW_some] <;> rfl) | (simp [*, errW_none, errW_some] <;> rfl), by repeat (first | (with_reducible first | exact HB.out | apply below_alloc | apply pw_below_drewN | apply below_drew1) | exact HB.out)⟩
            · rw [if_neg c8] at H
              exact absurd H (by simp)
          · rw [if_neg c7] at H
            exact absurd H (by simp)
        · rw [if_neg c6] at H
          have c6b0 : decide (x17_1 < (t390.length : Int)) = false := decide_eq_false c6
          clear c6
          simp only [Option.some.injEq, Prod.mk.injEq] at H
          obtain ⟨rfl, rfl⟩ := H
          go_wp2
          go_ret2
          exact ⟨by first | rfl | (simp [errW_none, errW_some] <;> rfl) | (simp [*, errW_none, errW_some] <;> rfl), by repeat (first | (with_reducible first | exact HB.out | apply below_alloc | apply pw_below_drewN | apply below_drew1) | exact HB.out)⟩
  · rw [if_neg c3] at H
    have c3b0 : ((t390.length : Int) == 4) = false := beq_eq_false_iff_ne.mpr c3
    have c3b1 : ((t390.length : Int) != 4) = true := bne_iff_ne.mpr c3
    simp only [Option.some.injEq, Prod.mk.injEq] at H
    obtain ⟨rfl, rfl⟩ := H
    go_enter Tryz.func110, Tryz.ntmps110
    go_wp2_with (first | ((with_reducible refine gate_callee (f := 56) rfl ?_); refine goesL_ (some 11) rfl rfl Tryz.func56 (by kernel_rfl) rfl #[.string a0, .string (⟨#[46]⟩ : ByteArray)] rfl (by (try simp only [List.map_toArray, List.map_cons, List.map_nil]); first | done | rfl | (simp only [List.length_drop, List.length_take]; rfl)) ?_; (with_reducible refine (strings_Split.calls a0 (⟨#[46]⟩ : ByteArray) t390 _ ?side1 A2.out).mono ?_); (case side1 => exact HLd.below (by repeat (first | (with_reducible first | exact HB.out | apply below_alloc | apply pw_below_drewN | apply below_drew1) | exact HB.out))); rintro e w13 ⟨v391, rfl, ho0, hb⟩; refine ⟨_, rfl, ?_⟩; have n0_ := Aside0.mk (Kd.R_lower ho0 (below_size (by repeat (first | (with_reducible first | exact HB.out | apply below_alloc | apply pw_below_drewN | apply below_drew1) | exact HB.out)))); have n1_ := Aside0.mk (below_step (by repeat (first | (with_reducible first | exact HB.out | apply below_alloc | apply pw_below_drewN | apply below_drew1) | exact HB.out)) hb); clear HB; have HO392 := n0_; have HB := n1_; clear n0_ n1_; (try clear hb); (try clear hb2); (try clear hk); (try clear hi); (try clear ho0); obtain ⟨Ao14, co14, eo14⟩ := Kd.R_slice HO392.out; subst eo14))
    go_ret2
    exact ⟨by first | rfl | (simp [errW_none, errW_some] <;> rfl) | (simp [*, errW_none, errW_some] <;> rfl), by repeat (first | (with_reducible first | exact HB.out | apply below_alloc | apply pw_below_drewN | apply below_drew1) | exact HB.out)⟩

end Go.Proofs.YtfjamikpahmfhaaGreatDoor.P
