/- prefix.number and rule.number, strconv.Itoa: what they answer, in the print's form. -/
import Derived.Test.YtfjamikpahmfhaaGreatDoorXLaid
namespace Go.Proofs.YtfjamikpahmfhaaGreatDoor.P
open Go.RowKit Go.Proofs.YtfjamikpahmfhaaGreatDoorW.PrintWords Go.Proofs.YtfjamikpahmfhaaGreatDoorW.PrintLast Go.Proofs.YtfjamikpahmfhaaGreatDoorW.PrintMore
set_option linter.unusedVariables false

def strconv_Itoa.f (a0 : Int) : Option ByteArray := if -9223372036854775808 ≤ a0 ∧ a0 ≤ 9223372036854775807 then some ⟨(Lib.itoa a0).toArray⟩ else none
theorem strconv_Itoa.calls (a0 : Int) (r : ByteArray) (w : World) (HLd : Laid w) (h : strconv_Itoa.f a0 = some r) :
    Calls Tryz.prog 48 #[.int .i64 a0] w fun e w' => e = .returned (.string r) ∧ Below w.heap.size w w' := by
  unfold strconv_Itoa.f at h
  split at h
  · rename_i hb
    obtain rfl := Option.some.inj h
    exact itoa_calls a0 w HLd hb.1 hb.2
  · cases h

def prefix_number.f (a0 : ByteArray) (a1 : Int) : Option (Int × Bool) :=
  if a0.size ≤ 281474976710656 then some ((atoiV a0).1, (atoiV a0).2 && (decide (0 ≤ (atoiV a0).1) && (decide ((atoiV a0).1 ≤ a1) && (Lib.itoa (atoiV a0).1 == a0.toList)))) else none
set_option maxHeartbeats 400000 in
theorem prefix_number.calls (a0 : ByteArray) (a1 : Int) (r1 : Int) (r2 : Bool) (w : World) (HLd : Laid w) (h : prefix_number.f a0 a1 = some (r1, r2)) :
    Calls Tryz.prog 151 #[.string a0, .int .i64 a1] w fun e w' => e = .returned (.tuple #[.int .i64 r1, .bool r2]) ∧ Below w.heap.size w w' := by
  unfold prefix_number.f at h
  split at h
  case isFalse => cases h
  rename_i hs
  have hh := Option.some.inj h
  clear h
  obtain ⟨rfl, rfl⟩ := Prod.mk.inj hh
  clear hh
  obtain ⟨b1, b2⟩ := atoiV_bounds a0
  cases hok : (atoiV a0).2
  · have A0 := atoi_err a0 w HLd hs hok
    clear hok
    generalize (atoiV a0).1 = v at *
    go_enter Tryz.func151, Tryz.ntmps151
    go_wp2_with (go_at_call 111; refine A0.mono ?_; rintro e w1 ⟨N, rfl, hb⟩)
    go_ret2
    exact ⟨rfl, hb⟩
  · have A0 := atoi_ok a0 w hs hok
    clear hok
    generalize (atoiV a0).1 = v at *
    by_cases c1 : 0 ≤ v
    · by_cases c2 : v ≤ a1
      · have d1 : decide (0 ≤ v) = true := decide_eq_true c1
        have d2 : decide (v ≤ a1) = true := decide_eq_true c2
        go_enter Tryz.func151, Tryz.ntmps151
        go_wp2_with (first | (go_at_call 111; refine A0.mono ?_; rintro e w1 ⟨rfl, hb⟩) | (go_at_call 48; refine (itoa_calls _ _ (HLd.below hb) b1 b2).mono ?_; rintro e w2 ⟨rfl, hb2⟩))
        go_ret2
        refine ⟨?_, hb.trans (hb2.mono hb.size)⟩
        rw [d1, d2]; rfl
      · have d1 : decide (0 ≤ v) = true := decide_eq_true c1
        have d2 : decide (v ≤ a1) = false := decide_eq_false c2
        go_enter Tryz.func151, Tryz.ntmps151
        go_wp2_with (go_at_call 111; refine A0.mono ?_; rintro e w1 ⟨rfl, hb⟩)
        go_ret2
        exact ⟨by rw [d1, d2]; rfl, hb⟩
    · have d1 : decide (0 ≤ v) = false := decide_eq_false c1
      go_enter Tryz.func151, Tryz.ntmps151
      go_wp2_with (go_at_call 111; refine A0.mono ?_; rintro e w1 ⟨rfl, hb⟩)
      go_ret2
      exact ⟨by rw [d1]; rfl, hb⟩

def rule_number.f (a0 : ByteArray) : Option Int := if a0.size ≤ 281474976710656 then some (if (atoiV a0).2 && (Lib.itoa (atoiV a0).1 == a0.toList) then (atoiV a0).1 else -1) else none
set_option maxHeartbeats 400000 in
theorem rule_number.calls (a0 : ByteArray) (r : Int) (w : World) (HLd : Laid w) (h : rule_number.f a0 = some r) :
    Calls Tryz.prog 59 #[.string a0] w fun e w' => e = .returned (.int .i64 r) ∧ Below w.heap.size w w' := by
  unfold rule_number.f at h
  split at h
  case isFalse => cases h
  rename_i hs
  have hh := Option.some.inj h
  clear h
  subst hh
  obtain ⟨b1, b2⟩ := atoiV_bounds a0
  cases hok : (atoiV a0).2
  · have A0 := atoi_err a0 w HLd hs hok
    clear hok
    generalize (atoiV a0).1 = v at *
    go_enter Tryz.func59, Tryz.ntmps59
    go_wp2_with (go_at_call 111; refine A0.mono ?_; rintro e w1 ⟨N, rfl, hb⟩)
    go_ret
    exact ⟨rfl, hb⟩
  · have A0 := atoi_ok a0 w hs hok
    clear hok
    generalize (atoiV a0).1 = v at *
    cases hc : Lib.itoa v == a0.toList
    all_goals
      have hc2 : (!(Lib.itoa v == a0.toList)) = _ := congrArg Bool.not hc
      go_enter Tryz.func59, Tryz.ntmps59
      go_wp2_with (first | (go_at_call 111; refine A0.mono ?_; rintro e w1 ⟨rfl, hb⟩) | (go_at_call 48; refine (itoa_calls _ _ (HLd.below hb) b1 b2).mono ?_; rintro e w2 ⟨rfl, hb2⟩))
      go_ret
      exact ⟨rfl, hb.trans (hb2.mono hb.size)⟩
end Go.Proofs.YtfjamikpahmfhaaGreatDoor.P
