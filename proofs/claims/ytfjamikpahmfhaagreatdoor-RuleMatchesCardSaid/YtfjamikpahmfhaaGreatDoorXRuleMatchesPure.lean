/- Plain law of RuleMatches: Find, Match, Denies of right rules are as the document says. -/
import Derived.Test.YtfjamikpahmfhaaGreatDoorXRuleRef
import Derived.Test.YtfjamikpahmfhaaGreatDoorPWaystonelaw07RuleMatches
set_option linter.unusedSimpArgs false
set_option linter.unusedVariables false
namespace Go.Proofs.YtfjamikpahmfhaaGreatDoor.P
open Go.RowKit Go.Proofs.YtfjamikpahmfhaaGreatDoor.T Go.Proofs.YtfjamikpahmfhaaGreatDoorW.PrintWords Go.Proofs.YtfjamikpahmfhaaGreatDoorW.PrintLast Go.Proofs.YtfjamikpahmfhaaGreatDoorW.PrintMore

theorem ruleMatches_pure (l : List Rl) (ho : okList l) (hb : l.length ≤ 9223372036854775807) (i d a : Int) : waystonelaw07_RuleMatches.f (l.length + 500) l i d a = some true := by
  unfold waystonelaw07_RuleMatches.f
  rw [refAllF_is l ho hb _ (by omega)]
  simp only [Option.bind_some]
  obtain ⟨k, hk⟩ : ∃ k, l.length + 500 = k + 1 := ⟨l.length + 499, rfl⟩
  have hj : waystonelaw07_RuleMatches.j0 (l.length + 500) l a true i d = some true := by
    rw [hk]
    simp only [waystonelaw07_RuleMatches.j0]
    rw [if_pos trivial, alive07_ge k (by omega)]
    rfl
  by_cases h60 : (l.length : Int) > 60
  · rw [if_pos h60]
    exact hj
  · rw [if_neg h60]
    cases hA : allB 0 l
    · exact hj
    · by_cases h40 : (l.length : Int) ≤ 40
      · rw [decide_eq_true h40, hk]
        have hasc := allB_asc l 0 hA
        have hright := allB_right l 0 hA
        simp only [waystonelaw07_RuleMatches.j0, Bool.and_self, Bool.not_true]
        rw [if_neg (by decide)]
        simp only [Option.bind_some, List.nil_append]
        rw [if_pos (by simp only [List.length_nil]; omega)]
        have f1 : rule_Find.f l i = some (pickT (findR l i)) := by
          unfold rule_Find.f
          rw [if_pos ⟨by omega, hasc⟩]
          rfl
        have f2 : rule_Match.f l d a = some (pickT (firstF (matchP d a) l)) := by
          unfold rule_Match.f
          rw [if_pos (by omega)]
          rfl
        have f3 : rule_Denies.f l d a = some ((firstF (deniesP d a) l).isSome && decide (((firstF (deniesP d a) l).getD z27).f3 = 3)) := by
          unfold rule_Denies.f
          rw [if_pos (by omega)]
        rw [f1, refFindF_is l i (by omega) k (by omega), f2, f3]
        unfold waystoneref07_Match.f waystoneref07_Denies.f
        rw [refFirstF_is l d a false (by omega) k (by omega), refFirstF_is l d a true (by omega) k (by omega), table_match hright, table_denies hright, refSameF_refl l (by omega) k (by omega), alive07_ge k (by omega)]
        simp only [pickT, Option.bind_some, beq_self_eq_true, Bool.and_self, if_true]
        cases h : firstF (deniesP d a) l <;> simp
        rfl
      · rw [decide_eq_false h40, Bool.and_false]
        exact hj
end Go.Proofs.YtfjamikpahmfhaaGreatDoor.P
