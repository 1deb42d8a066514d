/- Plain law of RuleApart: what a device goes by, and denies, of an address hangs on its own rules that take it alone. -/
import Derived.Test.YtfjamikpahmfhaaDoorXRuleAlive
import Derived.Test.YtfjamikpahmfhaaDoorPWaystonelaw07RuleApart
set_option linter.unusedSimpArgs false
set_option linter.unusedVariables false
namespace Go.Proofs.YtfjamikpahmfhaaDoor.P
open Go.RowKit Go.Proofs.YtfjamikpahmfhaaDoor.T Go.Proofs.YtfjamikpahmfhaaDoorW.PrintWords Go.Proofs.YtfjamikpahmfhaaDoorW.PrintLast Go.Proofs.YtfjamikpahmfhaaDoorW.PrintMore

theorem firstF_own (p t : Rl → Bool) (l : List Rl) (h : ∀ x, p x = true → t x = true) : firstF p (l.filter t) = firstF p l := by
  unfold firstF
  rw [List.filter_filter]
  congr 1
  apply List.filter_congr
  intro x _
  cases hp : p x
  · simp
  · simp [h x hp]
theorem match_own (dev a : Int) (l : List Rl) : firstF (matchP dev a) (l.filter (takesB dev a)) = firstF (matchP dev a) l :=
  firstF_own _ _ l fun x h => by unfold matchP at h; simp only [Bool.and_eq_true] at h; exact h.2
theorem denies_own (dev a : Int) (l : List Rl) : firstF (deniesP dev a) (l.filter (takesB dev a)) = firstF (deniesP dev a) l :=
  firstF_own _ _ l fun x h => by unfold deniesP at h; simp only [Bool.and_eq_true] at h; exact h.2
/-- rule.All answers. -/
theorem all_total (l : List Rl) (hb : l.length < 9223372036854775807) : ∀ (m i k : Nat) (last : Int), l.length - i = m → i ≤ l.length → m + 1 ≤ k → ∃ b, rule_All.l0 k l last l (l.length : Int) (i : Int) = some b := by
  intro m
  induction m with
  | zero =>
    intro i k last hm hi hk
    obtain ⟨k', rfl⟩ : ∃ k', k = k' + 1 := ⟨k - 1, by omega⟩
    refine ⟨decide ((l.length : Int) ≤ 40), ?_⟩
    simp only [rule_All.l0]
    rw [if_neg (by omega)]
  | succ m ih =>
    intro i k last hm hi hk
    obtain ⟨k', rfl⟩ : ∃ k', k = k' + 1 := ⟨k - 1, by omega⟩
    have c1 : (i : Int) < (l.length : Int) := by omega
    have c2 : (0 : Int) ≤ (i : Int) := by omega
    simp only [rule_All.l0, if_pos c1, if_pos c2]
    rw [rightRule_f, wrap_succ i (by omega)]
    simp only [Option.bind_some]
    cases hr : rightB (rd_T45 l (i : Int))
    · exact ⟨false, by simp⟩
    · rw [if_pos rfl]
      split
      · exact ⟨false, rfl⟩
      · exact ih (i + 1) k' _ (by omega) (by omega) (by omega)
theorem apart_loop (l : List Rl) (dev a : Int) (h60 : l.length ≤ 60) : ∀ (m i k : Nat) (own : List Rl), l.length - i = m → i ≤ l.length → m + 200 ≤ k → own = (l.take i).filter (takesB dev a) → waystonelaw07_RuleApart.l0 k l dev a own (i : Int) = some true := by
  intro m
  induction m with
  | zero =>
    intro i k own hm hi hk ho
    obtain ⟨k', rfl⟩ : ∃ k', k = k' + 1 := ⟨k - 1, by omega⟩
    obtain rfl : i = l.length := by omega
    rw [List.take_length] at ho
    have hol : own.length ≤ l.length := by rw [ho]; exact List.length_filter_le _ _
    simp only [waystonelaw07_RuleApart.l0]
    rw [if_neg (by omega)]
    have c1 : l.length * 48 ≤ 140737488351232 := by omega
    have c2 : own.length * 48 ≤ 140737488351232 := by omega
    unfold rule_Match.f rule_Denies.f
    rw [if_pos c1, if_pos c2, if_pos c1, if_pos c2, ho, match_own, denies_own, alive07_ge k' (by omega)]
    simp
  | succ m ih =>
    intro i k own hm hi hk ho
    obtain ⟨k', rfl⟩ : ∃ k', k = k' + 1 := ⟨k - 1, by omega⟩
    have hlt : i < l.length := by omega
    have hol : own.length ≤ l.length := by
      rw [ho]
      refine Nat.le_trans (List.length_filter_le _ _) ?_
      rw [List.length_take]
      omega
    have c1 : (i : Int) < (l.length : Int) := by omega
    have c2 : (0 : Int) ≤ (i : Int) := by omega
    have hx := rd_getElem l i hlt
    simp only [waystonelaw07_RuleApart.l0, if_pos c1, if_pos c2]
    rw [wrap_succ i (by omega), hx]
    have hnext : (l.take (i + 1)).filter (takesB dev a) = own ++ (if takesB dev a l[i] = true then [l[i]] else []) := by
      rw [List.take_succ_eq_append_getElem hlt, List.filter_append, ← ho]
      congr 1
      cases h : takesB dev a l[i] <;> simp [h]
    have hS : (⟨l[i].f0, l[i].f1, l[i].f2, l[i].f3, (⟨l[i].f4.f0, l[i].f4.f1⟩ : S26), l[i].f5⟩ : Rl) = l[i] := rfl
    have c5 : own.length < 2932031007402 := by omega
    by_cases d1 : l[i].f1 = dev
    · by_cases d2 : a ≥ l[i].f4.f0
      · by_cases d3 : a ≤ l[i].f4.f1
        · rw [if_pos d1, if_pos d2, if_pos d3, if_pos c5, hS]
          refine ih (i + 1) k' _ (by omega) (by omega) (by omega) ?_
          have ht : takesB dev a l[i] = true := by
            unfold takesB
            rw [decide_eq_true d1, decide_eq_true (show l[i].f4.f0 ≤ a from d2), decide_eq_true d3]
            rfl
          rw [hnext, if_pos ht]
        · rw [if_pos d1, if_pos d2, if_neg d3]
          refine ih (i + 1) k' _ (by omega) (by omega) (by omega) ?_
          rw [hnext, if_neg (by unfold takesB; simp [d3]), List.append_nil]
      · rw [if_pos d1, if_neg d2]
        refine ih (i + 1) k' _ (by omega) (by omega) (by omega) ?_
        have d2' : ¬ l[i].f4.f0 ≤ a := d2
        rw [hnext, if_neg (by unfold takesB; simp [d2']), List.append_nil]
    · rw [if_neg d1]
      refine ih (i + 1) k' _ (by omega) (by omega) (by omega) ?_
      rw [hnext, if_neg (by unfold takesB; simp [d1]), List.append_nil]
theorem ruleApart_pure (l : List Rl) (dev a : Int) : waystonelaw07_RuleApart.f 400 l dev a = some true := by
  unfold waystonelaw07_RuleApart.f
  have hj : waystonelaw07_RuleApart.j0 400 l dev a true = some true := by
    rw [show (400 : Nat) = 399 + 1 from rfl]
    simp only [waystonelaw07_RuleApart.j0]
    rw [if_pos trivial, alive07_ge 399 (by omega)]
    rfl
  split
  · exact hj
  · obtain ⟨b, hb⟩ := all_total l (by omega) l.length 0 400 0 rfl (by omega) (by omega)
    unfold rule_All.f
    rw [show (0 : Int) = ((0 : Nat) : Int) from rfl] at hb ⊢
    rw [hb]
    simp only [Option.bind_some]
    cases b
    · exact hj
    · rw [show (400 : Nat) = 399 + 1 from rfl]
      simp only [waystonelaw07_RuleApart.j0]
      rw [if_neg (by decide)]
      exact apart_loop l dev a (by omega) l.length 0 399 [] rfl (by omega) (by omega) (by simp)
end Go.Proofs.YtfjamikpahmfhaaDoor.P
