/- Plain law of RuleTells: whether a rule is right, rules are, and two lists are alike, is as the document says. -/
import Derived.Test.YtfjamikpahmfhaaDoorXRuleAlive
import Derived.Test.YtfjamikpahmfhaaDoorPWaystonelaw07RuleTells
set_option linter.unusedSimpArgs false
set_option linter.unusedVariables false
namespace Go.Proofs.YtfjamikpahmfhaaDoor.P
open Go.RowKit Go.Proofs.YtfjamikpahmfhaaDoor.T Go.Proofs.YtfjamikpahmfhaaDoorW.PrintWords Go.Proofs.YtfjamikpahmfhaaDoorW.PrintLast Go.Proofs.YtfjamikpahmfhaaDoorW.PrintMore

theorem refWithin_f (a c : Int) : waystoneref07_within.f a c = some (decide (0 ≤ a ∧ a ≤ c)) := by
  unfold waystoneref07_within.f
  by_cases h1 : 0 ≤ a
  · rw [if_pos h1]; simp [h1]
  · rw [if_neg h1]; simp [h1]
theorem refRight_f (x : Rl) (h0 : -9223372036854775808 ≤ x.f0 ∧ x.f0 ≤ 9223372036854775807) : waystoneref07_Right.f x.f0 x.f1 x.f2 x.f3 x.f4.f0 x.f4.f1 x.f5 = some (rightB x) := by
  have hw : decide (0 ≤ wrap64 (x.f0 - 1) ∧ wrap64 (x.f0 - 1) ≤ 1048575) = decide (1 ≤ x.f0 ∧ x.f0 ≤ 1048576) := by
    congr 1
    apply propext
    unfold wrap64
    omega
  unfold waystoneref07_Right.f rightB
  simp only [refWithin_f, Option.bind_some, hw]
  cases h1 : decide (1 ≤ x.f0 ∧ x.f0 ≤ 1048576) <;> cases h2 : decide (0 ≤ x.f1 ∧ x.f1 ≤ 7) <;> cases h3 : decide (0 ≤ x.f2 ∧ x.f2 ≤ 1024) <;> cases h4 : decide (0 ≤ x.f3 ∧ x.f3 ≤ 3) <;> cases h5 : decide (0 ≤ x.f5 ∧ x.f5 ≤ 3) <;> by_cases h6 : x.f3 = 0 <;> by_cases h7 : x.f5 = 0 <;> by_cases h8 : x.f4.f0 ≤ x.f4.f1 <;> simp [h6, h7, h8]
theorem all_both (l : List Rl) (ho : okList l) (hb : l.length < 9223372036854775807) : ∀ (m i k : Nat) (last : Int), l.length - i = m → i ≤ l.length → m + 1 ≤ k → (last = if i = 0 then 0 else (rd_T45 l ((i - 1 : Nat) : Int)).f0) →
    ∃ b, rule_All.l0 k l last l (l.length : Int) (i : Int) = some b ∧ waystoneref07_All.l0 k l (i : Int) = some b := by
  intro m
  induction m with
  | zero =>
    intro i k last hm hi hk hl
    obtain ⟨k', rfl⟩ : ∃ k', k = k' + 1 := ⟨k - 1, by omega⟩
    refine ⟨decide ((l.length : Int) ≤ 40), ?_, ?_⟩
    · simp only [rule_All.l0]
      rw [if_neg (by omega)]
    · simp only [waystoneref07_All.l0]
      rw [if_neg (by omega)]
  | succ m ih =>
    intro i k last hm hi hk hl
    obtain ⟨k', rfl⟩ : ∃ k', k = k' + 1 := ⟨k - 1, by omega⟩
    have hlt : i < l.length := by omega
    have c1 : (i : Int) < (l.length : Int) := by omega
    have c2 : (0 : Int) ≤ (i : Int) := by omega
    simp only [rule_All.l0, waystoneref07_All.l0]
    simp only [if_pos c1, if_pos c2]
    rw [rightRule_f, refRight_f _ (ho i hlt)]
    simp only [Option.bind_some]
    rw [wrap_succ i (by omega)]
    cases hr : rightB (rd_T45 l (i : Int))
    · exact ⟨false, by simp, by simp⟩
    · have hh := (rightB_iff _).1 hr
      rw [if_pos rfl, if_pos rfl]
      by_cases h0 : i = 0
      · subst h0
        rw [if_pos rfl] at hl
        have c3 : ¬ (rd_T45 l ((0 : Nat) : Int)).f0 ≤ last := by omega
        have c4 : ¬ ((0 : Nat) : Int) > 0 := by omega
        rw [if_neg c3, if_neg c4]
        exact ih 1 k' _ (by omega) (by omega) (by omega) (by simp)
      · rw [if_neg h0] at hl
        have hw : wrap64 ((i : Int) - 1) = ((i - 1 : Nat) : Int) := by unfold wrap64; omega
        have c3 : (i : Int) > 0 := by omega
        have c4 : (0 : Int) ≤ ((i - 1 : Nat) : Int) := by omega
        have c5 : ((i - 1 : Nat) : Int) < (l.length : Int) := by omega
        rw [if_pos c3, hw, if_pos c4, if_pos c5, ← hl]
        by_cases hc : (rd_T45 l (i : Int)).f0 ≤ last
        · exact ⟨false, by rw [if_pos hc], by rw [if_pos (show last ≥ _ from hc)]⟩
        · rw [if_neg hc, if_neg (show ¬ last ≥ _ from hc)]
          exact ih (i + 1) k' _ (by omega) (by omega) (by omega) (by simp)
theorem same_both (l0 l1 : List Rl) (hl : l0.length = l1.length) (hb : l0.length < 9223372036854775807) : ∀ (m i k : Nat), l0.length - i = m → i ≤ l0.length → m + 1 ≤ k →
    ∃ b, api_Rule.l0 k l0 l1 (l0.length : Int) (i : Int) = some b ∧ waystoneref07_Same.l0 k l0 l1 (i : Int) = some b := by
  intro m
  induction m with
  | zero =>
    intro i k hm hi hk
    obtain ⟨k', rfl⟩ : ∃ k', k = k' + 1 := ⟨k - 1, by omega⟩
    refine ⟨true, ?_, ?_⟩
    · simp only [api_Rule.l0]
      rw [if_neg (by omega)]
    · simp only [waystoneref07_Same.l0]
      rw [if_neg (by omega)]
  | succ m ih =>
    intro i k hm hi hk
    obtain ⟨k', rfl⟩ : ∃ k', k = k' + 1 := ⟨k - 1, by omega⟩
    have c1 : (i : Int) < (l0.length : Int) := by omega
    have c2 : (0 : Int) ≤ (i : Int) := by omega
    have c3 : (i : Int) < (l1.length : Int) := by omega
    simp only [api_Rule.l0, waystoneref07_Same.l0]
    simp only [if_pos c1, if_pos c2, if_pos c3]
    rw [wrap_succ i (by omega)]
    generalize (!((rd_T45 l0 (i : Int)).f0 == (rd_T45 l1 (i : Int)).f0) || _) = E
    cases E
    · rw [if_neg (by decide), if_neg (by decide)]
      exact ih (i + 1) k' (by omega) (by omega) (by omega)
    · exact ⟨false, by simp, by simp⟩
theorem same_f (l0 l1 : List Rl) (hb : l0.length < 9223372036854775807) (k : Nat) (hk : l0.length + 1 ≤ k) : ∃ b, rule_Same.f k l0 l1 = some b ∧ waystoneref07_Same.f k l0 l1 = some b := by
  unfold rule_Same.f waystoneref07_Same.f api_Rule.f
  by_cases hl : (l0.length : Int) = (l1.length : Int)
  · rw [if_pos hl, if_pos hl]
    obtain ⟨b, h1, h2⟩ := same_both l0 l1 (by omega) hb l0.length 0 k rfl (by omega) hk
    exact ⟨b, by rw [show (0 : Int) = ((0 : Nat) : Int) from rfl, h1]; rfl, h2⟩
  · rw [if_neg hl, if_neg hl]
    exact ⟨false, rfl, rfl⟩
theorem all_f (l : List Rl) (ho : okList l) (hb : l.length < 9223372036854775807) (k : Nat) (hk : l.length + 1 ≤ k) : ∃ b, rule_All.f k l = some b ∧ waystoneref07_All.f k l = some b :=
  all_both l ho hb l.length 0 k 0 rfl (by omega) hk (by simp)
theorem tells_loop (l0 l1 : List Rl) (ho : okList l0) (h60 : l0.length ≤ 60) : ∀ (m i k : Nat), l0.length - i = m → i ≤ l0.length → m + 200 ≤ k → waystonelaw07_RuleTells.l0 k l0 l1 (i : Int) = some true := by
  intro m
  induction m with
  | zero =>
    intro i k hm hi hk
    obtain ⟨k', rfl⟩ : ∃ k', k = k' + 1 := ⟨k - 1, by omega⟩
    simp only [waystonelaw07_RuleTells.l0]
    rw [if_neg (by omega), alive07_ge k' (by omega)]
    simp only [Option.bind_some]
    obtain ⟨b, h1, h2⟩ := all_f l0 ho (by omega) k' (by omega)
    obtain ⟨c, h3, h4⟩ := same_f l0 l1 (by omega) k' (by omega)
    rw [if_pos trivial, h1, h2]
    simp only [Option.bind_some]
    rw [if_pos (by simp), h3, h4]
    simp
  | succ m ih =>
    intro i k hm hi hk
    obtain ⟨k', rfl⟩ : ∃ k', k = k' + 1 := ⟨k - 1, by omega⟩
    have hlt : i < l0.length := by omega
    simp only [waystonelaw07_RuleTells.l0]
    have c1 : (i : Int) < (l0.length : Int) := by omega
    have c2 : (0 : Int) ≤ (i : Int) := by omega
    rw [if_pos c1, if_pos c2, rightRule_f, refRight_f _ (ho i hlt), wrap_succ i (by omega)]
    simp only [Option.bind_some]
    rw [if_neg (by simp)]
    exact ih (i + 1) k' (by omega) (by omega) (by omega)
theorem ruleTells_pure (l0 l1 : List Rl) (ho : okList l0) : waystonelaw07_RuleTells.f 400 l0 l1 = some true := by
  unfold waystonelaw07_RuleTells.f
  have hj : ∀ l1 : List Rl, waystonelaw07_RuleTells.j0 400 l0 l1 true = some true := fun l1 => by
    rw [show (400 : Nat) = 399 + 1 from rfl]
    simp only [waystonelaw07_RuleTells.j0]
    rw [if_pos trivial, alive07_ge 399 (by omega)]
    rfl
  split
  · exact hj l1
  · by_cases h1 : (l1.length : Int) > 60
    · rw [decide_eq_true h1]
      exact hj l1
    · rw [decide_eq_false h1, show (400 : Nat) = 399 + 1 from rfl]
      simp only [waystonelaw07_RuleTells.j0]
      rw [if_neg (by decide)]
      exact tells_loop l0 l1 ho (by omega) l0.length 0 399 rfl (by omega) (by omega)
end Go.Proofs.YtfjamikpahmfhaaDoor.P
