/- Plain law of RuleFirst: the rule that a device goes by is its own, takes the address, and comes first. -/
import Derived.Test.YtfjamikpahmfhaaDoorXRuleAll
import Derived.Test.YtfjamikpahmfhaaDoorPWaystonelaw07RuleFirst
set_option linter.unusedSimpArgs false
set_option linter.unusedVariables false
namespace Go.Proofs.YtfjamikpahmfhaaDoor.P
open Go.RowKit Go.Proofs.YtfjamikpahmfhaaDoor.T Go.Proofs.YtfjamikpahmfhaaDoorW.PrintWords Go.Proofs.YtfjamikpahmfhaaDoorW.PrintLast Go.Proofs.YtfjamikpahmfhaaDoorW.PrintMore

theorem first_loop (l : List Rl) (dev a : Int) (h60 : l.length ≤ 60) (hA : allB 0 l = true) (X : Option Rl) (hX : X = firstF (matchP dev a) l) : ∀ (m i k : Nat) (sm : Bool), l.length - i = m → i ≤ l.length → 2 * m + 200 ≤ k → sm = (l.take i).any (matchP dev a) →
    waystonelaw07_RuleFirst.l0 k l dev a X.isSome sm (i : Int) (X.getD z45).f0 (X.getD z45).f1 (X.getD z45).f2 (X.getD z45).f3 (X.getD z45).f4.f0 (X.getD z45).f4.f1 (X.getD z45).f5 = some true := by
  have hS := firstF_isSome (matchP dev a) l
  have hasc := allB_asc l 0 hA
  have hright := allB_right l 0 hA
  intro m
  induction m with
  | zero =>
    intro i k sm hm hi hk hs
    obtain ⟨k', rfl⟩ : ∃ k', k = k' + 1 := ⟨k - 1, by omega⟩
    obtain rfl : i = l.length := by omega
    rw [List.take_length, ← hS, ← hX] at hs
    subst hs
    simp only [waystonelaw07_RuleFirst.l0]
    rw [if_neg (by omega)]
    unfold rule_Find.f
    rw [if_pos ⟨by omega, hasc⟩, alive07_ge k' (by omega)]
    simp only [Option.bind_some]
    rw [if_pos trivial]
    cases X with
    | none => simp
    | some x =>
      obtain ⟨h1, h2, h3⟩ := firstF_some hX.symm
      have hd : x.f1 = dev := by
        unfold matchP takesB at h2
        simp only [Bool.and_eq_true, decide_eq_true_eq] at h2
        exact h2.2.1.1
      simp only [Option.isSome_some, Option.getD_some]
      rw [asc_find hasc h1]
      simp [hd]
  | succ m ih =>
    intro i k sm hm hi hk hs
    obtain ⟨k', rfl⟩ : ∃ k', k = k' + 1 := ⟨k - 1, by omega⟩
    obtain ⟨k'', rfl⟩ : ∃ k'', k' = k'' + 1 := ⟨k' - 1, by omega⟩
    have hlt : i < l.length := by omega
    have c1 : (i : Int) < (l.length : Int) := by omega
    have c2 : (0 : Int) ≤ (i : Int) := by omega
    have hmem : l[i] ∈ l := List.getElem_mem hlt
    have hrt := (rightB_iff _).1 (hright _ hmem)
    have hnext : (l.take (i + 1)).any (matchP dev a) = (sm || matchP dev a l[i]) := by
      rw [List.take_succ_eq_append_getElem hlt, List.any_append, ← hs]
      simp
    have go_on : ∀ sm', sm' = (sm || matchP dev a l[i]) → waystonelaw07_RuleFirst.l0 k'' l dev a X.isSome sm' (wrap64 ((i : Int) + 1)) (X.getD z45).f0 (X.getD z45).f1 (X.getD z45).f2 (X.getD z45).f3 (X.getD z45).f4.f0 (X.getD z45).f4.f1 (X.getD z45).f5 = some true := fun sm' hsm => by
      rw [wrap_succ i (by omega)]
      exact ih (i + 1) k'' sm' (by omega) (by omega) (by omega) (by rw [hsm, hnext])
    have skip : ∀ {p0 p1 p2 p3 p4 p5 p6 : Int}, matchP dev a l[i] = false → waystonelaw07_RuleFirst.j2 (k'' + 1) l dev a X.isSome sm (i : Int) true (X.getD z45).f0 (X.getD z45).f1 (X.getD z45).f2 (X.getD z45).f3 (X.getD z45).f4.f0 (X.getD z45).f4.f1 (X.getD z45).f5 p0 p1 p2 p3 p4 p5 p6 = some true := fun hp => by
      simp only [waystonelaw07_RuleFirst.j2]
      rw [if_pos trivial]
      exact go_on sm (by rw [hp]; simp)
    simp only [waystonelaw07_RuleFirst.l0, if_pos c1, if_pos c2, rdR l i hlt]
    by_cases d1 : l[i].f1 = dev
    · rw [if_pos d1]
      by_cases d2 : a < l[i].f4.f0
      · rw [if_pos d2]
        exact skip (by unfold matchP takesB; simp; omega)
      · rw [if_neg d2]
        by_cases d3 : a > l[i].f4.f1
        · rw [if_pos d3]
          exact skip (by unfold matchP takesB; simp; omega)
        · rw [if_neg d3]
          by_cases d4 : l[i].f3 = 2
          · rw [if_pos d4]
            exact skip (by unfold matchP takesB; simp; omega)
          · rw [if_neg d4]
            by_cases d5 : l[i].f3 = 3
            · rw [show (l[i].f3 == 3) = true by simp [d5]]
              exact skip (by unfold matchP takesB; simp; omega)
            · rw [show (l[i].f3 == 3) = false by simp [d5]]
              have hmt : matchP dev a l[i] = true := by
                unfold matchP takesB
                simp only [Bool.and_eq_true, decide_eq_true_eq]
                omega
              have hany : l.any (matchP dev a) = true := List.any_eq_true.2 ⟨_, hmem, hmt⟩
              obtain ⟨x, hx⟩ : ∃ x, X = some x := Option.isSome_iff_exists.1 (by rw [hX, hS, hany])
              obtain ⟨h1, h2, h3⟩ := firstF_some (hX.symm.trans hx)
              have hb := h3 _ hmem hmt
              unfold Better at hb
              have gx : X.getD z45 = x := by rw [hx]; rfl
              have t1 : ¬ l[i].f2 > (X.getD z45).f2 := by rw [gx]; omega
              simp only [waystonelaw07_RuleFirst.j2]
              rw [if_neg (by decide), if_neg t1]
              have on := go_on true (by rw [hmt]; simp)
              split
              · rw [if_neg (by rw [gx] at *; omega)]
                exact on
              · exact on
    · rw [if_neg d1]
      exact skip (by unfold matchP takesB; simp [d1])
theorem ruleFirst_pure (l : List Rl) (dev a : Int) : waystonelaw07_RuleFirst.f 400 l dev a = some true := by
  unfold waystonelaw07_RuleFirst.f
  have hj : waystonelaw07_RuleFirst.j0 400 l dev a true = some true := by
    rw [show (400 : Nat) = 399 + 1 from rfl]
    simp only [waystonelaw07_RuleFirst.j0]
    rw [if_pos trivial, alive07_ge 399 (by omega)]
    rfl
  split
  · exact hj
  · rename_i hle
    rw [allF_is l (by omega) 400 (by omega)]
    simp only [Option.bind_some]
    cases hA : allB 0 l
    · exact hj
    · by_cases h40 : (l.length : Int) ≤ 40
      · rw [decide_eq_true h40, show (400 : Nat) = 399 + 1 from rfl]
        simp only [waystonelaw07_RuleFirst.j0, Bool.and_self, Bool.not_true]
        rw [if_neg (by decide)]
        unfold rule_Match.f
        rw [if_pos (by omega)]
        simp only [Option.bind_some]
        exact first_loop l dev a (by omega) hA _ rfl l.length 0 399 false (by omega) (by omega) (by omega) (by simp)
      · rw [decide_eq_false h40]
        exact hj
end Go.Proofs.YtfjamikpahmfhaaDoor.P
