/- Plain laws of rules: what rule.All tells; the first of the rules that are asked. -/
import Derived.Test.YtfjamikpahmfhaaGreatDoorXRuleAlive
import Derived.Test.YtfjamikpahmfhaaGreatDoorXFind
set_option linter.unusedSimpArgs false
set_option linter.unusedVariables false
namespace Go.Proofs.YtfjamikpahmfhaaGreatDoor.P
open Go.RowKit Go.Proofs.YtfjamikpahmfhaaGreatDoor.T Go.Proofs.YtfjamikpahmfhaaGreatDoorW.PrintWords Go.Proofs.YtfjamikpahmfhaaGreatDoorW.PrintLast Go.Proofs.YtfjamikpahmfhaaGreatDoorW.PrintMore

/-- Each rule is right, and the IDs rise, from above a number on. -/
def allB : Int → List Rl → Bool
  | _, [] => true
  | last, x :: r => rightB x && (decide (last < x.f0) && allB x.f0 r)
theorem all_is (l : List Rl) (hb : l.length < 9223372036854775807) : ∀ (m i k : Nat) (last : Int), l.length - i = m → i ≤ l.length → m + 1 ≤ k → rule_All.l0 k l last l (l.length : Int) (i : Int) = some (allB last (l.drop i) && decide ((l.length : Int) ≤ 40)) := by
  intro m
  induction m with
  | zero =>
    intro i k last hm hi hk
    obtain ⟨k', rfl⟩ : ∃ k', k = k' + 1 := ⟨k - 1, by omega⟩
    obtain rfl : i = l.length := by omega
    simp only [rule_All.l0]
    rw [if_neg (by omega), List.drop_length]
    simp [allB]
  | succ m ih =>
    intro i k last hm hi hk
    obtain ⟨k', rfl⟩ : ∃ k', k = k' + 1 := ⟨k - 1, by omega⟩
    have hlt : i < l.length := by omega
    have c1 : (i : Int) < (l.length : Int) := by omega
    have c2 : (0 : Int) ≤ (i : Int) := by omega
    simp only [rule_All.l0, if_pos c1, if_pos c2]
    rw [rightRule_f, wrap_succ i (by omega), List.drop_eq_getElem_cons hlt, rdR l i hlt]
    simp only [Option.bind_some, allB]
    cases hr : rightB l[i]
    · simp
    · rw [if_pos rfl]
      by_cases h1 : l[i].f0 ≤ last
      · rw [if_pos h1]
        have : decide (last < l[i].f0) = false := decide_eq_false (by omega)
        simp [this]
      · rw [if_neg h1, ih (i + 1) k' _ (by omega) (by omega) (by omega)]
        have : decide (last < l[i].f0) = true := decide_eq_true (by omega)
        simp [this]
theorem allF_is (l : List Rl) (hb : l.length < 9223372036854775807) (k : Nat) (hk : l.length + 1 ≤ k) : rule_All.f k l = some (allB 0 l && decide ((l.length : Int) ≤ 40)) := by
  have := all_is l hb l.length 0 k 0 (by omega) (by omega) hk
  unfold rule_All.f
  exact this
theorem allB_mono : ∀ (l : List Rl) (a b : Int), b ≤ a → allB a l = true → allB b l = true
  | [], _, _, _, _ => rfl
  | x :: r, a, b, hab, h => by
    simp only [allB, Bool.and_eq_true, decide_eq_true_eq] at h ⊢
    exact ⟨h.1, by omega, h.2.2⟩
theorem allB_gt : ∀ (l : List Rl) (a : Int), allB a l = true → ∀ x ∈ l, a < x.f0
  | [], _, _, _, hx => by cases hx
  | y :: r, a, h, x, hx => by
    simp only [allB, Bool.and_eq_true, decide_eq_true_eq] at h
    rcases List.mem_cons.1 hx with rfl | hx
    · exact h.2.1
    · have := allB_gt r y.f0 h.2.2 x hx
      omega
theorem allB_asc : ∀ (l : List Rl) (a : Int), allB a l = true → Asc l
  | [], _, _ => List.Pairwise.nil
  | y :: r, a, h => by
    simp only [allB, Bool.and_eq_true, decide_eq_true_eq] at h
    exact List.Pairwise.cons (fun x hx => allB_gt r y.f0 h.2.2 x hx) (allB_asc r y.f0 h.2.2)
theorem allB_right : ∀ (l : List Rl) (a : Int), allB a l = true → ∀ x ∈ l, rightB x = true
  | [], _, _, _, hx => by cases hx
  | y :: r, a, h, x, hx => by
    simp only [allB, Bool.and_eq_true, decide_eq_true_eq] at h
    rcases List.mem_cons.1 hx with rfl | hx
    · exact h.1
    · exact allB_right r y.f0 h.2.2 x hx
theorem asc_find {l : List Rl} (h : Asc l) {x : Rl} (hx : x ∈ l) : findR l x.f0 = some x := by
  obtain ⟨i, hi, rfl⟩ := List.getElem_of_mem hx
  refine find_at hi (fun a ha => ?_) (by rw [rdR l i hi])
  have := asc_sorted h a i ha hi
  rwa [rdR l i hi] at this
/-- One rule comes ahead of another one. -/
def Better (x y : Rl) : Prop := y.f2 < x.f2 ∨ (x.f2 = y.f2 ∧ x.f0 < y.f0)
theorem aheadI_neg (x y : Rl) : aheadI x y < 0 ↔ Better x y := by
  unfold aheadI Better
  repeat' split
  all_goals (constructor <;> intro h <;> omega)
theorem minR_mem : ∀ (l : List Rl) (m : Rl), minR m l ∈ m :: l
  | [], m => by simp [minR]
  | x :: r, m => by
    simp only [minR]
    have := minR_mem r (if aheadI x m < 0 then x else m)
    generalize minR (if aheadI x m < 0 then x else m) r = z at *
    rcases List.mem_cons.1 this with h | h
    · split at h
      · rw [h]; simp
      · rw [h]; simp
    · simp [h]
theorem minR_least : ∀ (l : List Rl) (m : Rl), ∀ y ∈ m :: l, ¬ Better y (minR m l)
  | [], m, y, hy => by
    obtain rfl : y = m := by simpa using hy
    simp only [minR, Better]
    omega
  | x :: r, m, y, hy => by
    simp only [minR]
    have ih := minR_least r (if aheadI x m < 0 then x else m)
    have i0 := ih (if aheadI x m < 0 then x else m) (by simp)
    have ha := aheadI_neg x m
    generalize minR (if aheadI x m < 0 then x else m) r = z at *
    rcases List.mem_cons.1 hy with rfl | hy
    · by_cases h : aheadI x y < 0
      · rw [if_pos h] at i0
        have hb := ha.1 h
        unfold Better at *
        omega
      · rw [if_neg h] at i0
        exact i0
    · rcases List.mem_cons.1 hy with rfl | hy
      · by_cases h : aheadI y m < 0
        · rw [if_pos h] at i0
          exact i0
        · rw [if_neg h] at i0
          have hb : ¬ Better y m := fun hb => h (ha.2 hb)
          unfold Better at *
          omega
      · exact ih y (by simp [hy])
theorem firstF_some {p : Rl → Bool} {l : List Rl} {x : Rl} (h : firstF p l = some x) : x ∈ l ∧ p x = true ∧ ∀ y ∈ l, p y = true → ¬ Better y x := by
  unfold firstF at h
  cases hf : l.filter p with
  | nil => rw [hf] at h; cases h
  | cons m r =>
    rw [hf] at h
    simp only [headMin, Option.some.injEq] at h
    have hm := minR_mem r m
    rw [h, ← hf] at hm
    have hm2 := List.mem_filter.1 hm
    refine ⟨hm2.1, hm2.2, fun y hy hp => ?_⟩
    have := minR_least r m y (by rw [← hf]; exact List.mem_filter.2 ⟨hy, hp⟩)
    rwa [h] at this
theorem firstF_isSome (p : Rl → Bool) (l : List Rl) : (firstF p l).isSome = l.any p := by
  unfold firstF
  cases hf : l.filter p with
  | nil =>
    have : l.any p = false := by
      rw [List.any_eq_false]
      intro x hx hp
      have : x ∈ l.filter p := List.mem_filter.2 ⟨hx, hp⟩
      rw [hf] at this
      cases this
    rw [this]
    rfl
  | cons m r =>
    have hm : m ∈ l.filter p := by rw [hf]; simp
    have hm2 := List.mem_filter.1 hm
    have : l.any p = true := List.any_eq_true.2 ⟨m, hm2.1, hm2.2⟩
    rw [this]
    rfl
end Go.Proofs.YtfjamikpahmfhaaGreatDoor.P
