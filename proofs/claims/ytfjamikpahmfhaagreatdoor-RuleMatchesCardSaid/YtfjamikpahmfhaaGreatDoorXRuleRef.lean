/- Plain laws of the document's rules: what Right, All, Find, first, Same of the reference answer. -/
import Derived.Test.YtfjamikpahmfhaaGreatDoorXRuleAll
import Derived.Test.YtfjamikpahmfhaaGreatDoorPWaystoneref07All
import Derived.Test.YtfjamikpahmfhaaGreatDoorPWaystoneref07Find
import Derived.Test.YtfjamikpahmfhaaGreatDoorPWaystoneref07Match
import Derived.Test.YtfjamikpahmfhaaGreatDoorPWaystoneref07Denies
import Derived.Test.YtfjamikpahmfhaaGreatDoorPWaystoneref07Same
set_option linter.unusedSimpArgs false
set_option linter.unusedVariables false
namespace Go.Proofs.YtfjamikpahmfhaaGreatDoor.P
open Go.RowKit Go.Proofs.YtfjamikpahmfhaaGreatDoor.T Go.Proofs.YtfjamikpahmfhaaGreatDoorW.PrintWords Go.Proofs.YtfjamikpahmfhaaGreatDoorW.PrintLast Go.Proofs.YtfjamikpahmfhaaGreatDoorW.PrintMore

theorem refWithin_f (a c : Int) : waystoneref07_within.f a c = some (decide (0 ≤ a ∧ a ≤ c)) := by
  unfold waystoneref07_within.f
  by_cases h1 : 0 ≤ a
  · rw [if_pos h1]; simp [h1]
  · rw [if_neg h1]; simp [h1]
theorem refRight_f (x : Rl) (h0 : -9223372036854775808 ≤ x.f0 ∧ x.f0 ≤ 9223372036854775807) : waystoneref07_Right.f x.f0 x.f1 x.f2 x.f3 x.f4.f0 x.f4.f1 x.f5 = some (rightB x) := by
  have hw : decide (0 ≤ wrap64 (x.f0 - 1) ∧ wrap64 (x.f0 - 1) ≤ 1048575) = decide (1 ≤ x.f0 ∧ x.f0 ≤ 1048576) := by
    congr 1
    apply propext
    unfold wrap64
    omega
  unfold waystoneref07_Right.f rightB
  simp only [refWithin_f, Option.bind_some, hw]
  cases h1 : decide (1 ≤ x.f0 ∧ x.f0 ≤ 1048576) <;> cases h2 : decide (0 ≤ x.f1 ∧ x.f1 ≤ 7) <;> cases h3 : decide (0 ≤ x.f2 ∧ x.f2 ≤ 1024) <;> cases h4 : decide (0 ≤ x.f3 ∧ x.f3 ≤ 3) <;> cases h5 : decide (0 ≤ x.f5 ∧ x.f5 ≤ 3) <;> by_cases h6 : x.f3 = 0 <;> by_cases h7 : x.f5 = 0 <;> by_cases h8 : x.f4.f0 ≤ x.f4.f1 <;> simp [h6, h7, h8]
/-- The document's own look at the rules from a place on, the one ahead of them having an ID. -/
theorem refAll_is (l : List Rl) (ho : okList l) (hb : l.length ≤ 9223372036854775807) : ∀ (m i k : Nat) (last : Int), l.length - i = m → i ≤ l.length → m + 1 ≤ k → (last = if i = 0 then 0 else (rd_T27 l ((i - 1 : Nat) : Int)).f0) →
    waystoneref07_All.l0 k l (i : Int) = some (allB last (l.drop i) && decide ((l.length : Int) ≤ 40)) := by
  intro m
  induction m with
  | zero =>
    intro i k last hm hi hk hl
    obtain ⟨k', rfl⟩ : ∃ k', k = k' + 1 := ⟨k - 1, by omega⟩
    obtain rfl : i = l.length := by omega
    simp only [waystoneref07_All.l0]
    rw [if_neg (by omega), List.drop_length]
    simp [allB]
  | succ m ih =>
    intro i k last hm hi hk hl
    obtain ⟨k', rfl⟩ : ∃ k', k = k' + 1 := ⟨k - 1, by omega⟩
    have hlt : i < l.length := by omega
    have c1 : (i : Int) < (l.length : Int) := by omega
    have c2 : (0 : Int) ≤ (i : Int) := by omega
    simp only [waystoneref07_All.l0]
    simp only [if_pos c1, if_pos c2]
    rw [refRight_f _ (ho i hlt), List.drop_eq_getElem_cons hlt]
    simp only [Option.bind_some, allB]
    rw [wrap_succ i (by omega)]
    have hrd := rdR l i hlt
    rw [hrd]
    cases hr : rightB l[i]
    · simp
    · have hh := (rightB_iff _).1 hr
      rw [if_pos rfl]
      by_cases h0 : i = 0
      · subst h0
        rw [if_pos rfl] at hl
        have c4 : ¬ ((0 : Nat) : Int) > 0 := by omega
        rw [if_neg c4, ih 1 k' l[0].f0 (by omega) (by omega) (by omega) (by rw [if_neg (by omega), show (1 - 1 : Nat) = 0 from rfl, hrd])]
        have : decide (last < l[0].f0) = true := decide_eq_true (by omega)
        simp [this]
      · rw [if_neg h0] at hl
        have hw : wrap64 ((i : Int) - 1) = ((i - 1 : Nat) : Int) := by unfold wrap64; omega
        have c3 : (i : Int) > 0 := by omega
        have c4 : (0 : Int) ≤ ((i - 1 : Nat) : Int) := by omega
        have c5 : ((i - 1 : Nat) : Int) < (l.length : Int) := by omega
        rw [if_pos c3, hw, if_pos c4, if_pos c5, ← hl]
        by_cases hc : l[i].f0 ≤ last
        · rw [if_pos (show last ≥ _ from hc)]
          have : decide (last < l[i].f0) = false := decide_eq_false (by omega)
          simp [this]
        · rw [if_neg (show ¬ last ≥ _ from hc), ih (i + 1) k' l[i].f0 (by omega) (by omega) (by omega) (by rw [if_neg (by omega), show (i + 1 - 1 : Nat) = i by omega, hrd])]
          have : decide (last < l[i].f0) = true := decide_eq_true (by omega)
          simp [this]
theorem refAllF_is (l : List Rl) (ho : okList l) (hb : l.length ≤ 9223372036854775807) (k : Nat) (hk : l.length + 1 ≤ k) : waystoneref07_All.f k l = some (allB 0 l && decide ((l.length : Int) ≤ 40)) :=
  refAll_is l ho hb l.length 0 k 0 (by omega) (by omega) hk (by simp)
theorem refFind_is (l : List Rl) (id : Int) (hb : l.length < 9223372036854775807) : ∀ (m i k : Nat), l.length - i = m → i ≤ l.length → m + 1 ≤ k →
    waystoneref07_Find.l0 k l id (i : Int) = some (((findR (l.drop i) id).getD z27).f0, ((findR (l.drop i) id).getD z27).f1, ((findR (l.drop i) id).getD z27).f2, ((findR (l.drop i) id).getD z27).f3, ((findR (l.drop i) id).getD z27).f4.f0, ((findR (l.drop i) id).getD z27).f4.f1, ((findR (l.drop i) id).getD z27).f5, (findR (l.drop i) id).isSome) := by
  intro m
  induction m with
  | zero =>
    intro i k hm hi hk
    obtain ⟨k', rfl⟩ : ∃ k', k = k' + 1 := ⟨k - 1, by omega⟩
    obtain rfl : i = l.length := by omega
    simp only [waystoneref07_Find.l0]
    rw [if_neg (by omega), List.drop_length]
    rfl
  | succ m ih =>
    intro i k hm hi hk
    obtain ⟨k', rfl⟩ : ∃ k', k = k' + 1 := ⟨k - 1, by omega⟩
    have hlt : i < l.length := by omega
    have c1 : (i : Int) < (l.length : Int) := by omega
    have c2 : (0 : Int) ≤ (i : Int) := by omega
    simp only [waystoneref07_Find.l0]
    rw [if_pos c1, if_pos c2, rdR l i hlt, wrap_succ i (by omega), List.drop_eq_getElem_cons hlt]
    by_cases h : l[i].f0 = id
    · rw [if_pos h]
      have : findR (l[i] :: l.drop (i + 1)) id = some l[i] := by
        unfold findR
        rw [List.find?_cons_of_pos (by simpa using h)]
      rw [this]
      rfl
    · rw [if_neg h]
      have : findR (l[i] :: l.drop (i + 1)) id = findR (l.drop (i + 1)) id := by
        unfold findR
        rw [List.find?_cons_of_neg (by simpa using h)]
      rw [this]
      exact ih (i + 1) k' (by omega) (by omega) (by omega)
theorem refFindF_is (l : List Rl) (id : Int) (hb : l.length < 9223372036854775807) (k : Nat) (hk : l.length + 1 ≤ k) :
    waystoneref07_Find.f k l id = some (((findR l id).getD z27).f0, ((findR l id).getD z27).f1, ((findR l id).getD z27).f2, ((findR l id).getD z27).f3, ((findR l id).getD z27).f4.f0, ((findR l id).getD z27).f4.f1, ((findR l id).getD z27).f5, (findR l id).isSome) :=
  refFind_is l id hb l.length 0 k (by omega) (by omega) hk
/-- A rule of one table, a device's, that takes an address. -/
def tableP (acl : Bool) (dev a : Int) (x : Rl) : Bool := takesB dev a x && ((decide (x.f3 = 2) || decide (x.f3 = 3)) == acl)
theorem headMin_snoc (L : List Rl) (x : Rl) : headMin (L ++ [x]) = some (match headMin L with | none => x | some m => if aheadI x m < 0 then x else m) := by
  cases L with
  | nil => rfl
  | cons y r =>
    simp only [headMin, List.cons_append]
    rw [minR_snoc]
theorem firstF_snoc (p : Rl → Bool) (L : List Rl) (x : Rl) : firstF p (L ++ [x]) = if p x = true then some (match firstF p L with | none => x | some m => if aheadI x m < 0 then x else m) else firstF p L := by
  unfold firstF
  rw [List.filter_append]
  by_cases h : p x = true
  · rw [if_pos h, show [x].filter p = [x] by simp [h], headMin_snoc]
  · rw [if_neg h, show [x].filter p = [] by simp [h], List.append_nil]
/-- A rule that was found, or none, as its fields. -/
def pickT (X : Option Rl) : Int × Int × Int × Int × Int × Int × Int × Bool := ((X.getD z27).f0, (X.getD z27).f1, (X.getD z27).f2, (X.getD z27).f3, (X.getD z27).f4.f0, (X.getD z27).f4.f1, (X.getD z27).f5, X.isSome)
theorem refFirst_is (l : List Rl) (dev a : Int) (acl : Bool) (hb : l.length < 9223372036854775807) : ∀ (m i k : Nat) (X : Option Rl), l.length - i = m → i ≤ l.length → 3 * m + 1 ≤ k → X = firstF (tableP acl dev a) (l.take i) →
    waystoneref07_first.l0 k l dev a acl X.isSome (i : Int) (X.getD z27).f0 (X.getD z27).f1 (X.getD z27).f2 (X.getD z27).f3 (X.getD z27).f4.f0 (X.getD z27).f4.f1 (X.getD z27).f5 =
      some (pickT (firstF (tableP acl dev a) l)) := by
  intro m
  induction m with
  | zero =>
    intro i k X hm hi hk hX
    obtain ⟨k', rfl⟩ : ∃ k', k = k' + 1 := ⟨k - 1, by omega⟩
    obtain rfl : i = l.length := by omega
    rw [List.take_length] at hX
    simp only [waystoneref07_first.l0]
    rw [if_neg (by omega), hX]
    rfl
  | succ m ih =>
    intro i k X hm hi hk hX
    obtain ⟨k', rfl⟩ : ∃ k', k = k' + 3 := ⟨k - 3, by omega⟩
    have hlt : i < l.length := by omega
    have c1 : (i : Int) < (l.length : Int) := by omega
    have c2 : (0 : Int) ≤ (i : Int) := by omega
    have hnext := firstF_snoc (tableP acl dev a) (l.take i) l[i]
    rw [← List.take_succ_eq_append_getElem hlt, ← hX] at hnext
    have on := fun (Y : Option Rl) (hY : Y = firstF (tableP acl dev a) (l.take (i + 1))) => ih (i + 1) k' Y (by omega) (by omega) (by omega) hY
    have hw := wrap_succ i (by omega)
    have j2 : ∀ (b : Bool), b = (!(tableP acl dev a l[i])) → waystoneref07_first.j2 (k' + 1) l dev a acl X.isSome (i : Int) b (X.getD z27).f0 (X.getD z27).f1 (X.getD z27).f2 (X.getD z27).f3 (X.getD z27).f4.f0 (X.getD z27).f4.f1 (X.getD z27).f5 l[i].f0 l[i].f1 l[i].f2 l[i].f3 l[i].f4.f0 l[i].f4.f1 l[i].f5 = some (pickT (firstF (tableP acl dev a) l)) := fun b hbv => by
      simp only [waystoneref07_first.j2]
      rw [hw]
      cases ht : tableP acl dev a l[i]
      · rw [ht] at hbv hnext
        rw [hbv, if_pos (by decide)]
        exact on X (by rw [hnext, if_neg (by decide)])
      · rw [ht] at hbv hnext
        rw [hbv, if_neg (by decide)]
        rw [if_pos rfl] at hnext
        cases X with
        | none =>
          rw [if_neg (by decide)]
          exact on (some l[i]) hnext.symm
        | some b =>
          simp only [Option.isSome_some, if_pos trivial, Option.getD_some] at hnext ⊢
          have hA := aheadI_neg l[i] b
          unfold Better at hA
          by_cases e1 : l[i].f2 > b.f2
          · rw [if_pos e1]
            exact on (some l[i]) (by rw [hnext, if_pos (hA.2 (by omega))])
          · rw [if_neg e1]
            by_cases e2 : l[i].f2 = b.f2
            · rw [if_pos e2]
              by_cases e3 : l[i].f0 < b.f0
              · rw [if_pos e3]
                exact on (some l[i]) (by rw [hnext, if_pos (hA.2 (by omega))])
              · rw [if_neg e3]
                exact on (some b) (by rw [hnext, if_neg (fun h => by have := hA.1 h; omega)])
            · rw [if_neg e2]
              exact on (some b) (by rw [hnext, if_neg (fun h => by have := hA.1 h; omega)])
    have j1 : ∀ (b : Bool), b = (decide (l[i].f3 = 2) || decide (l[i].f3 = 3)) → waystoneref07_first.j1 (k' + 2) l dev a acl X.isSome (i : Int) b (X.getD z27).f0 (X.getD z27).f1 (X.getD z27).f2 (X.getD z27).f3 (X.getD z27).f4.f0 (X.getD z27).f4.f1 (X.getD z27).f5 l[i].f0 l[i].f1 l[i].f2 l[i].f3 l[i].f4.f0 l[i].f4.f1 l[i].f5 = some (pickT (firstF (tableP acl dev a) l)) := fun b hbv => by
      simp only [waystoneref07_first.j1]
      by_cases d1 : l[i].f1 = dev
      · rw [if_pos d1]
        by_cases d2 : a < l[i].f4.f0
        · rw [if_pos d2]
          exact j2 true (by unfold tableP takesB; rw [decide_eq_false (show ¬ l[i].f4.f0 ≤ a by omega)]; simp)
        · rw [if_neg d2]
          by_cases d3 : a > l[i].f4.f1
          · rw [if_pos d3]
            exact j2 true (by unfold tableP takesB; rw [decide_eq_false (show ¬ a ≤ l[i].f4.f1 by omega)]; simp)
          · rw [if_neg d3]
            refine j2 _ ?_
            unfold tableP takesB
            rw [decide_eq_true d1, decide_eq_true (show l[i].f4.f0 ≤ a by omega), decide_eq_true (show a ≤ l[i].f4.f1 by omega), ← hbv]
            cases b <;> cases acl <;> rfl
      · rw [if_neg d1]
        exact j2 true (by unfold tableP takesB; rw [decide_eq_false d1]; simp)
    simp only [waystoneref07_first.l0, if_pos c1, if_pos c2, rdR l i hlt]
    by_cases d : l[i].f3 = 2
    · rw [if_pos d]
      exact j1 true (by simp [d])
    · rw [if_neg d]
      exact j1 _ (by simp [d]; rfl)
theorem refFirstF_is (l : List Rl) (dev a : Int) (acl : Bool) (hb : l.length < 9223372036854775807) (k : Nat) (hk : 3 * l.length + 1 ≤ k) :
    waystoneref07_first.f k l dev a acl = some (pickT (firstF (tableP acl dev a) l)) :=
  refFirst_is l dev a acl hb l.length 0 k none (by omega) (by omega) hk rfl
theorem firstF_congr {p q : Rl → Bool} {l : List Rl} (h : ∀ x ∈ l, p x = q x) : firstF p l = firstF q l := by
  unfold firstF
  rw [List.filter_congr h]
theorem table_match {l : List Rl} (hr : ∀ x ∈ l, rightB x = true) (dev a : Int) : firstF (tableP false dev a) l = firstF (matchP dev a) l := firstF_congr fun x hx => by
  have := (rightB_iff _).1 (hr x hx)
  unfold tableP matchP
  rw [Bool.and_comm]
  congr 1
  by_cases h1 : x.f3 = 2 <;> by_cases h2 : x.f3 = 3 <;> by_cases h3 : x.f3 ≤ 1 <;> simp [h1, h2, h3] <;> omega
theorem table_denies {l : List Rl} (hr : ∀ x ∈ l, rightB x = true) (dev a : Int) : firstF (tableP true dev a) l = firstF (deniesP dev a) l := firstF_congr fun x hx => by
  have := (rightB_iff _).1 (hr x hx)
  unfold tableP deniesP
  rw [Bool.and_comm]
  congr 1
  by_cases h1 : x.f3 = 2 <;> by_cases h2 : x.f3 = 3 <;> by_cases h3 : 1 < x.f3 <;> simp [h1, h2, h3] <;> omega
theorem refSame_refl (l : List Rl) (hb : l.length < 9223372036854775807) : ∀ (m i k : Nat), l.length - i = m → i ≤ l.length → m + 1 ≤ k → waystoneref07_Same.l0 k l l (i : Int) = some true := by
  intro m
  induction m with
  | zero =>
    intro i k hm hi hk
    obtain ⟨k', rfl⟩ : ∃ k', k = k' + 1 := ⟨k - 1, by omega⟩
    simp only [waystoneref07_Same.l0]
    rw [if_neg (by omega)]
  | succ m ih =>
    intro i k hm hi hk
    obtain ⟨k', rfl⟩ : ∃ k', k = k' + 1 := ⟨k - 1, by omega⟩
    have c1 : (i : Int) < (l.length : Int) := by omega
    have c2 : (0 : Int) ≤ (i : Int) := by omega
    simp only [waystoneref07_Same.l0]
    rw [if_pos c1, if_pos c2, if_pos c1, wrap_succ i (by omega)]
    simp only [beq_self_eq_true, Bool.not_true, Bool.or_self, Bool.false_eq_true, if_false]
    exact ih (i + 1) k' (by omega) (by omega) (by omega)
theorem refSameF_refl (l : List Rl) (hb : l.length < 9223372036854775807) (k : Nat) (hk : l.length + 1 ≤ k) : waystoneref07_Same.f k l l = some true := by
  unfold waystoneref07_Same.f
  rw [if_pos rfl]
  exact refSame_refl l hb l.length 0 k (by omega) (by omega) hk
end Go.Proofs.YtfjamikpahmfhaaGreatDoor.P
