/- Plain law of rules: a right rule's text is parsed as it. -/
import Derived.Test.YtfjamikpahmfhaaGreatDoorXPrefixLaw
import Derived.Test.YtfjamikpahmfhaaGreatDoorXText
import Derived.Test.YtfjamikpahmfhaaGreatDoorXRuleParse
set_option linter.unusedSimpArgs false
set_option linter.unusedVariables false
namespace Go.Proofs.YtfjamikpahmfhaaGreatDoor.P
open Go.RowKit Go.Proofs.YtfjamikpahmfhaaGreatDoorW.PrintWords Go.Proofs.YtfjamikpahmfhaaGreatDoorW.PrintLast Go.Proofs.YtfjamikpahmfhaaGreatDoorW.PrintMore
open Go.Proofs.YtfjamikpahmfhaaGreatDoor.T

theorem within_f (a b c : Int) : rule_within.f a b c = some (decide (b ≤ a ∧ a ≤ c)) := by
  unfold rule_within.f
  by_cases h1 : b ≤ a
  · rw [if_pos h1]; simp [h1]
  · rw [if_neg h1]; simp [h1]
def rightB (x : Rl) : Bool := decide (1 ≤ x.f0 ∧ x.f0 ≤ 1048576) && (decide (0 ≤ x.f1 ∧ x.f1 ≤ 7) && (decide (0 ≤ x.f2 ∧ x.f2 ≤ 1024) && (decide (0 ≤ x.f3 ∧ x.f3 ≤ 3) && (decide (0 ≤ x.f5 ∧ x.f5 ≤ 3) && (decide (x.f3 = 0 ∨ x.f5 = 0) && decide (x.f4.f0 ≤ x.f4.f1))))))
theorem rightRule_f (x : Rl) : rule_Right.f x.f0 x.f1 x.f2 x.f3 x.f4.f0 x.f4.f1 x.f5 = some (rightB x) := by
  unfold rule_Right.f rightB
  simp only [within_f, Option.bind_some]
  cases h1 : decide (1 ≤ x.f0 ∧ x.f0 ≤ 1048576) <;> cases h2 : decide (0 ≤ x.f1 ∧ x.f1 ≤ 7) <;> cases h3 : decide (0 ≤ x.f2 ∧ x.f2 ≤ 1024) <;> cases h4 : decide (0 ≤ x.f3 ∧ x.f3 ≤ 3) <;> cases h5 : decide (0 ≤ x.f5 ∧ x.f5 ≤ 3) <;> by_cases h6 : x.f3 = 0 <;> by_cases h7 : x.f5 = 0 <;> simp [h6, h7]
theorem rightB_iff (x : Rl) : rightB x = true ↔ (1 ≤ x.f0 ∧ x.f0 ≤ 1048576) ∧ (0 ≤ x.f1 ∧ x.f1 ≤ 7) ∧ (0 ≤ x.f2 ∧ x.f2 ≤ 1024) ∧ (0 ≤ x.f3 ∧ x.f3 ≤ 3) ∧ (0 ≤ x.f5 ∧ x.f5 ≤ 3) ∧ (x.f3 = 0 ∨ x.f5 = 0) ∧ x.f4.f0 ≤ x.f4.f1 := by
  unfold rightB
  simp only [Bool.and_eq_true, decide_eq_true_eq]

/-- A rule as the words have it: addresses of 32 bits. -/
def okRule (x : Rl) : Prop := (0 ≤ x.f4.f0 ∧ x.f4.f0 ≤ 4294967295) ∧ (0 ≤ x.f4.f1 ∧ x.f4.f1 ≤ 4294967295)
def wordsT (x : Rl) : List (List UInt8) := [(numeral x.f0).data.toList, (numeral x.f1).data.toList, (numeral x.f2).data.toList, (ruleKind x.f3).data.toList, addrText x.f4.f0 ++ 45 :: addrText x.f4.f1] ++ (if x.f3 = 0 then [(numeral x.f5).data.toList] else [])
def textT (x : Rl) : ByteArray := ⟨(Lib.join (wordsT x) [32]).toArray⟩
theorem ruleText_f (x : Rl) (ho : okRule x) (hr : rightB x = true) : ∃ t : ByteArray, t.data.toList = addrText x.f4.f0 ++ 45 :: addrText x.f4.f1 ∧ t.size ≤ 200 ∧ rule_Text.f x.f0 x.f1 x.f2 x.f3 x.f4.f0 x.f4.f1 x.f5 = some (textT x) := by
  obtain ⟨⟨a0, a1⟩, ⟨b0, b1⟩⟩ := ho
  have hh := (rightB_iff x).1 hr
  obtain ⟨t, ht, hd, hs⟩ := rangeText_f x.f4.f0.toNat x.f4.f1.toNat (by omega) (by omega)
  rw [Int.toNat_of_nonneg a0, Int.toNat_of_nonneg b0] at ht hd
  refine ⟨t, hd, hs, ?_⟩
  unfold rule_Text.f
  rw [if_pos (by omega), ht]
  simp only [Option.bind_some]
  rw [if_pos (by omega)]
  unfold textT wordsT ruleWords
  congr 3
  rw [← hd]
  split <;> rfl
theorem kind_no (k : Int) : (32 : UInt8) ∉ (ruleKind k).data.toList := by
  unfold ruleKind
  repeat (first | split | decide)
theorem words_no (x : Rl) (ho : okRule x) (hr : rightB x = true) : ∀ p ∈ wordsT x, (32 : UInt8) ∉ p := by
  obtain ⟨⟨a0, a1⟩, ⟨b0, b1⟩⟩ := ho
  have hh := (rightB_iff x).1 hr
  intro p hp
  have hn : ∀ c : Int, 0 ≤ c → (32 : UInt8) ∉ (numeral c).data.toList := fun c hc => numeral_no c hc 32 (by decide)
  have hm : p = (numeral x.f0).data.toList ∨ p = (numeral x.f1).data.toList ∨ p = (numeral x.f2).data.toList ∨ p = (ruleKind x.f3).data.toList ∨ p = addrText x.f4.f0 ++ 45 :: addrText x.f4.f1 ∨ p = (numeral x.f5).data.toList := by
    unfold wordsT at hp
    split at hp
    · simpa using hp
    · simp at hp
      rcases hp with h | h | h | h | h <;> simp [h]
  rcases hm with rfl | rfl | rfl | rfl | rfl | rfl
  · exact hn _ (by omega)
  · exact hn _ (by omega)
  · exact hn _ (by omega)
  · exact kind_no _
  · simp only [List.mem_append, List.mem_cons, not_or]
    exact ⟨addrText_no _ a0 a1 32 (by decide) (by decide), by decide, addrText_no _ b0 b1 32 (by decide) (by decide)⟩
  · exact hn _ (by omega)
theorem textT_fields (x : Rl) (ho : okRule x) (hr : rightB x = true) : fieldsB 32 (textT x) = (wordsT x).map fun l => ⟨l.toArray⟩ := by
  unfold fieldsB textT
  rw [show (⟨(Lib.join (wordsT x) [32]).toArray⟩ : ByteArray).data.toList = Lib.join (wordsT x) [32] from by simp]
  rw [fieldsOf_join 32 (wordsT x) (by unfold wordsT; simp) (words_no x ho hr)]
theorem ruleNumber_numeral (c : Int) (h0 : 0 ≤ c) (h1 : c ≤ 9223372036854775807) : rule_number.f (numeral c) = some c := by
  have hs := numeral_size c h0 h1
  unfold rule_number.f
  rw [if_pos (by omega), atoiV_numeral c h0 h1]
  simp [byte_toList, numeral]
theorem kind_index (k : Int) (h0 : 0 ≤ k) (h1 : k ≤ 3) : slices_Index_string_string.f 5 [wForward, wDrop, wPermit, wDeny] (ruleKind k) = some k := by
  obtain rfl | rfl | rfl | rfl : k = 0 ∨ k = 1 ∨ k = 2 ∨ k = 3 := by omega
  all_goals kernel_rfl
/-- A right rule's text is parsed as it. -/
theorem parse_text_rule (x : Rl) (ho : okRule x) (hr : rightB x = true) : rule_Parse.f (textT x) = some (x.f0, x.f1, x.f2, x.f3, x.f4.f0, x.f4.f1, x.f5, 0) := by
  obtain ⟨t, hd, hs, hT⟩ := ruleText_f x ho hr
  have hh := (rightB_iff x).1 hr
  obtain ⟨⟨a0, a1⟩, ⟨b0, b1⟩⟩ := ho
  have hlen : (textT x).size < 4294967281 := by
    show (Lib.join (wordsT x) [32]).toArray.size < _
    rw [List.size_toArray]
    have l0 := numeral_len x.f0 (by omega) (by omega)
    have l1 := numeral_len x.f1 (by omega) (by omega)
    have l2 := numeral_len x.f2 (by omega) (by omega)
    have l6 := numeral_len x.f5 (by omega) (by omega)
    have lk := ruleKind_len x.f3
    have la := addrText_length x.f4.f0 a0 a1
    have lb := addrText_length x.f4.f1 b0 b1
    unfold wordsT
    split
    all_goals
      simp only [List.cons_append, List.nil_append, List.append_nil, Lib.join_cons, Lib.joinTail, List.map_cons, List.map_nil, List.flatten_cons, List.flatten_nil, List.length_append, List.length_cons, List.length_nil]
      omega
  have hR : prefix_ParseRange.f 7 t = some (x.f4.f0, x.f4.f1, 0) := by
    have := parseRange_rangeText x.f4.f0.toNat x.f4.f1.toNat (by omega) (by omega) (by omega) t (by rw [Int.toNat_of_nonneg a0, Int.toNat_of_nonneg b0]; exact hd) hs 7 (by decide)
    rw [Int.toNat_of_nonneg a0, Int.toNat_of_nonneg b0] at this
    exact this
  have ht : (⟨(addrText x.f4.f0 ++ 45 :: addrText x.f4.f1).toArray⟩ : ByteArray) = t := bytes_mk t _ hd
  have hnum : ∀ c : Int, (⟨((numeral c).data.toList).toArray⟩ : ByteArray) = numeral c := fun c => bytes_mk _ _ rfl
  have hkd : (⟨((ruleKind x.f3).data.toList).toArray⟩ : ByteArray) = ruleKind x.f3 := bytes_mk _ _ rfl
  have hend : parseEnd (textT x) x.f0 x.f1 x.f2 x.f3 (x.f4.f0, x.f4.f1, 0) x.f5 = some (x.f0, x.f1, x.f2, x.f3, x.f4.f0, x.f4.f1, x.f5, 0) := by
    unfold parseEnd
    rw [if_pos rfl]
    simp only [rightRule_f, hr, Option.bind_some, if_true, hT]
    rw [if_pos (by simp)]
  unfold rule_Parse.f
  rw [split_f 32 _ hlen, textT_fields x ⟨⟨a0, a1⟩, ⟨b0, b1⟩⟩ hr]
  simp only [Option.bind_some]
  unfold wordsT
  by_cases h0 : x.f3 = 0
  · rw [if_pos h0]
    simp only [List.cons_append, List.nil_append, List.map_cons, List.map_nil, hnum, hkd, ht]
    rw [kind_index x.f3 (by omega) (by omega)]
    simp only [Option.bind_some]
    rw [hR]
    simp only [Option.bind_some]
    rw [ruleNumber_numeral _ (by omega) (by omega), ruleNumber_numeral _ (by omega) (by omega), ruleNumber_numeral _ (by omega) (by omega), ruleNumber_numeral _ (by omega) (by omega)]
    simp only [Option.bind_some]
    exact hend
  · rw [if_neg h0]
    have h5 : x.f5 = 0 := by omega
    simp only [List.append_nil, List.map_cons, List.map_nil, hnum, hkd, ht]
    rw [kind_index x.f3 (by omega) (by omega)]
    simp only [Option.bind_some]
    rw [hR]
    simp only [Option.bind_some]
    rw [ruleNumber_numeral _ (by omega) (by omega), ruleNumber_numeral _ (by omega) (by omega), ruleNumber_numeral _ (by omega) (by omega)]
    simp only [Option.bind_some]
    rw [h5] at hend
    rw [h5]
    exact hend
end Go.Proofs.YtfjamikpahmfhaaGreatDoor.P
