/- RuleTexts (layer 7): for every input the law answers true, and its arguments read behind the call as before; the card ties the listed package variables to the program's text. -/
import Derived.Test.YtfjamikpahmfhaaGreatDoorQT6
import Derived.OpenShut
set_option linter.unusedVariables false
set_option linter.unusedSimpArgs false
section
set_option linter.unusedSimpArgs false
set_option linter.unusedVariables false
namespace Go.Proofs.YtfjamikpahmfhaaGreatDoor.P
open Go.RowKit Go.Proofs.YtfjamikpahmfhaaGreatDoor.T Go.Proofs.YtfjamikpahmfhaaGreatDoorW.PrintWords Go.Proofs.YtfjamikpahmfhaaGreatDoorW.PrintLast Go.Proofs.YtfjamikpahmfhaaGreatDoorW.PrintMore
theorem dig_extract (d : Nat) (h : d < 10) : (⟨#[48, 49, 50, 51, 52, 53, 54, 55, 56, 57]⟩ : ByteArray).extract d (d + 1) = ⟨#[UInt8.ofNat (48 + d)]⟩ := by
  obtain rfl | rfl | rfl | rfl | rfl | rfl | rfl | rfl | rfl | rfl : d = 0 ∨ d = 1 ∨ d = 2 ∨ d = 3 ∨ d = 4 ∨ d = 5 ∨ d = 6 ∨ d = 7 ∨ d = 8 ∨ d = 9 := by omega
  all_goals kernel_rfl
theorem extract_one (s : ByteArray) (i : Nat) (h : i < s.data.toList.length) : s.extract i (i + 1) = ⟨#[s.data.toList[i]]⟩ := by
  have hd : (s.extract i (i + 1)).data.toList = [s.data.toList[i]] := by
    rw [ByteArray.data_extract, Array.toList_extract, List.extract_eq_take_drop]
    rw [List.drop_eq_getElem_cons h]
    simp
  exact (bytes_mk _ _ hd).symm
theorem wrapN (n : Nat) (h : n < 9223372036854775807) : wrap64 (n : Int) = (n : Int) := by unfold wrap64; omega
theorem dlen (s : ByteArray) : s.data.toList.length = s.size := Array.length_toList
theorem bt_get (s : ByteArray) (i : Nat) (h : i < s.data.toList.length) : bt s (i : Int) = ((s.data.toList[i]).toNat : Int) := by
  have h' : (i : Int).toNat < s.size := by rw [dlen] at h; exact h
  unfold bt
  rw [dif_pos h']
  rfl
theorem decD_step (n : Nat) (h : ¬ n < 10) : Lib.decDigits n = Lib.decDigits (n / 10) ++ [UInt8.ofNat (48 + n % 10)] := by rw [Lib.decDigits, dif_neg h]
theorem digits02_step (k n : Nat) (acc : ByteArray) (hn : n < 9223372036854775808) (ha : acc.size ≤ 1000) (h : acc.toList = [] ∨ 0 < n) :
    waystoneref02_digits.l0 (k + 1) (n : Int) acc = waystoneref02_digits.l0 k ((n / 10 : Nat) : Int) ((⟨#[UInt8.ofNat (48 + n % 10)]⟩ : ByteArray) ++ acc) := by
  have e1 : Int.tmod (n : Int) 10 = ((n % 10 : Nat) : Int) := by rw [Int.tmod_eq_emod_of_nonneg (by omega)]; omega
  have e2 : Int.tdiv (n : Int) 10 = ((n / 10 : Nat) : Int) := by rw [Int.tdiv_eq_ediv_of_nonneg (by omega)]; omega
  have e3 : wrap64 (((n % 10 : Nat) : Int) + 1) = ((n % 10 + 1 : Nat) : Int) := by unfold wrap64; omega
  have e4 : wrap64 ((n / 10 : Nat) : Int) = ((n / 10 : Nat) : Int) := by unfold wrap64; omega
  have e5 := dig_extract (n % 10) (by omega)
  have e6 : ((⟨#[UInt8.ofNat (48 + n % 10)]⟩ : ByteArray)).size = 1 := rfl
  simp only [waystoneref02_digits.l0]
  rw [e1, e2, e3, e4]
  simp only [Int.toNat_natCast]
  rw [e5, e6]
  have c1 : (0 : Int) ≤ ((n % 10 : Nat) : Int) := by omega
  have c2 : ((n % 10 : Nat) : Int) ≤ ((n % 10 + 1 : Nat) : Int) := by omega
  have c3 : ((n % 10 + 1 : Nat) : Int) ≤ 10 := by omega
  have c4 : 1 + acc.size ≤ 9223372036854775807 := by omega
  rw [if_pos c1, if_pos c2, if_pos c3, if_pos c4]
  by_cases hz : acc.toList = []
  · rw [if_pos hz]
  · rw [if_neg hz, if_pos (by rcases h with h | h; exact absurd h hz; omega)]
theorem digits02_go : ∀ (j n k : Nat) (acc : ByteArray), n < 10 ^ j → n < 9223372036854775808 → j + 1 ≤ k → acc.size + j ≤ 1000 → acc.toList ≠ [] →
    waystoneref02_digits.l0 k (n : Int) acc = some (if n = 0 then acc else ⟨(Lib.decDigits n ++ acc.data.toList).toArray⟩) := by
  intro j
  induction j with
  | zero =>
    intro n k acc h1 h2 h3 h4 h5
    obtain ⟨k', rfl⟩ : ∃ k', k = k' + 1 := ⟨k - 1, by omega⟩
    obtain rfl : n = 0 := by simpa using h1
    simp only [waystoneref02_digits.l0]
    rw [if_neg h5, if_neg (by decide), if_pos trivial]
  | succ j ih =>
    intro n k acc h1 h2 h3 h4 h5
    obtain ⟨k', rfl⟩ : ∃ k', k = k' + 1 := ⟨k - 1, by omega⟩
    by_cases h0 : n = 0
    · subst h0
      simp only [waystoneref02_digits.l0]
      rw [if_neg h5, if_neg (by decide), if_pos trivial]
    · have hp : 10 ^ (j + 1) = 10 * 10 ^ j := by rw [Nat.pow_succ, Nat.mul_comm]
      rw [hp] at h1
      rw [digits02_step k' n acc h2 (by omega) (.inr (by omega)), ih (n / 10) k' _ (by omega) (by omega) (by omega) (by rw [ByteArray.size_append]; have : (⟨#[UInt8.ofNat (48 + n % 10)]⟩ : ByteArray).size = 1 := rfl; omega) (by rw [byte_toList, data_app]; simp), if_neg h0]
      congr 1
      by_cases h9 : n < 10
      · rw [Lib.decDigits_one h9, if_pos (by omega), Nat.mod_eq_of_lt h9]
        exact (bytes_mk _ _ (by rw [data_app])).symm
      · rw [decD_step n h9, if_neg (by omega), data_app]
        simp
theorem digits02_f (n k : Nat) (hn : n < 9223372036854775808) (hk : 22 ≤ k) : waystoneref02_digits.f k (n : Int) = some (numeral (n : Int)) := by
  obtain ⟨k', rfl⟩ : ∃ k', k = k' + 1 := ⟨k - 1, by omega⟩
  unfold waystoneref02_digits.f
  have hz : (⟨#[]⟩ : ByteArray).size = 0 := rfl
  rw [digits02_step k' n ⟨#[]⟩ hn (by omega) (.inl (by rw [byte_toList])), digits02_go 20 (n / 10) k' _ (by omega) (by omega) (by omega) (by rw [ByteArray.size_append]; have : (⟨#[UInt8.ofNat (48 + n % 10)]⟩ : ByteArray).size = 1 := rfl; omega) (by rw [byte_toList, data_app]; simp)]
  congr 1
  refine Eq.trans ?_ (bytes_mk (numeral (n : Int)) _ (numeral_data (n : Int) (by omega)))
  rw [Int.toNat_natCast]
  by_cases h9 : n < 10
  · rw [Lib.decDigits_one h9, if_pos (by omega), Nat.mod_eq_of_lt h9]
    exact (bytes_mk _ _ (by rw [data_app]; simp)).symm
  · rw [decD_step n h9, if_neg (by omega), data_app]
    simp
theorem digits07_step (k n : Nat) (acc : ByteArray) (hn : n < 9223372036854775808) (ha : acc.size ≤ 1000) (h : acc.toList = [] ∨ 0 < n) :
    waystoneref07_Digits.l0 (k + 1) (n : Int) acc = waystoneref07_Digits.l0 k ((n / 10 : Nat) : Int) ((⟨#[UInt8.ofNat (48 + n % 10)]⟩ : ByteArray) ++ acc) := by
  have e1 : Int.tmod (n : Int) 10 = ((n % 10 : Nat) : Int) := by rw [Int.tmod_eq_emod_of_nonneg (by omega)]; omega
  have e2 : Int.tdiv (n : Int) 10 = ((n / 10 : Nat) : Int) := by rw [Int.tdiv_eq_ediv_of_nonneg (by omega)]; omega
  have e3 : wrap64 (((n % 10 : Nat) : Int) + 1) = ((n % 10 + 1 : Nat) : Int) := by unfold wrap64; omega
  have e4 : wrap64 ((n / 10 : Nat) : Int) = ((n / 10 : Nat) : Int) := by unfold wrap64; omega
  have e5 := dig_extract (n % 10) (by omega)
  have e6 : ((⟨#[UInt8.ofNat (48 + n % 10)]⟩ : ByteArray)).size = 1 := rfl
  simp only [waystoneref07_Digits.l0]
  rw [e1, e2, e3, e4]
  simp only [Int.toNat_natCast]
  rw [e5, e6]
  have c1 : (0 : Int) ≤ ((n % 10 : Nat) : Int) := by omega
  have c2 : ((n % 10 : Nat) : Int) ≤ ((n % 10 + 1 : Nat) : Int) := by omega
  have c3 : ((n % 10 + 1 : Nat) : Int) ≤ 10 := by omega
  have c4 : 1 + acc.size ≤ 9223372036854775807 := by omega
  rw [if_pos c1, if_pos c2, if_pos c3, if_pos c4]
  by_cases hz : acc.toList = []
  · rw [if_pos hz]
  · rw [if_neg hz, if_pos (by rcases h with h | h; exact absurd h hz; omega)]
theorem digits07_go : ∀ (j n k : Nat) (acc : ByteArray), n < 10 ^ j → n < 9223372036854775808 → j + 1 ≤ k → acc.size + j ≤ 1000 → acc.toList ≠ [] →
    waystoneref07_Digits.l0 k (n : Int) acc = some (if n = 0 then acc else ⟨(Lib.decDigits n ++ acc.data.toList).toArray⟩) := by
  intro j
  induction j with
  | zero =>
    intro n k acc h1 h2 h3 h4 h5
    obtain ⟨k', rfl⟩ : ∃ k', k = k' + 1 := ⟨k - 1, by omega⟩
    obtain rfl : n = 0 := by simpa using h1
    simp only [waystoneref07_Digits.l0]
    rw [if_neg h5, if_neg (by decide), if_pos trivial]
  | succ j ih =>
    intro n k acc h1 h2 h3 h4 h5
    obtain ⟨k', rfl⟩ : ∃ k', k = k' + 1 := ⟨k - 1, by omega⟩
    by_cases h0 : n = 0
    · subst h0
      simp only [waystoneref07_Digits.l0]
      rw [if_neg h5, if_neg (by decide), if_pos trivial]
    · have hp : 10 ^ (j + 1) = 10 * 10 ^ j := by rw [Nat.pow_succ, Nat.mul_comm]
      rw [hp] at h1
      rw [digits07_step k' n acc h2 (by omega) (.inr (by omega)), ih (n / 10) k' _ (by omega) (by omega) (by omega) (by rw [ByteArray.size_append]; have : (⟨#[UInt8.ofNat (48 + n % 10)]⟩ : ByteArray).size = 1 := rfl; omega) (by rw [byte_toList, data_app]; simp), if_neg h0]
      congr 1
      by_cases h9 : n < 10
      · rw [Lib.decDigits_one h9, if_pos (by omega), Nat.mod_eq_of_lt h9]
        exact (bytes_mk _ _ (by rw [data_app])).symm
      · rw [decD_step n h9, if_neg (by omega), data_app]
        simp
theorem digits07_f (n k : Nat) (hn : n < 9223372036854775808) (hk : 22 ≤ k) : waystoneref07_Digits.f k (n : Int) = some (numeral (n : Int)) := by
  obtain ⟨k', rfl⟩ : ∃ k', k = k' + 1 := ⟨k - 1, by omega⟩
  unfold waystoneref07_Digits.f
  have hz : (⟨#[]⟩ : ByteArray).size = 0 := rfl
  rw [digits07_step k' n ⟨#[]⟩ hn (by omega) (.inl (by rw [byte_toList])), digits07_go 20 (n / 10) k' _ (by omega) (by omega) (by omega) (by rw [ByteArray.size_append]; have : (⟨#[UInt8.ofNat (48 + n % 10)]⟩ : ByteArray).size = 1 := rfl; omega) (by rw [byte_toList, data_app]; simp)]
  congr 1
  refine Eq.trans ?_ (bytes_mk (numeral (n : Int)) _ (numeral_data (n : Int) (by omega)))
  rw [Int.toNat_natCast]
  by_cases h9 : n < 10
  · rw [Lib.decDigits_one h9, if_pos (by omega), Nat.mod_eq_of_lt h9]
    exact (bytes_mk _ _ (by rw [data_app]; simp)).symm
  · rw [decD_step n h9, if_neg (by omega), data_app]
    simp
theorem parts02_loop (s : ByteArray) (c : UInt8) (hs : s.size ≤ 1000) : ∀ (m i k : Nat) (init : List ByteArray) (lst : ByteArray), s.size - i = m → i ≤ s.size → m + 1 ≤ k → init.length ≤ i → lst.size ≤ i →
    waystoneref02_parts.l0 k s (c.toNat : Int) (init ++ [lst]) (i : Int) = some (init ++ (⟨(lst.data.toList ++ (fieldsOf c (s.data.toList.drop i)).headD []).toArray⟩ : ByteArray) :: (fieldsOf c (s.data.toList.drop i)).tail.map fun l => ⟨l.toArray⟩) := by
  intro m
  induction m with
  | zero =>
    intro i k init lst h1 h2 h3 h4 h5
    obtain ⟨k', rfl⟩ : ∃ k', k = k' + 1 := ⟨k - 1, by omega⟩
    obtain rfl : i = s.size := by omega
    simp only [waystoneref02_parts.l0]
    rw [if_neg (by omega)]
    have hd : s.data.toList.drop s.size = [] := by
      apply List.drop_eq_nil_of_le
      rw [dlen]
      exact Nat.le_refl _
    rw [hd]
    simp [fieldsOf]
  | succ m ih =>
    intro i k init lst h1 h2 h3 h4 h5
    obtain ⟨k', rfl⟩ : ∃ k', k = k' + 1 := ⟨k - 1, by omega⟩
    have hlt : i < s.size := by omega
    have hlt' : i < s.data.toList.length := by rw [dlen]; exact hlt
    have hdrop : s.data.toList.drop i = s.data.toList[i] :: s.data.toList.drop (i + 1) := List.drop_eq_getElem_cons hlt'
    have hil : init.length < 9223372036854775807 := by omega
    have c1 : (i : Int) < (s.size : Int) := by omega
    have c2 : (0 : Int) ≤ (i : Int) := by omega
    have c3 : (init ++ [lst]).length < 8796093022208 := by rw [List.length_append, List.length_singleton]; omega
    have c4 : (0 : Int) ≤ ((init.length : Nat) : Int) := by omega
    have hl0 : (init ++ [lst]).length = init.length + 1 := by rw [List.length_append, List.length_singleton]
    have c5 : ((init.length : Nat) : Int) < ((init ++ [lst]).length : Int) := by rw [hl0]; omega
    have c6 : (i : Int) ≤ ((i + 1 : Nat) : Int) := by omega
    have c7 : ((i + 1 : Nat) : Int) ≤ (s.size : Int) := by omega
    have c8 : lst.size + (i + 1 - i) ≤ 9223372036854775807 := by omega
    have d1 : s.size - (i + 1) = m := by omega
    have d2 : i + 1 ≤ s.size := by omega
    have d3 : m + 1 ≤ k' := by omega
    have d4 : (init ++ [lst]).length ≤ i + 1 := by rw [hl0]; omega
    have d5 : init.length ≤ i + 1 := by omega
    have d6 : (lst ++ (⟨#[s.data.toList[i]]⟩ : ByteArray)).size ≤ i + 1 := by
      rw [ByteArray.size_append]
      have : (⟨#[s.data.toList[i]]⟩ : ByteArray).size = 1 := rfl
      omega
    have hl1 : ((init ++ [lst]).length : Int) - 1 = ((init.length : Nat) : Int) := by rw [hl0]; omega
    have hi9 : i < 9223372036854775807 := by omega
    have hw2 : wrap64 (((init ++ [lst]).length : Int) - 1) = ((init.length : Nat) : Int) := (congrArg wrap64 hl1).trans (wrapN init.length hil)
    have hb := bt_get s i hlt'
    have hw := wrap_succ i hi9
    have hr : rdOf ByteArray.empty (init ++ [lst]) ((init.length : Nat) : Int) = lst := by
      unfold rdOf
      rw [Int.toNat_natCast, List.getD_eq_getElem?_getD, List.getElem?_append_right (Nat.le_refl _), Nat.sub_self]
      rfl
    have hset : ∀ z : ByteArray, (init ++ [lst]).set init.length z = init ++ [z] := fun z => by
      rw [List.set_append_right _ _ (Nat.le_refl _), Nat.sub_self]
      rfl
    have hex := extract_one s i hlt'
    simp only [waystoneref02_parts.l0]
    rw [if_pos c1, if_pos c2, hb, hw, hw2, hr, hdrop]
    have hi1 : ((i + 1 : Nat) : Int).toNat = i + 1 := rfl
    have hi0 : ((i : Nat) : Int).toNat = i := rfl
    rw [hi1, hi0, Int.toNat_natCast, hset, hex]
    by_cases hc : s.data.toList[i] = c
    · rw [if_pos (by rw [hc]), if_pos c3]
      rw [ih (i + 1) k' (init ++ [lst]) ⟨#[]⟩ d1 d2 d3 d4 (Nat.zero_le _)]
      rw [fieldsOf, if_pos hc]
      have hh := fieldsOf_head c (s.data.toList.drop (i + 1))
      simp only [List.headD_cons, List.tail_cons, List.append_nil, List.append_assoc, List.cons_append, List.nil_append]
      rw [hh]
      simp
    · rw [if_neg (by intro h; exact hc (UInt8.toNat_inj.1 (by exact Int.ofNat.inj h)))]
      rw [if_pos c4, if_pos c5, if_pos c6, if_pos c7, if_pos c8]
      rw [ih (i + 1) k' init _ d1 d2 d3 d5 d6]
      rw [fieldsOf, if_neg hc, data_app]
      simp
theorem parts02_f (s : ByteArray) (c : UInt8) (hs : s.size ≤ 1000) (k : Nat) (hk : s.size + 1 ≤ k) : waystoneref02_parts.f k s (c.toNat : Int) = some (fieldsB c s) := by
  unfold waystoneref02_parts.f
  have h := parts02_loop s c hs s.size 0 k [] ⟨#[]⟩ (by omega) (by omega) hk (by simp) (by show 0 ≤ 0; omega)
  rw [show (((0 : Nat) : Int)) = 0 from rfl] at h
  simp only [List.nil_append, List.drop_zero] at h
  rw [h]
  unfold fieldsB
  rw [fieldsOf_head c s.data.toList]
  simp
theorem parts07_loop (s : ByteArray) (hs : s.size ≤ 1000) : ∀ (m i k : Nat) (init : List ByteArray) (lst : ByteArray), s.size - i = m → i ≤ s.size → m + 1 ≤ k → init.length ≤ i → lst.size ≤ i →
    waystoneref07_Words.l0 k s (init ++ [lst]) (i : Int) = some (init ++ (⟨(lst.data.toList ++ (fieldsOf 32 (s.data.toList.drop i)).headD []).toArray⟩ : ByteArray) :: (fieldsOf 32 (s.data.toList.drop i)).tail.map fun l => ⟨l.toArray⟩) := by
  intro m
  induction m with
  | zero =>
    intro i k init lst h1 h2 h3 h4 h5
    obtain ⟨k', rfl⟩ : ∃ k', k = k' + 1 := ⟨k - 1, by omega⟩
    obtain rfl : i = s.size := by omega
    simp only [waystoneref07_Words.l0]
    rw [if_neg (by omega)]
    have hd : s.data.toList.drop s.size = [] := by
      apply List.drop_eq_nil_of_le
      rw [dlen]
      exact Nat.le_refl _
    rw [hd]
    simp [fieldsOf]
  | succ m ih =>
    intro i k init lst h1 h2 h3 h4 h5
    obtain ⟨k', rfl⟩ : ∃ k', k = k' + 1 := ⟨k - 1, by omega⟩
    have hlt : i < s.size := by omega
    have hlt' : i < s.data.toList.length := by rw [dlen]; exact hlt
    have hdrop : s.data.toList.drop i = s.data.toList[i] :: s.data.toList.drop (i + 1) := List.drop_eq_getElem_cons hlt'
    have hil : init.length < 9223372036854775807 := by omega
    have c1 : (i : Int) < (s.size : Int) := by omega
    have c2 : (0 : Int) ≤ (i : Int) := by omega
    have c3 : (init ++ [lst]).length < 8796093022208 := by rw [List.length_append, List.length_singleton]; omega
    have c4 : (0 : Int) ≤ ((init.length : Nat) : Int) := by omega
    have hl0 : (init ++ [lst]).length = init.length + 1 := by rw [List.length_append, List.length_singleton]
    have c5 : ((init.length : Nat) : Int) < ((init ++ [lst]).length : Int) := by rw [hl0]; omega
    have c6 : (i : Int) ≤ ((i + 1 : Nat) : Int) := by omega
    have c7 : ((i + 1 : Nat) : Int) ≤ (s.size : Int) := by omega
    have c8 : lst.size + (i + 1 - i) ≤ 9223372036854775807 := by omega
    have d1 : s.size - (i + 1) = m := by omega
    have d2 : i + 1 ≤ s.size := by omega
    have d3 : m + 1 ≤ k' := by omega
    have d4 : (init ++ [lst]).length ≤ i + 1 := by rw [hl0]; omega
    have d5 : init.length ≤ i + 1 := by omega
    have d6 : (lst ++ (⟨#[s.data.toList[i]]⟩ : ByteArray)).size ≤ i + 1 := by
      rw [ByteArray.size_append]
      have : (⟨#[s.data.toList[i]]⟩ : ByteArray).size = 1 := rfl
      omega
    have hl1 : ((init ++ [lst]).length : Int) - 1 = ((init.length : Nat) : Int) := by rw [hl0]; omega
    have hi9 : i < 9223372036854775807 := by omega
    have hw2 : wrap64 (((init ++ [lst]).length : Int) - 1) = ((init.length : Nat) : Int) := (congrArg wrap64 hl1).trans (wrapN init.length hil)
    have hb := bt_get s i hlt'
    have hw := wrap_succ i hi9
    have hr : rdOf ByteArray.empty (init ++ [lst]) ((init.length : Nat) : Int) = lst := by
      unfold rdOf
      rw [Int.toNat_natCast, List.getD_eq_getElem?_getD, List.getElem?_append_right (Nat.le_refl _), Nat.sub_self]
      rfl
    have hset : ∀ z : ByteArray, (init ++ [lst]).set init.length z = init ++ [z] := fun z => by
      rw [List.set_append_right _ _ (Nat.le_refl _), Nat.sub_self]
      rfl
    have hex := extract_one s i hlt'
    simp only [waystoneref07_Words.l0]
    rw [if_pos c1, if_pos c2, hb, hw, hw2, hr, hdrop]
    have hi1 : ((i + 1 : Nat) : Int).toNat = i + 1 := rfl
    have hi0 : ((i : Nat) : Int).toNat = i := rfl
    rw [hi1, hi0, Int.toNat_natCast, hset, hex]
    by_cases hc : s.data.toList[i] = (32 : UInt8)
    · rw [if_pos (by rw [hc]; rfl), if_pos c3]
      rw [ih (i + 1) k' (init ++ [lst]) ⟨#[]⟩ d1 d2 d3 d4 (Nat.zero_le _)]
      rw [fieldsOf, if_pos hc]
      have hh := fieldsOf_head 32 (s.data.toList.drop (i + 1))
      simp only [List.headD_cons, List.tail_cons, List.append_nil, List.append_assoc, List.cons_append, List.nil_append]
      rw [hh]
      simp
    · rw [if_neg (by intro h; exact hc (UInt8.toNat_inj.1 (by exact Int.ofNat.inj h)))]
      rw [if_pos c4, if_pos c5, if_pos c6, if_pos c7, if_pos c8]
      rw [ih (i + 1) k' init _ d1 d2 d3 d5 d6]
      rw [fieldsOf, if_neg hc, data_app]
      simp
theorem parts07_f (s : ByteArray) (hs : s.size ≤ 1000) (k : Nat) (hk : s.size + 1 ≤ k) : waystoneref07_Words.f k s = some (fieldsB (32 : UInt8) s) := by
  unfold waystoneref07_Words.f
  have h := parts07_loop s hs s.size 0 k [] ⟨#[]⟩ (by omega) (by omega) hk (by simp) (by show 0 ≤ 0; omega)
  rw [show (((0 : Nat) : Int)) = 0 from rfl] at h
  simp only [List.nil_append, List.drop_zero] at h
  rw [h]
  unfold fieldsB
  rw [fieldsOf_head (32 : UInt8) s.data.toList]
  simp
def valOf (l : List UInt8) : Nat := l.foldl (fun a d => 10 * a + (d.toNat - 48)) 0
theorem valOf_snoc (l : List UInt8) (d : UInt8) : valOf (l ++ [d]) = 10 * valOf l + (d.toNat - 48) := by
  unfold valOf
  rw [List.foldl_append]
  rfl
theorem digit_val (d : Nat) (h : d < 10) : (UInt8.ofNat (48 + d)).toNat - 48 = d := by
  obtain rfl | rfl | rfl | rfl | rfl | rfl | rfl | rfl | rfl | rfl : d = 0 ∨ d = 1 ∨ d = 2 ∨ d = 3 ∨ d = 4 ∨ d = 5 ∨ d = 6 ∨ d = 7 ∨ d = 8 ∨ d = 9 := by omega
  all_goals rfl
theorem valOf_dec (n : Nat) : valOf (Lib.decDigits n) = n := by
  induction n using Nat.strongRecOn with
  | _ n ih =>
    by_cases h : n < 10
    · rw [Lib.decDigits_one h]
      show 10 * 0 + ((UInt8.ofNat (48 + n)).toNat - 48) = n
      rw [digit_val n h]
      omega
    · rw [decD_step n h, valOf_snoc, ih (n / 10) (by omega), digit_val (n % 10) (by omega)]
      omega
theorem dec_len : ∀ (j n : Nat), n < 10 ^ (j + 1) → (Lib.decDigits n).length ≤ j + 1 := by
  intro j
  induction j with
  | zero =>
    intro n h
    rw [Lib.decDigits_one (by simpa using h)]
    simp
  | succ j ih =>
    intro n h
    by_cases h9 : n < 10
    · rw [Lib.decDigits_one h9]
      simp
    · have hp : 10 ^ (j + 1 + 1) = 10 * 10 ^ (j + 1) := by rw [Nat.pow_succ, Nat.mul_comm]
      rw [hp] at h
      have := ih (n / 10) (by omega)
      rw [decD_step n h9, List.length_append, List.length_singleton]
      omega
theorem numstep (x b : Nat) (hx : x < 10000000000) (h1 : 48 ≤ b) (h2 : b ≤ 57) : wrap64 (wrap64 (10 * (x : Int)) + (((b : Int) - 48) % 256)) = ((10 * x + (b - 48) : Nat) : Int) := by unfold wrap64; omega
theorem number_loop (s : ByteArray) (most : Nat) (hs : s.size ≤ 1000) : ∀ m i k x : Nat, s.size - i = m → i ≤ s.size → i ≤ 10 → x < 10 ^ i → m + 40 ≤ k →
    ∃ v : Int, waystoneref02_Number.l0 k s (most : Int) (x : Int) (i : Int) = some v ∧ (v = -1 ∨ (0 ≤ v ∧ v ≤ (most : Int))) ∧ (∀ n : Nat, s.data.toList = Lib.decDigits n → n < 10000000000 → n ≤ most → x = valOf ((Lib.decDigits n).take i) → v = (n : Int)) := by
  intro m
  induction m with
  | zero =>
    intro i k x h1 h2 h3 h4 h5
    obtain ⟨k', rfl⟩ : ∃ k', k = k' + 1 := ⟨k - 1, by omega⟩
    obtain rfl : i = s.size := by omega
    have hp : 10 ^ s.size ≤ 10 ^ 10 := Nat.pow_le_pow_right (by decide) h3
    have hx : x < 9223372036854775808 := by omega
    simp only [waystoneref02_Number.l0]
    rw [if_neg (by omega)]
    by_cases hz : s.toList = []
    · rw [if_pos hz]
      refine ⟨-1, rfl, .inl rfl, fun n hn _ _ _ => ?_⟩
      rw [byte_toList] at hz
      rw [hz] at hn
      exact absurd hn.symm (decDigits_ne n)
    · rw [if_neg hz, digits02_f x k' hx (by omega)]
      simp only [Option.bind_some]
      by_cases he : s.toList = (numeral (x : Int)).toList
      · rw [if_pos he]
        by_cases hm : (x : Int) > (most : Int)
        · rw [if_pos hm]
          refine ⟨-1, rfl, .inl rfl, fun n hn h9 hle hxv => ?_⟩
          rw [← hn, ← dlen s, List.take_length, hn, valOf_dec] at hxv
          omega
        · rw [if_neg hm]
          refine ⟨x, rfl, .inr ⟨by omega, by omega⟩, fun n hn h9 hle hxv => ?_⟩
          rw [← hn, ← dlen s, List.take_length, hn, valOf_dec] at hxv
          rw [hxv]
      · rw [if_neg he]
        refine ⟨-1, rfl, .inl rfl, fun n hn h9 hle hxv => ?_⟩
        rw [← hn, ← dlen s, List.take_length, hn, valOf_dec] at hxv
        subst hxv
        exfalso
        apply he
        rw [byte_toList, byte_toList, hn, numeral_data _ (by omega), Int.toNat_natCast]
  | succ m ih =>
    intro i k x h1 h2 h3 h4 h5
    obtain ⟨k', rfl⟩ : ∃ k', k = k' + 1 := ⟨k - 1, by omega⟩
    have hlt : i < s.size := by omega
    have hlt' : i < s.data.toList.length := by rw [dlen]; exact hlt
    have c1 : (i : Int) < (s.size : Int) := by omega
    have c2 : (0 : Int) ≤ (i : Int) := by omega
    have hi9 : i < 9223372036854775807 := by omega
    have hp : 10 ^ i ≤ 10 ^ 10 := Nat.pow_le_pow_right (by decide) h3
    have hx : x < 10000000000 := by omega
    obtain ⟨b, hbv⟩ : ∃ b, b = (s.data.toList[i]).toNat := ⟨_, rfl⟩
    have hdig : ∀ n : Nat, s.data.toList = Lib.decDigits n → 48 ≤ b ∧ b ≤ 57 := fun n hn => by
      rw [hbv]
      exact decDigits_digits n _ (by rw [← hn]; exact List.getElem_mem _)
    have hten : ∀ n : Nat, s.data.toList = Lib.decDigits n → n < 10000000000 → i ≤ 9 := fun n hn h9 => by
      have := dec_len 9 n h9
      rw [← hn] at this
      omega
    have hgo : 48 ≤ b → b ≤ 57 → i ≤ 9 → ∃ v : Int, waystoneref02_Number.l0 k' s (most : Int) ((10 * x + (b - 48) : Nat) : Int) ((i + 1 : Nat) : Int) = some v ∧ (v = -1 ∨ (0 ≤ v ∧ v ≤ (most : Int))) ∧ (∀ n : Nat, s.data.toList = Lib.decDigits n → n < 10000000000 → n ≤ most → 10 * x + (b - 48) = valOf ((Lib.decDigits n).take (i + 1)) → v = (n : Int)) := fun h48 h57 h9 => by
      have hp2 : 10 ^ (i + 1) = 10 * 10 ^ i := by rw [Nat.pow_succ, Nat.mul_comm]
      exact ih (i + 1) k' (10 * x + (b - 48)) (by omega) (by omega) (by omega) (by omega) (by omega)
    have hval : ∀ n : Nat, s.data.toList = Lib.decDigits n → x = valOf ((Lib.decDigits n).take i) → 10 * x + (b - 48) = valOf ((Lib.decDigits n).take (i + 1)) := fun n hn hxv => by
      rw [← hn] at hxv
      rw [← hn, List.take_succ_eq_append_getElem hlt', valOf_snoc, hbv, hxv]
    have e1 : ¬ b < 48 → ¬ (b : Int) < 48 := fun h => by omega
    have e2 : ¬ b > 57 → ¬ (b : Int) > 57 := fun h => by omega
    have e3 : b < 48 → (b : Int) < 48 := fun h => by omega
    have e4 : b > 57 → (b : Int) > 57 := fun h => by omega
    have e5 : ¬ i > 9 → ¬ (i : Int) > 9 := fun h => by omega
    have e6 : i > 9 → (i : Int) > 9 := fun h => by omega
    have hw := wrap_succ i hi9
    have hb := bt_get s i hlt'
    rw [← hbv] at hb
    simp only [waystoneref02_Number.l0]
    rw [if_pos c1, if_pos c2, hb, hw]
    by_cases g1 : b < 48
    · rw [if_pos (e3 g1)]
      refine ⟨-1, rfl, .inl rfl, fun n hn _ _ _ => ?_⟩
      have := (hdig n hn).1
      exact absurd g1 (Nat.not_lt.2 this)
    · rw [if_neg (e1 g1)]
      by_cases g2 : b > 57
      · rw [if_pos (e4 g2)]
        refine ⟨-1, rfl, .inl rfl, fun n hn _ _ _ => ?_⟩
        have := (hdig n hn).2
        exact absurd g2 (Nat.not_lt.2 this)
      · rw [if_neg (e2 g2)]
        by_cases g3 : i > 9
        · rw [if_pos (e6 g3)]
          refine ⟨-1, rfl, .inl rfl, fun n hn h9 _ _ => ?_⟩
          have := hten n hn h9
          exact absurd g3 (Nat.not_lt.2 this)
        · rw [if_neg (e5 g3), numstep x b hx (Nat.not_lt.1 g1) (Nat.not_lt.1 g2)]
          obtain ⟨v, hv, hv2, hv3⟩ := hgo (Nat.not_lt.1 g1) (Nat.not_lt.1 g2) (Nat.not_lt.1 g3)
          exact ⟨v, hv, hv2, fun n hn h9 hle hxv => hv3 n hn h9 hle (hval n hn hxv)⟩
theorem number_f (s : ByteArray) (most : Nat) (hs : s.size ≤ 100) (k : Nat) (hk : 150 ≤ k) :
    ∃ v : Int, waystoneref02_Number.f k s (most : Int) = some v ∧ (v = -1 ∨ (0 ≤ v ∧ v ≤ (most : Int))) ∧ (∀ n : Nat, s.data.toList = Lib.decDigits n → n < 10000000000 → n ≤ most → v = (n : Int)) := by
  obtain ⟨v, h1, h2, h3⟩ := number_loop s most (by omega) s.size 0 k 0 (by omega) (by omega) (by omega) (by decide) (by omega)
  exact ⟨v, h1, h2, fun n hn h9 hle => h3 n hn h9 hle rfl⟩
theorem addrstep (x v : Nat) (hx : x < 16777216) (hv : v ≤ 255) : wrap64 (wrap64 (256 * (x : Int)) + (v : Int)) = ((256 * x + v : Nat) : Int) := by unfold wrap64; omega
theorem oct_at (b : Nat) (i : Nat) (hi : i < 4) : ((octets (b : Int)).map numeral)[i]? = some (numeral (((b / 256 ^ (3 - i)) % 256 + (if i = 0 then (b / 16777216) - (b / 16777216) % 256 else 0) : Nat) : Int)) := by
  obtain rfl | rfl | rfl | rfl : i = 0 ∨ i = 1 ∨ i = 2 ∨ i = 3 := by omega
  all_goals
    simp only [octets, List.map_cons, List.map_nil, List.getElem?_cons_zero, List.getElem?_cons_succ, Option.some.injEq]
    (try congr 1) <;> (try simp) <;> (try omega)
theorem addr_loop (ws : List ByteArray) (hl : ws.length = 4) (hs : ∀ p ∈ ws, p.size ≤ 100) (b : Nat) (hb : b ≤ 4294967295) : ∀ d i k x : Nat, 4 - i = d → i ≤ 4 → x < 256 ^ i → d + 200 ≤ k →
    ∃ a e : Int, waystoneref02_ParseAddr.l0 k ws (x : Int) (i : Int) = some (a, e) ∧ 0 ≤ a ∧ a ≤ 4294967295 ∧ (ws = (octets (b : Int)).map numeral → x = b / 256 ^ (4 - i) → a = (b : Int) ∧ e = 0) := by
  intro d
  induction d with
  | zero =>
    intro i k x h1 h2 h3 h4
    obtain ⟨k', rfl⟩ : ∃ k', k = k' + 1 := ⟨k - 1, by omega⟩
    obtain rfl : i = 4 := by omega
    have hx : x < 4294967296 := h3
    simp only [waystoneref02_ParseAddr.l0]
    rw [if_neg (by omega)]
    refine ⟨_, _, rfl, by omega, by omega, fun _ hxv => ⟨?_, rfl⟩⟩
    have : x = b := by simpa using hxv
    omega
  | succ d ih =>
    intro i k x h1 h2 h3 h4
    obtain ⟨k', rfl⟩ : ∃ k', k = k' + 1 := ⟨k - 1, by omega⟩
    have hi4 : i < 4 := by omega
    have hlt : i < ws.length := by omega
    have hm : ws[i] ∈ ws := List.getElem_mem _
    have hr : rdOf ByteArray.empty ws (i : Int) = ws[i] := by
      unfold rdOf
      rw [Int.toNat_natCast, List.getD_eq_getElem?_getD, List.getElem?_eq_getElem hlt]
      rfl
    obtain ⟨v, hv, hv2, hv3⟩ := number_f ws[i] 255 (hs _ hm) k' (by omega)
    have hx24 : x < 16777216 := by
      have : 256 ^ i ≤ 256 ^ 3 := Nat.pow_le_pow_right (by decide) (by omega)
      omega
    have c1 : (i : Int) < 4 := by omega
    have c2 : (0 : Int) ≤ (i : Int) := by omega
    have c3 : (i : Int) < (ws.length : Int) := by omega
    have hi9 : i < 9223372036854775807 := by omega
    have hoct : ws = (octets (b : Int)).map numeral → v = (((b / 256 ^ (3 - i)) % 256 : Nat) : Int) := fun hw => by
      have h9 := oct_at b i hi4
      rw [← hw, List.getElem?_eq_getElem hlt] at h9
      have h10 := Option.some.inj h9
      have hz : (if i = 0 then (b / 16777216) - (b / 16777216) % 256 else 0) = 0 := by
        split
        · omega
        · rfl
      rw [hz, Nat.add_zero] at h10
      refine hv3 _ ?_ ?_ ?_
      · rw [h10, numeral_data _ (by omega), Int.toNat_natCast]
      · have := Nat.mod_lt (b / 256 ^ (3 - i)) (show 256 > 0 by decide)
        omega
      · have := Nat.mod_lt (b / 256 ^ (3 - i)) (show 256 > 0 by decide)
        omega
    have hrec : ∀ u : Nat, u ≤ 255 → ∃ a e : Int, waystoneref02_ParseAddr.l0 k' ws ((256 * x + u : Nat) : Int) ((i + 1 : Nat) : Int) = some (a, e) ∧ 0 ≤ a ∧ a ≤ 4294967295 ∧ (ws = (octets (b : Int)).map numeral → 256 * x + u = b / 256 ^ (4 - (i + 1)) → a = (b : Int) ∧ e = 0) := fun u hu => by
      have hp2 : 256 ^ (i + 1) = 256 * 256 ^ i := by rw [Nat.pow_succ, Nat.mul_comm]
      exact ih (i + 1) k' (256 * x + u) (by omega) (by omega) (by omega) (by omega)
    have hxn : x = b / 256 ^ (4 - i) → 256 * x + (b / 256 ^ (3 - i)) % 256 = b / 256 ^ (4 - (i + 1)) := fun hxv => by
      have e1 : 4 - (i + 1) = 3 - i := by omega
      have e2 : 256 ^ (4 - i) = 256 ^ (3 - i) * 256 := by rw [← Nat.pow_succ]; congr 1; omega
      rw [e1, hxv, e2, ← Nat.div_div_eq_div_mul]
      omega
    have hcast : ∀ u : Nat, v = (u : Int) → u ≤ 255 → wrap64 (wrap64 (256 * (x : Int)) + v) = ((256 * x + u : Nat) : Int) := fun u hu h5 => by rw [hu]; exact addrstep x u hx24 h5
    have hneg : v = -1 → v < 0 := fun h => by omega
    have hpos : 0 ≤ v → ¬ v < 0 := fun h => by omega
    have hnat : 0 ≤ v ∧ v ≤ ((255 : Nat) : Int) → ∃ u : Nat, v = (u : Int) ∧ u ≤ 255 := fun h => ⟨v.toNat, by omega, by omega⟩
    have hnn : ∀ u : Nat, ((u : Int)) ≠ -1 := fun u => by omega
    have hww := wrap_succ i hi9
    simp only [waystoneref02_ParseAddr.l0]
    rw [if_pos c1, if_pos c2, if_pos c3, hr, show (255 : Int) = ((255 : Nat) : Int) from rfl, hv]
    simp only [Option.bind_some]
    rcases hv2 with h | h
    · rw [if_pos (hneg h)]
      refine ⟨0, 21, rfl, by decide, by decide, fun hw _ => ?_⟩
      have := hoct hw
      rw [h] at this
      exact absurd this.symm (hnn _)
    · obtain ⟨u, hu, hu5⟩ := hnat h
      rw [if_neg (hpos h.1), hcast u hu hu5, hww]
      obtain ⟨a, e, r1, r2, r3, r4⟩ := hrec u hu5
      refine ⟨a, e, r1, r2, r3, fun hw hxv => r4 hw ?_⟩
      have h7 := hoct hw
      rw [hu] at h7
      rw [Int.ofNat.inj h7]
      exact hxn hxv
theorem fields_addr (a : Int) (h0 : 0 ≤ a) (h1 : a ≤ 4294967295) (s : ByteArray) (hs : s.data.toList = addrText a) : fieldsB 46 s = (octets a).map numeral := by
  have h2 := split_addr a h0 h1
  rw [split_f 46 _ (by show (addrText a).toArray.size < _; rw [List.size_toArray]; have := addrText_length a h0 h1; omega)] at h2
  rw [← Option.some.inj h2]
  unfold fieldsB
  rw [hs]
theorem parseAddr02 (s : ByteArray) (hs : s.size ≤ 100) (k : Nat) (hk : 300 ≤ k) :
    ∃ a e : Int, waystoneref02_ParseAddr.f k s = some (a, e) ∧ 0 ≤ a ∧ a ≤ 4294967295 ∧ (∀ b : Int, 0 ≤ b → b ≤ 4294967295 → s.data.toList = addrText b → a = b ∧ e = 0) := by
  unfold waystoneref02_ParseAddr.f
  have hp := parts02_f s 46 (by omega) k (by omega)
  rw [show (((46 : UInt8).toNat : Nat) : Int) = 46 from rfl] at hp
  rw [hp]
  simp only [Option.bind_some]
  by_cases h4 : (fieldsB 46 s).length = 4
  · rw [if_pos (by omega)]
    have hsz : ∀ p ∈ fieldsB 46 s, p.size ≤ 100 := fun p hp => Nat.le_trans (fieldsB_le 46 s p hp) hs
    by_cases hb : ∃ b : Int, 0 ≤ b ∧ b ≤ 4294967295 ∧ s.data.toList = addrText b
    · obtain ⟨b, b0, b1, b2⟩ := hb
      obtain ⟨a, e, r1, r2, r3, r4⟩ := addr_loop (fieldsB 46 s) h4 hsz b.toNat (by omega) 4 0 k 0 rfl (by omega) (by decide) (by omega)
      rw [Int.toNat_of_nonneg b0] at r4
      have hf := fields_addr b b0 b1 s b2
      have hres := r4 hf (by simp; omega)
      refine ⟨a, e, r1, r2, r3, fun c c0 c1 c2 => ?_⟩
      obtain ⟨a', e', q1, _, _, q4⟩ := addr_loop (fieldsB 46 s) h4 hsz c.toNat (by omega) 4 0 k 0 rfl (by omega) (by decide) (by omega)
      rw [r1] at q1
      obtain ⟨rfl, rfl⟩ := Prod.mk.inj (Option.some.inj q1)
      rw [Int.toNat_of_nonneg c0] at q4
      exact q4 (fields_addr c c0 c1 s c2) (by simp; omega)
    · obtain ⟨a, e, r1, r2, r3, _⟩ := addr_loop (fieldsB 46 s) h4 hsz 0 (by omega) 4 0 k 0 rfl (by omega) (by decide) (by omega)
      exact ⟨a, e, r1, r2, r3, fun b b0 b1 b2 => absurd ⟨b, b0, b1, b2⟩ hb⟩
  · rw [if_neg (by omega)]
    refine ⟨0, 21, rfl, by decide, by decide, fun b b0 b1 b2 => ?_⟩
    exfalso
    apply h4
    rw [fields_addr b b0 b1 s b2]
    rfl
theorem size02_f (n : Nat) (hn : n ≤ 32) : waystoneref02_size.f (n : Int) = some ((2 ^ (32 - n) : Nat) : Int) := by
  have hp : 2 ^ (32 - n) ≤ 4294967296 := pow32 _ (by omega)
  unfold waystoneref02_size.f
  have e1 : IntKind.u64.wrap (wrap64 (32 - (n : Int))) = ((32 - n : Nat) : Int) := by
    rw [IntKind.wrap_u64]
    unfold wrap64
    omega
  rw [e1, if_pos (by omega)]
  unfold shl
  rw [Int.toNat_natCast, show min (32 - n) IntKind.i64.bits = 32 - n by simp [IntKind.bits]; omega, show ((1 : Int) * 2 ^ (32 - n)) = ((2 ^ (32 - n) : Nat) : Int) by simp]
  generalize 2 ^ (32 - n) = q at *
  rw [i64_w]
  congr 1
  exact wrapN q (by omega)
theorem right02_f (a n : Int) (hn : n = -1 ∨ (0 ≤ n ∧ n ≤ 32)) : ∃ b, waystoneref02_Right.f a n = some b ∧ (b = true → 0 ≤ n ∧ n ≤ 32) := by
  unfold waystoneref02_Right.f
  rcases hn with rfl | ⟨h0, h1⟩
  · exact ⟨false, rfl, fun h => (by cases h)⟩
  · obtain ⟨m, rfl⟩ := Int.eq_ofNat_of_zero_le h0
    have hp : 0 < 2 ^ (32 - m) := Nat.two_pow_pos _
    rw [if_pos h0, if_pos h1, size02_f m (by omega)]
    simp only [Option.bind_some]
    rw [if_neg (by omega)]
    exact ⟨_, rfl, fun _ => ⟨h0, h1⟩⟩
theorem parse02_f (s : ByteArray) (hs : s.size ≤ 100) (k : Nat) (hk : 300 ≤ k) :
    ∃ a n e : Int, waystoneref02_Parse.f k s = some (a, n, e) ∧ 0 ≤ a ∧ a ≤ 4294967295 ∧ (e = 0 → 0 ≤ n ∧ n ≤ 32) ∧ ((47 : UInt8) ∉ s.data.toList → e = 21) := by
  unfold waystoneref02_Parse.f
  have hp := parts02_f s 47 (by omega) k (by omega)
  rw [show (((47 : UInt8).toNat : Nat) : Int) = 47 from rfl] at hp
  rw [hp]
  simp only [Option.bind_some]
  have hlen : (fieldsB 47 s).length = s.data.toList.count 47 + 1 := by
    unfold fieldsB
    rw [List.length_map, fieldsOf_length]
  by_cases h2 : (fieldsB 47 s).length = 2
  · rw [if_pos (by omega), if_pos (by omega)]
    have hsz : ∀ p ∈ fieldsB 47 s, p.size ≤ 100 := fun p hp => Nat.le_trans (fieldsB_le 47 s p hp) hs
    have hno : (47 : UInt8) ∉ s.data.toList → False := fun h => by
      rw [List.count_eq_zero_of_not_mem h] at hlen
      omega
    obtain ⟨p0, p1, hpp⟩ : ∃ p0 p1, fieldsB 47 s = [p0, p1] := by
      match fieldsB 47 s, h2 with
      | [p0, p1], _ => exact ⟨p0, p1, rfl⟩
    rw [hpp] at hsz ⊢
    obtain ⟨a, e, r1, r2, r3, _⟩ := parseAddr02 p0 (hsz _ (by simp)) k hk
    obtain ⟨v, hv, hv2, _⟩ := number_f p1 32 (hsz _ (by simp)) k (by omega)
    obtain ⟨b, hb, hb2⟩ := right02_f a v hv2
    have e0 : rdOf ByteArray.empty [p0, p1] 0 = p0 := rfl
    have e1 : rdOf ByteArray.empty [p0, p1] 1 = p1 := rfl
    rw [e0, e1, r1]
    simp only [Option.bind_some]
    rw [if_pos (by simp), show (32 : Int) = ((32 : Nat) : Int) from rfl, hv]
    simp only [Option.bind_some]
    rw [hb]
    simp only [Option.bind_some]
    split
    · split
      · rename_i hbt
        exact ⟨_, _, _, rfl, r2, r3, fun _ => hb2 hbt, fun h => (hno h).elim⟩
      · exact ⟨0, 0, 21, rfl, by decide, by decide, fun h => (by cases h), fun _ => rfl⟩
    · exact ⟨0, 0, 21, rfl, by decide, by decide, fun h => (by cases h), fun _ => rfl⟩
  · rw [if_neg (by omega)]
    exact ⟨0, 0, 21, rfl, by decide, by decide, fun h => (by cases h), fun _ => rfl⟩
theorem range02_f (a n : Int) (h0 : 0 ≤ a) (h1 : a ≤ 4294967295) (hn : 0 ≤ n ∧ n ≤ 32) : ∃ x y e, waystoneref02_Range.f a n = some (x, y, e) ∧ 0 ≤ x ∧ x ≤ 4294967295 ∧ 0 ≤ y ∧ y ≤ 4294967295 := by
  unfold waystoneref02_Range.f
  obtain ⟨b, hb, _⟩ := right02_f a n (.inr hn)
  obtain ⟨m, rfl⟩ := Int.eq_ofNat_of_zero_le hn.1
  rw [hb]
  simp only [Option.bind_some]
  cases b
  · exact ⟨0, 0, 21, rfl, by decide, by decide, by decide, by decide⟩
  · rw [if_pos rfl, size02_f m (by omega)]
    simp only [Option.bind_some]
    exact ⟨_, _, _, rfl, h0, h1, Int.emod_nonneg _ (by decide), by have := Int.emod_lt_of_pos (wrap64 (wrap64 (wrap64 a + ((2 ^ (32 - m) : Nat) : Int)) - 1)) (show (0 : Int) < 4294967296 by decide); exact Int.le_of_lt_add_one this⟩
theorem parseRange02 (s : ByteArray) (hs : s.size ≤ 100) (k : Nat) (hk : 300 ≤ k) :
    ∃ a b e : Int, waystoneref02_ParseRange.f k s = some (a, b, e) ∧ (0 ≤ a ∧ a ≤ 4294967295) ∧ (0 ≤ b ∧ b ≤ 4294967295) ∧
      (∀ u v : Int, (0 ≤ u ∧ u ≤ 4294967295) → (0 ≤ v ∧ v ≤ 4294967295) → u ≤ v → s.data.toList = addrText u ++ 45 :: addrText v → a = u ∧ b = v ∧ e = 0) := by
  unfold waystoneref02_ParseRange.f
  obtain ⟨a, n, e, r1, r2, r3, r4, r5⟩ := parse02_f s hs k hk
  rw [r1]
  simp only [Option.bind_some]
  have hno : ∀ u v : Int, (0 ≤ u ∧ u ≤ 4294967295) → (0 ≤ v ∧ v ≤ 4294967295) → s.data.toList = addrText u ++ 45 :: addrText v → (47 : UInt8) ∉ s.data.toList := fun u v hu hv h => by
    rw [h, List.mem_append, List.mem_cons, not_or, not_or]
    exact ⟨addrText_no u hu.1 hu.2 47 (by decide) (by decide), by decide, addrText_no v hv.1 hv.2 47 (by decide) (by decide)⟩
  by_cases h0 : e = 0
  · rw [if_pos h0]
    obtain ⟨x, y, e2, q1, q2, q3, q4, q5⟩ := range02_f a n r2 r3 (r4 h0)
    rw [q1]
    refine ⟨x, y, e2, rfl, ⟨q2, q3⟩, ⟨q4, q5⟩, fun u v hu hv _ h => ?_⟩
    have := r5 (hno u v hu hv h)
    rw [h0] at this
    cases this
  · rw [if_neg h0]
    have hp := parts02_f s 45 (by omega) k (by omega)
    rw [show (((45 : UInt8).toNat : Nat) : Int) = 45 from rfl] at hp
    rw [hp]
    simp only [Option.bind_some]
    have htwo : ∀ u v : Int, (0 ≤ u ∧ u ≤ 4294967295) → (0 ≤ v ∧ v ≤ 4294967295) → s.data.toList = addrText u ++ 45 :: addrText v → fieldsB 45 s = [⟨(addrText u).toArray⟩, ⟨(addrText v).toArray⟩] := fun u v hu hv h => by
      unfold fieldsB
      rw [h, fieldsOf_cut 45 _ _ (addrText_no u hu.1 hu.2 45 (by decide) (by decide)), fieldsOf_one 45 _ (addrText_no v hv.1 hv.2 45 (by decide) (by decide))]
      rfl
    by_cases h2 : (fieldsB 45 s).length = 2
    · rw [if_pos (by omega), if_pos (by omega)]
      have hsz : ∀ p ∈ fieldsB 45 s, p.size ≤ 100 := fun p hp => Nat.le_trans (fieldsB_le 45 s p hp) hs
      obtain ⟨p0, p1, hpp⟩ : ∃ p0 p1, fieldsB 45 s = [p0, p1] := by
        match fieldsB 45 s, h2 with
        | [p0, p1], _ => exact ⟨p0, p1, rfl⟩
      rw [hpp] at hsz htwo ⊢
      obtain ⟨a1, e1, s1, s2, s3, s4⟩ := parseAddr02 p0 (hsz _ (by simp)) k hk
      obtain ⟨a2, e2, t1, t2, t3, t4⟩ := parseAddr02 p1 (hsz _ (by simp)) k hk
      have g0 : rdOf ByteArray.empty [p0, p1] 0 = p0 := rfl
      have g1 : rdOf ByteArray.empty [p0, p1] 1 = p1 := rfl
      rw [g0, g1, s1]
      simp only [Option.bind_some]
      rw [if_pos (by simp), t1]
      simp only [Option.bind_some]
      have hz : ∀ u v : Int, (0 ≤ u ∧ u ≤ 4294967295) → (0 ≤ v ∧ v ≤ 4294967295) → s.data.toList = addrText u ++ 45 :: addrText v → (a1 = u ∧ e1 = 0) ∧ (a2 = v ∧ e2 = 0) := fun u v hu hv h => by
        have h9 := htwo u v hu hv h
        simp only [List.cons.injEq, and_true] at h9
        exact ⟨s4 u hu.1 hu.2 (by rw [h9.1]), t4 v hv.1 hv.2 (by rw [h9.2])⟩
      split
      · split
        · split
          · rename_i hgt
            refine ⟨0, 0, 21, rfl, by decide, by decide, fun u v hu hv huv h => ?_⟩
            obtain ⟨⟨rfl, _⟩, ⟨rfl, _⟩⟩ := hz u v hu hv h
            omega
          · refine ⟨a1, a2, 0, rfl, ⟨s2, s3⟩, ⟨t2, t3⟩, fun u v hu hv _ h => ?_⟩
            obtain ⟨⟨h5, _⟩, ⟨h6, _⟩⟩ := hz u v hu hv h
            exact ⟨h5, h6, rfl⟩
        · rename_i hne
          exact ⟨0, 0, 21, rfl, by decide, by decide, fun u v hu hv _ h => absurd (hz u v hu hv h).2.2 hne⟩
      · rename_i hne
        exact ⟨0, 0, 21, rfl, by decide, by decide, fun u v hu hv _ h => absurd (hz u v hu hv h).1.2 hne⟩
    · rw [if_neg (by omega)]
      refine ⟨0, 0, 21, rfl, by decide, by decide, fun u v hu hv _ h => ?_⟩
      exfalso
      apply h2
      rw [htwo u v hu hv h]
      rfl
theorem addr02_f (a : Int) (h0 : 0 ≤ a) (h1 : a ≤ 4294967295) (k : Nat) (hk : 22 ≤ k) : waystoneref02_Addr.f k a = some ⟨(addrText a).toArray⟩ := by
  obtain ⟨n, rfl⟩ := Int.eq_ofNat_of_zero_le h0
  have hw : wrap64 (n : Int) = (n : Int) := wrapN n (by omega)
  have w1 : wrap64 (Int.tdiv (n : Int) 16777216) = ((n / 16777216 : Nat) : Int) := by
    rw [Int.tdiv_eq_ediv_of_nonneg (by omega)]
    exact wrapN (n / 16777216) (by omega)
  have w2 : Int.tmod (wrap64 (Int.tdiv (n : Int) 65536)) 256 = ((n / 65536 % 256 : Nat) : Int) := by
    rw [Int.tdiv_eq_ediv_of_nonneg (by omega), show wrap64 ((n : Int) / 65536) = ((n / 65536 : Nat) : Int) from wrapN (n / 65536) (by omega), Int.tmod_eq_emod_of_nonneg (by omega)]
    rfl
  have w3 : Int.tmod (wrap64 (Int.tdiv (n : Int) 256)) 256 = ((n / 256 % 256 : Nat) : Int) := by
    rw [Int.tdiv_eq_ediv_of_nonneg (by omega), show wrap64 ((n : Int) / 256) = ((n / 256 : Nat) : Int) from wrapN (n / 256) (by omega), Int.tmod_eq_emod_of_nonneg (by omega)]
    rfl
  have w4 : Int.tmod (n : Int) 256 = ((n % 256 : Nat) : Int) := by
    rw [Int.tmod_eq_emod_of_nonneg (by omega)]
    rfl
  have z1 := numeral_size ((n / 16777216 : Nat) : Int) (by omega) (by omega)
  have z2 := numeral_size ((n / 65536 % 256 : Nat) : Int) (by omega) (by omega)
  have z3 := numeral_size ((n / 256 % 256 : Nat) : Int) (by omega) (by omega)
  have z4 := numeral_size ((n % 256 : Nat) : Int) (by omega) (by omega)
  have g1 := digits02_f (n / 16777216) k (by omega) hk
  have g2 := digits02_f (n / 65536 % 256) k (by omega) hk
  have g3 := digits02_f (n / 256 % 256) k (by omega) hk
  have g4 := digits02_f (n % 256) k (by omega) hk
  have ho : octets (n : Int) = [((n / 16777216 : Nat) : Int), ((n / 65536 % 256 : Nat) : Int), ((n / 256 % 256 : Nat) : Int), ((n % 256 : Nat) : Int)] := rfl
  have hT : addrText (n : Int) = (numeral ((n / 16777216 : Nat) : Int)).data.toList ++ 46 :: ((numeral ((n / 65536 % 256 : Nat) : Int)).data.toList ++ 46 :: ((numeral ((n / 256 % 256 : Nat) : Int)).data.toList ++ 46 :: (numeral ((n % 256 : Nat) : Int)).data.toList)) := by
    unfold addrText
    rw [ho]
    simp only [List.map_cons, List.map_nil, Lib.join_cons, Lib.joinTail, List.flatten_cons, List.flatten_nil, List.append_nil, List.cons_append, List.nil_append, List.append_assoc]
  unfold waystoneref02_Addr.f
  rw [hw, w1, w2, w3, w4, g1, hT]
  clear ho hT
  generalize numeral ((n / 16777216 : Nat) : Int) = t1 at *
  generalize numeral ((n / 65536 % 256 : Nat) : Int) = t2 at *
  generalize numeral ((n / 256 % 256 : Nat) : Int) = t3 at *
  generalize numeral ((n % 256 : Nat) : Int) = t4 at *
  clear hw w1 w2 w3 w4
  simp only [Option.bind_some]
  rw [if_pos (by omega), g2]
  simp only [Option.bind_some]
  rw [if_pos (by omega), if_pos (by omega), g3]
  simp only [Option.bind_some]
  rw [if_pos (by omega), if_pos (by omega), g4]
  simp only [Option.bind_some]
  rw [if_pos (by omega)]
  congr 1
  refine (bytes_mk _ _ ?_).symm
  simp [data_app]
theorem rangeText02_f (a b : Int) (ha : 0 ≤ a ∧ a ≤ 4294967295) (hb : 0 ≤ b ∧ b ≤ 4294967295) (k : Nat) (hk : 22 ≤ k) : ∃ t, waystoneref02_RangeText.f k a b = some t ∧ t.data.toList = addrText a ++ 45 :: addrText b ∧ t.size ≤ 200 := by
  have h1 := addrText_length a ha.1 ha.2
  have h2 := addrText_length b hb.1 hb.2
  have e1 : (⟨(addrText a).toArray⟩ : ByteArray).size = (addrText a).length := by simp [ByteArray.size]
  have e2 : (⟨(addrText b).toArray⟩ : ByteArray).size = (addrText b).length := by simp [ByteArray.size]
  refine ⟨((⟨(addrText a).toArray⟩ : ByteArray) ++ ⟨#[45]⟩) ++ ⟨(addrText b).toArray⟩, ?_, ?_, ?_⟩
  · unfold waystoneref02_RangeText.f
    rw [addr02_f a ha.1 ha.2 k hk]
    simp only [Option.bind_some]
    rw [if_pos (by omega), addr02_f b hb.1 hb.2 k hk]
    simp only [Option.bind_some]
    rw [if_pos (by omega)]
  · rw [data_app, data_app]
    simp
  · rw [ByteArray.size_append, ByteArray.size_append, e1, e2]
    have : (⟨#[45]⟩ : ByteArray).size = 1 := rfl
    omega
theorem kind_at (k : Int) (h0 : 0 ≤ k) (h1 : k ≤ 3) : rdOf ByteArray.empty [wForward, wDrop, wPermit, wDeny] k = ruleKind k := by
  obtain rfl | rfl | rfl | rfl : k = 0 ∨ k = 1 ∨ k = 2 ∨ k = 3 := by omega
  all_goals rfl
theorem kinds_f : waystoneref07_Kinds.f = some [wForward, wDrop, wPermit, wDeny] := rfl
theorem refText_f (x : Rl) (ho : okRule x) (hr : rightB x = true) (k : Nat) (hk : 22 ≤ k) : waystoneref07_Text.f k x.f0 x.f1 x.f2 x.f3 x.f4.f0 x.f4.f1 x.f5 = some (textT x) := by
  obtain ⟨a0, b0⟩ := ho
  have hh := (rightB_iff x).1 hr
  obtain ⟨⟨p0, p1⟩, ⟨q0, q1⟩, ⟨r0, r1⟩, ⟨s0, s1⟩, ⟨t0, t1⟩, u, v⟩ := hh
  obtain ⟨tr, htr, hd, hs⟩ := rangeText02_f x.f4.f0 x.f4.f1 a0 b0 k hk
  have n0 := numeral_size x.f0 (by omega) (by omega)
  have n1 := numeral_size x.f1 (by omega) (by omega)
  have n2 := numeral_size x.f2 (by omega) (by omega)
  have n5 := numeral_size x.f5 (by omega) (by omega)
  have g0 : waystoneref07_Digits.f k x.f0 = some (numeral x.f0) := by have := digits07_f x.f0.toNat k (by omega) hk; rwa [Int.toNat_of_nonneg (by omega)] at this
  have g1 : waystoneref07_Digits.f k x.f1 = some (numeral x.f1) := by have := digits07_f x.f1.toNat k (by omega) hk; rwa [Int.toNat_of_nonneg q0] at this
  have g2 : waystoneref07_Digits.f k x.f2 = some (numeral x.f2) := by have := digits07_f x.f2.toNat k (by omega) hk; rwa [Int.toNat_of_nonneg r0] at this
  have g5 : waystoneref07_Digits.f k x.f5 = some (numeral x.f5) := by have := digits07_f x.f5.toNat k (by omega) hk; rwa [Int.toNat_of_nonneg t0] at this
  have hK := kind_at x.f3 s0 s1
  have hkl : (ruleKind x.f3).size ≤ 7 := by rw [← dlen]; exact ruleKind_len x.f3
  have hT : (textT x).data.toList = (numeral x.f0).data.toList ++ 32 :: ((numeral x.f1).data.toList ++ 32 :: ((numeral x.f2).data.toList ++ 32 :: ((ruleKind x.f3).data.toList ++ 32 :: (tr.data.toList ++ if x.f3 = 0 then 32 :: (numeral x.f5).data.toList else [])))) := by
    unfold textT wordsT
    rw [hd]
    split
    all_goals simp [Lib.join_cons, Lib.joinTail]
  unfold waystoneref07_Text.f
  rw [g0]
  simp only [Option.bind_some]
  rw [if_pos (by omega), g1]
  simp only [Option.bind_some]
  rw [if_pos (by omega), if_pos (by omega), g2]
  simp only [Option.bind_some]
  rw [if_pos (by omega), if_pos (by omega), kinds_f]
  simp only [Option.bind_some]
  rw [if_pos s0, if_pos (by simp only [List.length_cons, List.length_nil]; omega), hK, if_pos (by omega), if_pos (by omega), htr]
  simp only [Option.bind_some]
  rw [if_pos (by omega)]
  by_cases h3 : x.f3 = 0
  · rw [if_pos h3] at hT
    rw [if_pos h3, if_pos (by omega), g5]
    simp only [Option.bind_some]
    rw [if_pos (by omega)]
    congr 1
    refine Eq.trans ?_ (bytes_mk (textT x) _ hT)
    exact (bytes_mk _ _ (by simp [data_app])).symm
  · rw [if_neg h3] at hT
    rw [if_neg h3]
    congr 1
    refine Eq.trans ?_ (bytes_mk (textT x) _ hT)
    exact (bytes_mk _ _ (by simp [data_app])).symm
def okP (x : Rl) : Int × Int × Int × Int × Int × Int × Int × Int := (x.f0, x.f1, x.f2, x.f3, x.f4.f0, x.f4.f1, x.f5, 0)
def Parsed (s : ByteArray) (r : Int × Int × Int × Int × Int × Int × Int × Int) : Prop :=
  (r = pErr ∨ ∃ x : Rl, okRule x ∧ rightB x = true ∧ textT x = s ∧ r = okP x) ∧ ∀ x : Rl, okRule x → rightB x = true → textT x = s → r = okP x
theorem Parsed.one {s : ByteArray} {r r' : Int × Int × Int × Int × Int × Int × Int × Int} (h : Parsed s r) (h' : Parsed s r') : r = r' := by
  rcases h.1 with h1 | ⟨x, a, b, c, d⟩
  · rcases h'.1 with h2 | ⟨x, a, b, c, d⟩
    · rw [h1, h2]
    · rw [d, h.2 x a b c]
  · rw [d, h'.2 x a b c]
end Go.Proofs.YtfjamikpahmfhaaGreatDoor.P
end
section
open List renaming map_toArray → mA_, map_cons → mC_, map_nil → mN_, length_drop → lD_, length_take → lT_, setIfInBounds_toArray → sI_, set_cons_zero → z0_, set_cons_succ → z1_
namespace Go.Proofs.YtfjamikpahmfhaaGreatDoor.P
open Go.RowKit Go.Proofs.YtfjamikpahmfhaaGreatDoorW.PrintWords Go.Proofs.YtfjamikpahmfhaaGreatDoorW.PrintLast Go.Proofs.YtfjamikpahmfhaaGreatDoorW.PrintMore
attribute [local go_sem] max2_int min2_int max_two min_two max_three min_three max_four min_four
set_option linter.unusedVariables false
set_option linter.unusedSimpArgs false
theorem eqA25 (d : Nat) (w : World) (x0 y0 : Int) (x1 y1 : Int) :
  (Op.equalIn (d + 2) 25 (.agg #[.int .u32 x0, .int .u32 x1]) (.agg #[.int .u32 y0, .int .u32 y1])).run Tryz.prog w = .ok (x0 == y0 && (x1 == y1)) w := by
 refine eqA_of Tryz.underlying25 (by kernel_rfl) ?_
 refine eqf_cons (by rfl) (by go_simp; rfl) (by go_simp; rfl) (by go_simp) ?_
 exact eqf_last (by rfl) (by go_simp; rfl) (by go_simp; rfl) (by go_simp)
theorem eqA27 (d : Nat) (w : World) (x0 y0 : Int) (x1 y1 : Int) (x2 y2 : Int) (x3 y3 : Int) (x4 y4 : Int) (x5 y5 : Int) (x6 y6 : Int) :
  (Op.equalIn (d + 3) 27 (.agg #[.int .i64 x0, .int .i64 x1, .int .i64 x2, .int .i64 x3, .int .u32 x4, .int .u32 x5, .int .i64 x6]) (.agg #[.int .i64 y0, .int .i64 y1, .int .i64 y2, .int .i64 y3, .int .u32 y4, .int .u32 y5, .int .i64 y6])).run Tryz.prog w = .ok (x0 == y0 && (x1 == y1 && (x2 == y2 && (x3 == y3 && ((x4 == y4 && (x5 == y5)) && (x6 == y6)))))) w := by
 refine eqA_of Tryz.underlying27 (by kernel_rfl) ?_
 refine eqf_cons (by rfl) (by go_simp; rfl) (by go_simp; rfl) (by go_simp) ?_
 refine eqf_cons (by rfl) (by go_simp; rfl) (by go_simp; rfl) (by go_simp) ?_
 refine eqf_cons (by rfl) (by go_simp; rfl) (by go_simp; rfl) (by go_simp) ?_
 refine eqf_cons (by rfl) (by go_simp; rfl) (by go_simp; rfl) (by go_simp) ?_
 refine eqf_cons (by rfl) (by go_simp) (by go_simp) (eqA25 (d + 0) w _ _ _ _) ?_
 exact eqf_last (by rfl) (by go_simp; rfl) (by go_simp; rfl) (by go_simp)
end Go.Proofs.YtfjamikpahmfhaaGreatDoor.P
end
section
open List renaming map_toArray → mA_, map_cons → mC_, map_nil → mN_, length_drop → lD_, length_take → lT_, setIfInBounds_toArray → sI_, set_cons_zero → z0_, set_cons_succ → z1_
namespace Go.Proofs.YtfjamikpahmfhaaGreatDoor.P
open Go.RowKit Go.Proofs.YtfjamikpahmfhaaGreatDoorW.PrintWords Go.Proofs.YtfjamikpahmfhaaGreatDoorW.PrintLast Go.Proofs.YtfjamikpahmfhaaGreatDoorW.PrintMore
attribute [local go_sem] max2_int min2_int max_two min_two max_three min_three max_four min_four
set_option linter.unusedVariables false
set_option linter.unusedSimpArgs false
attribute [local go_sem high] eqA27
def waystonelaw07_RuleTexts.j0 : Nat → ByteArray → Bool → Option (Bool)
 | 0, _, _ => none
 | k + 1, x1, x19 => if x19 = true then (none) else (if (x1.size : Int) > 80 then ((waystonelaw07_alive.f k).bind fun t290 => (some t290)) else ((rule_Parse.f x1).bind fun bt291 => ((waystoneref07_Parse.f k x1).bind fun bt300 => ((waystonelaw07_alive.f k).bind fun t309 => (if t309 = true then (if (bt291.1 == bt300.1 && (bt291.2.1 == bt300.2.1 && (bt291.2.2.1 == bt300.2.2.1 && (bt291.2.2.2.1 == bt300.2.2.2.1 && ((bt291.2.2.2.2.1 == bt300.2.2.2.2.1 && (bt291.2.2.2.2.2.1 == bt300.2.2.2.2.2.1)) && (bt291.2.2.2.2.2.2.1 == bt300.2.2.2.2.2.2.1)))))) = true then (some (bt291.2.2.2.2.2.2.2 == bt300.2.2.2.2.2.2.2)) else (none)) else (none))))))
def waystonelaw07_RuleTexts.f (k : Nat) (a0_0 : Int) (a0_1 : Int) (a0_2 : Int) (a0_3 : Int) (a0_4 : Int) (a0_5 : Int) (a0_6 : Int) (a1 : ByteArray) : Option (Bool) := (waystoneref07_Right.f a0_0 a0_1 a0_2 a0_3 a0_4 a0_5 a0_6).bind fun t287 => (if t287 = true then ((rule_Text.f a0_0 a0_1 a0_2 a0_3 a0_4 a0_5 a0_6).bind fun t288 => ((waystoneref07_Text.f k a0_0 a0_1 a0_2 a0_3 a0_4 a0_5 a0_6).bind fun t289 => (waystonelaw07_RuleTexts.j0 k a1 (t288.toList != t289.toList)))) else (waystonelaw07_RuleTexts.j0 k a1 false))
def waystonelaw07_RuleTexts.T2 : Bool × List (List Nat × List Nat) := (true, [([], []), ([0], [0]), ([1], [1]), ([2, 1, 1], [1, 2]), ([1], [1]), ([4, 3, 1], [1, 4]), ([3, 5, 1], [1, 3, 5]), ([1, 6], [1, 6])])
def waystonelaw07_RuleTexts.B2 : List Nat := [0, 1, 3, 7, 3, 31, 63, 127]
theorem waystonelaw07_RuleTexts.tab2 : rtab .any (opsOf Tryz.f3 2) = waystonelaw07_RuleTexts.T2 := by kernel_rfl
theorem waystonelaw07_RuleTexts.bits2 : waitsOk waystonelaw07_RuleTexts.T2.2 waystonelaw07_RuleTexts.B2 = true := by kernel_rfl
set_option maxHeartbeats 8000000 in
set_option maxRecDepth 100000 in
theorem waystonelaw07_RuleTexts.calls (k : Nat) (a0_0 : Int) (a0_1 : Int) (a0_2 : Int) (a0_3 : Int) (a0_4 : Int) (a0_5 : Int) (a0_6 : Int) (a1 : ByteArray) (r : Bool) (w : World) (HLd : Laid w) (h : waystonelaw07_RuleTexts.f k a0_0 a0_1 a0_2 a0_3 a0_4 a0_5 a0_6 a1 = some r) :
  Calls Tryz.prog 3 #[.agg #[.int .i64 a0_0, .int .i64 a0_1, .int .i64 a0_2, .int .i64 a0_3, .int .u32 a0_4, .int .u32 a0_5, .int .i64 a0_6], .string a1] w fun e w' => e = .returned (.bool r) ∧ Below w.heap.size w w' := by
 have hu27 := Tryz.underlying27
 have HB := Aside0.mk (Below.refl w.heap.size w)
 have H : ((waystoneref07_Right.f a0_0 a0_1 a0_2 a0_3 a0_4 a0_5 a0_6).bind fun t287 => (if t287 = true then ((rule_Text.f a0_0 a0_1 a0_2 a0_3 a0_4 a0_5 a0_6).bind fun t288 => ((waystoneref07_Text.f k a0_0 a0_1 a0_2 a0_3 a0_4 a0_5 a0_6).bind fun t289 => (waystonelaw07_RuleTexts.j0 k a1 (t288.toList != t289.toList)))) else (waystonelaw07_RuleTexts.j0 k a1 false))) = some r := h
 clear h
 replace H := Option.bind_eq_some_iff.mp H
 obtain ⟨t287, A30, H⟩ := H
 try dsimp only at H
 have A3 := Aside0.mk A30
 clear A30
 have HC4 := Aside0.mk H
 clear H
 go_enter Tryz.func3, Tryz.ntmps3
 go_upto_region 2 with (first | ((with_reducible refine gate_dst (N := 2) rfl ?_); refine box_event ?hg (N := 2) ?hd (cs := #[.int .i64 a0_0, .int .i64 a0_1, .int .i64 a0_2, .int .i64 a0_3, .int .u32 a0_4, .int .u32 a0_5, .int .i64 a0_6]) (t := 27) ?hr ?_; (case hd => rfl); (case hg => rfl); (case hr => first | (go_simp; done) | (go_simp; rfl)); intro gb286 hg w5 hbox hb; have n0_ := Aside0.mk (below_step (gB HB.out) hb); have n1_ := Aside0.mk (hbox); have n2_ := Aside0.mk ((by rw [hg]; exact (below_size (gB HB.out)) : w.heap.size ≤ gb286)); have n3_ := Aside0.mk ((by rw [hg]; exact (below_size (gB HB.out)) : w.heap.size ≤ gb286)); clear HB; have HB := n0_; have BK286 := n1_; have GW286 := n2_; have GE286 := n3_; clear n0_ n1_ n2_ n3_; clear hb hbox hg; have hcz6_0 : w5.cell? ⟨gb286, 0, none⟩ = some (.int .i64 a0_0) := (blk_cell BK286.out 0).trans rfl; have hcz6_1 : w5.cell? ⟨gb286, 1, none⟩ = some (.int .i64 a0_1) := (blk_cell BK286.out 1).trans rfl; have hcz6_2 : w5.cell? ⟨gb286, 2, none⟩ = some (.int .i64 a0_2) := (blk_cell BK286.out 2).trans rfl; have hcz6_3 : w5.cell? ⟨gb286, 3, none⟩ = some (.int .i64 a0_3) := (blk_cell BK286.out 3).trans rfl; have hcz6_4 : w5.cell? ⟨gb286, 4, none⟩ = some (.int .u32 a0_4) := (blk_cell BK286.out 4).trans rfl; have hcz6_5 : w5.cell? ⟨gb286, 5, none⟩ = some (.int .u32 a0_5) := (blk_cell BK286.out 5).trans rfl; have hcz6_6 : w5.cell? ⟨gb286, 6, none⟩ = some (.int .i64 a0_6) := (blk_cell BK286.out 6).trans rfl; have hfz6_0 := blk_frozen BK286.out 0; have hfz6_1 := blk_frozen BK286.out 1; have hfz6_2 := blk_frozen BK286.out 2; have hfz6_3 := blk_frozen BK286.out 3; have hfz6_4 := blk_frozen BK286.out 4; have hfz6_5 := blk_frozen BK286.out 5; have hfz6_6 := blk_frozen BK286.out 6) | ((with_reducible refine gate_callee (f := 10) rfl ?_); refine goesL_ (some 11) rfl rfl Tryz.func10 (by kernel_rfl) rfl #[.agg #[.int .i64 a0_0, .int .i64 a0_1, .int .i64 a0_2, .int .i64 a0_3, .int .u32 a0_4, .int .u32 a0_5, .int .i64 a0_6]] rfl (by (try simp only [mA_, mC_, mN_]); first|done|rfl|(simp only [lD_, lT_]; rfl)) ?_; (with_reducible refine (waystoneref07_Right.calls a0_0 a0_1 a0_2 a0_3 a0_4 a0_5 a0_6 t287 _ A3.out).mono ?_); rintro e w7 ⟨rfl, hb⟩; refine ⟨_, rfl, ?_⟩; have n0_ := Aside0.mk (blk_below (g := gb286) (o := .cells #[.int .i64 a0_0, .int .i64 a0_1, .int .i64 a0_2, .int .i64 a0_3, .int .u32 a0_4, .int .u32 a0_5, .int .i64 a0_6] 27 (0, 0)) (gK BK286.out) hb); have n1_ := Aside0.mk (below_step (by repeat first|(with_reducible first|exact HB.out|apply ba|apply bd|apply b1|refine bs ?_ GE286.out)|exact HB.out) hb); clear BK286; clear HB; have BK286 := n0_; have HB := n1_; clear n0_ n1_; (try clear hb); (try clear hb2); (try clear hk); (try clear hi)))
 (try simp only [Act.put, sI_, z0_, z1_])
 go_cut [19] (fun v19 wc => ∃ (kq : Nat) (x19_3 : Bool), v19 = .bool x19_3 ∧ Aside0 (waystonelaw07_RuleTexts.j0 kq a1 x19_3 = some r) ∧ Aside0 (kq ≤ k) ∧ Aside0 (wc.heap[gb286]? = some (.cells #[.int .i64 a0_0, .int .i64 a0_1, .int .i64 a0_2, .int .i64 a0_3, .int .u32 a0_4, .int .u32 a0_5, .int .i64 a0_6] 27 (0, 0))) ∧ Aside0 (Below w.heap.size w wc))
 case first =>
  have H := HC4.out
  clear HC4
  by_cases c8 : t287 = true
  ·subst c8
   rw [if_pos rfl] at H
   replace H := Option.bind_eq_some_iff.mp H
   obtain ⟨t288, A90, H⟩ := H
   try dsimp only at H
   have A9 := Aside0.mk A90
   clear A90
   replace H := Option.bind_eq_some_iff.mp H
   obtain ⟨t289, A100, H⟩ := H
   try dsimp only at H
   have A10 := Aside0.mk A100
   clear A100
   have H' := Aside0.mk H
   clear H
   try go_wp2
   have n0_ := Aside0.mk (blk_drew BK286.out)
   have n1_ := Aside0.mk (below_drew1 HB.out)
   clear BK286
   clear HB
   have BK286 := n0_
   have HB := n1_
   clear n0_ n1_
   refine start_ (n := 8) (S := fun w' => w'.cell? ⟨gb286, 0, none⟩ = some (.int .i64 a0_0) ∧ w'.cell? ⟨gb286, 1, none⟩ = some (.int .i64 a0_1) ∧ w'.cell? ⟨gb286, 2, none⟩ = some (.int .i64 a0_2) ∧ w'.cell? ⟨gb286, 3, none⟩ = some (.int .i64 a0_3) ∧ w'.cell? ⟨gb286, 4, none⟩ = some (.int .u32 a0_4) ∧ w'.cell? ⟨gb286, 5, none⟩ = some (.int .u32 a0_5) ∧ w'.cell? ⟨gb286, 6, none⟩ = some (.int .i64 a0_6)) (ds := []) #[false, false, false, false, false, false, false, false] (by kernel_rfl) rfl rfl ⟨(blk_cell BK286.out 0).trans rfl, (blk_cell BK286.out 1).trans rfl, (blk_cell BK286.out 2).trans rfl, (blk_cell BK286.out 3).trans rfl, (blk_cell BK286.out 4).trans rfl, (blk_cell BK286.out 5).trans rfl, (blk_cell BK286.out 6).trans rfl⟩ (fun hHeld => ?_); refine with_tabW waystonelaw07_RuleTexts.tab2 waystonelaw07_RuleTexts.bits2 (fun HT_ HW_ => ?_)
   generalize w7.drew = w11 at BK286 HB hHeld ⊢
   refine pure_ (i := 0) (N := some 12) (v := ?_) (a' := ?_) #[true, false, false, false, false, false, false, false] rfl rfl (any_of HT_.out (by kernel_rfl)) (fun _ _ _ h => h) (Or.inl ⟨by rfl, ?_⟩) ?_ ?_
   rotate_left
   ·intro w'
    go_simp
    with_reducible rfl
   rotate_left
   ·simp only [Act.put, sI_, z0_, z1_, i64_w, i32_w]
    rfl
   refine pure_ (i := 1) (N := some 13) (v := ?_) (a' := ?_) #[true, true, false, false, false, false, false, false] rfl rfl (any_of HT_.out (by kernel_rfl)) (fun _ _ _ h => h) (Or.inl ⟨by rfl, ?_⟩) ?_ ?_
   rotate_left
   ·intro w'
    go_simp
    with_reducible rfl
   rotate_left
   ·simp only [Act.put, sI_, z0_, z1_, i64_w, i32_w]
    rfl
   refine take_ (i := 2) (N := some 14) (v := ?_) (a' := ?_) #[true, true, true, false, false, false, false, false] rfl rfl (take_ofW HT_.out HW_.out (by kernel_rfl)) (fun _ _ _ h => h) (Or.inl ⟨by rfl, ?_⟩) hHeld ?_ ?_
   rotate_left
   ·rintro w' ⟨s0, s1, s2, s3, s4, s5, s6⟩
    go_simp
    with_reducible rfl
   rotate_left
   ·simp only [Act.put, sI_, z0_, z1_, i64_w, i32_w]
    rfl
   refine take_ (i := 4) (N := some 16) (v := ?_) (a' := ?_) #[true, true, true, false, true, false, false, false] rfl rfl (take_ofW HT_.out HW_.out (by kernel_rfl)) (fun _ _ _ h => h) (Or.inl ⟨by rfl, ?_⟩) hHeld ?_ ?_
   rotate_left
   ·rintro w' ⟨s0, s1, s2, s3, s4, s5, s6⟩
    go_simp
    with_reducible rfl
   rotate_left
   ·simp only [Act.put, sI_, z0_, z1_, i64_w, i32_w]
    rfl
   refine one_ (i := 3) (N := some 15) #[true, true, true, true, true, false, false, false] rfl rfl (one_of HT_.out (by kernel_rfl)) (by decide) (fun K hK => ?_)
   refine goes_ Tryz.func11 (by kernel_rfl) rfl #[.agg #[.int .i64 a0_0, .int .i64 a0_1, .int .i64 a0_2, .int .i64 a0_3, .int .u32 a0_4, .int .u32 a0_5, .int .i64 a0_6]] (by rfl) rfl rfl (by (try simp only [mA_, mC_, mN_]); first|done|rfl|(simp only [lD_, lT_]; rfl)) ?_
   with_reducible refine (rule_Text.calls a0_0 a0_1 a0_2 a0_3 a0_4 a0_5 a0_6 t288 _ ?side1 A9.out).mono ?_
   (case side1 => exact HLd.below (by repeat first|(with_reducible first|exact HB.out|apply ba|apply bd|apply b1|refine bs ?_ GE286.out)|exact HB.out))
   rintro e w12 ⟨rfl, hb⟩
   refine ⟨_, rfl, ?_⟩
   have n0_ := Aside0.mk (blk_below (g := gb286) (o := .cells #[.int .i64 a0_0, .int .i64 a0_1, .int .i64 a0_2, .int .i64 a0_3, .int .u32 a0_4, .int .u32 a0_5, .int .i64 a0_6] 27 (0, 0)) (gK BK286.out) hb)
   have n1_ := Aside0.mk (below_step (by repeat first|(with_reducible first|exact HB.out|apply ba|apply bd|apply b1|refine bs ?_ GE286.out)|exact HB.out) hb)
   clear BK286
   clear HB
   have BK286 := n0_
   have HB := n1_
   clear n0_ n1_
   (try clear hb)
   (try clear hb2)
   (try clear hk)
   (try clear hi)
   refine hK.out _ _ ⟨(blk_cell BK286.out 0).trans rfl, (blk_cell BK286.out 1).trans rfl, (blk_cell BK286.out 2).trans rfl, (blk_cell BK286.out 3).trans rfl, (blk_cell BK286.out 4).trans rfl, (blk_cell BK286.out 5).trans rfl, (blk_cell BK286.out 6).trans rfl⟩ (fun hHeld => ?_)
   clear hK K
   refine norm_ (a' := ?_) ?_ ?_
   rotate_left
   ·show Act.put _ (some 15) _ = _
    simp only [Act.put, sI_, z0_, z1_, i64_w, i32_w]
    rfl
   refine one_ (i := 5) (N := some 17) #[true, true, true, true, true, true, false, false] rfl rfl (one_of HT_.out (by kernel_rfl)) (by decide) (fun K hK => ?_)
   refine goes_ Tryz.func12 (by kernel_rfl) rfl #[.agg #[.int .i64 a0_0, .int .i64 a0_1, .int .i64 a0_2, .int .i64 a0_3, .int .u32 a0_4, .int .u32 a0_5, .int .i64 a0_6]] (by rfl) rfl rfl (by (try simp only [mA_, mC_, mN_]); first|done|rfl|(simp only [lD_, lT_]; rfl)) ?_
   with_reducible refine (waystoneref07_Text.calls k a0_0 a0_1 a0_2 a0_3 a0_4 a0_5 a0_6 t289 _ A10.out).mono ?_
   rintro e w13 ⟨rfl, hb⟩
   refine ⟨_, rfl, ?_⟩
   have n0_ := Aside0.mk (blk_below (g := gb286) (o := .cells #[.int .i64 a0_0, .int .i64 a0_1, .int .i64 a0_2, .int .i64 a0_3, .int .u32 a0_4, .int .u32 a0_5, .int .i64 a0_6] 27 (0, 0)) (gK BK286.out) hb)
   have n1_ := Aside0.mk (below_step (by repeat first|(with_reducible first|exact HB.out|apply ba|apply bd|apply b1|refine bs ?_ GE286.out)|exact HB.out) hb)
   clear BK286
   clear HB
   have BK286 := n0_
   have HB := n1_
   clear n0_ n1_
   (try clear hb)
   (try clear hb2)
   (try clear hk)
   (try clear hi)
   refine hK.out _ _ ⟨(blk_cell BK286.out 0).trans rfl, (blk_cell BK286.out 1).trans rfl, (blk_cell BK286.out 2).trans rfl, (blk_cell BK286.out 3).trans rfl, (blk_cell BK286.out 4).trans rfl, (blk_cell BK286.out 5).trans rfl, (blk_cell BK286.out 6).trans rfl⟩ (fun hHeld => ?_)
   clear hK K
   refine norm_ (a' := ?_) ?_ ?_
   rotate_left
   ·show Act.put _ (some 17) _ = _
    simp only [Act.put, sI_, z0_, z1_, i64_w, i32_w]
    rfl
   refine pure_ (i := 6) (N := some 18) (v := ?_) (a' := ?_) #[true, true, true, true, true, true, true, false] rfl rfl (any_of HT_.out (by kernel_rfl)) (fun _ _ _ h => h) (Or.inl ⟨by rfl, ?_⟩) ?_ ?_
   rotate_left
   ·intro w'
    go_simp
    with_reducible rfl
   rotate_left
   ·simp only [Act.put, sI_, z0_, z1_, i64_w, i32_w]
    rfl
   refine pure_ (i := 7) (N := some 19) (v := ?_) (a' := ?_) #[true, true, true, true, true, true, true, true] rfl rfl (any_of HT_.out (by kernel_rfl)) (fun _ _ _ h => h) (Or.inl ⟨by rfl, ?_⟩) ?_ ?_
   rotate_left
   ·intro w'
    go_simp
    with_reducible rfl
   rotate_left
   ·simp only [Act.put, sI_, z0_, z1_, i64_w, i32_w]
    rfl
   refine done_ (done_of HT_.out (by kernel_rfl)) ?_
   try go_wp2
   go_meet
   case rel => exact ⟨_, ((t288.toList != t289.toList)), (by first | rfl | (simp; done) | (simp [*]; done)), H', ⟨by first | omega | exact Nat.le_refl _⟩, ⟨gK BK286.out⟩, ⟨by repeat first|(with_reducible first|exact HB.out|apply ba|apply bd|apply b1|refine bs ?_ GE286.out)|exact HB.out⟩⟩
  ·replace c8 := Bool.eq_false_iff.mpr c8
   subst c8
   rw [if_neg (show ¬ (false = true) by decide)] at H
   have H' := Aside0.mk H
   clear H
   try go_wp2
   have n0_ := Aside0.mk (blk_drew BK286.out)
   have n1_ := Aside0.mk (below_drew1 HB.out)
   clear BK286
   clear HB
   have BK286 := n0_
   have HB := n1_
   clear n0_ n1_
   refine start_ (n := 8) (S := fun w' => True) (ds := []) #[false, false, false, false, false, false, false, false] (by kernel_rfl) rfl rfl trivial (fun hHeld => ?_); refine with_tabW waystonelaw07_RuleTexts.tab2 waystonelaw07_RuleTexts.bits2 (fun HT_ HW_ => ?_)
   generalize w7.drew = w14 at BK286 HB hHeld ⊢
   refine pure_ (i := 0) (N := some 12) (v := ?_) (a' := ?_) #[true, false, false, false, false, false, false, false] rfl rfl (any_of HT_.out (by kernel_rfl)) (fun _ _ _ h => h) (Or.inl ⟨by rfl, ?_⟩) ?_ ?_
   rotate_left
   ·intro w'
    go_simp
    with_reducible rfl
   rotate_left
   ·simp only [Act.put, sI_, z0_, z1_, i64_w, i32_w]
    rfl
   refine pure_ (i := 1) (N := some 13) (v := ?_) (a' := ?_) #[true, true, false, false, false, false, false, false] rfl rfl (any_of HT_.out (by kernel_rfl)) (fun _ _ _ h => h) (Or.inl ⟨by rfl, ?_⟩) ?_ ?_
   rotate_left
   ·intro w'
    go_simp
    with_reducible rfl
   rotate_left
   ·simp only [Act.put, sI_, z0_, z1_, i64_w, i32_w]
    rfl
   refine pure_ (i := 2) (N := some 14) (v := undef) (a' := ?_) #[true, true, true, false, false, false, false, false] rfl rfl (any_of HT_.out (by kernel_rfl)) (fun _ _ _ h => h) (Or.inr ⟨by rfl, rfl⟩) ?_ ?_
   rotate_left
   ·simp only [Act.put, sI_, z0_, z1_, i64_w, i32_w]
    rfl
   refine pure_ (i := 3) (N := some 15) (v := undef) (a' := ?_) #[true, true, true, true, false, false, false, false] rfl rfl (any_of HT_.out (by kernel_rfl)) (fun _ _ _ h => h) (Or.inr ⟨by rfl, rfl⟩) ?_ ?_
   rotate_left
   ·simp only [Act.put, sI_, z0_, z1_, i64_w, i32_w]
    rfl
   refine pure_ (i := 4) (N := some 16) (v := undef) (a' := ?_) #[true, true, true, true, true, false, false, false] rfl rfl (any_of HT_.out (by kernel_rfl)) (fun _ _ _ h => h) (Or.inr ⟨by rfl, rfl⟩) ?_ ?_
   rotate_left
   ·simp only [Act.put, sI_, z0_, z1_, i64_w, i32_w]
    rfl
   refine pure_ (i := 5) (N := some 17) (v := undef) (a' := ?_) #[true, true, true, true, true, true, false, false] rfl rfl (any_of HT_.out (by kernel_rfl)) (fun _ _ _ h => h) (Or.inr ⟨by rfl, rfl⟩) ?_ ?_
   rotate_left
   ·simp only [Act.put, sI_, z0_, z1_, i64_w, i32_w]
    rfl
   refine pure_ (i := 6) (N := some 18) (v := undef) (a' := ?_) #[true, true, true, true, true, true, true, false] rfl rfl (any_of HT_.out (by kernel_rfl)) (fun _ _ _ h => h) (Or.inr ⟨by rfl, rfl⟩) ?_ ?_
   rotate_left
   ·simp only [Act.put, sI_, z0_, z1_, i64_w, i32_w]
    rfl
   refine pure_ (i := 7) (N := some 19) (v := ?_) (a' := ?_) #[true, true, true, true, true, true, true, true] rfl rfl (any_of HT_.out (by kernel_rfl)) (fun _ _ _ h => h) (Or.inl ⟨by rfl, ?_⟩) ?_ ?_
   rotate_left
   ·intro w'
    go_simp
    with_reducible rfl
   rotate_left
   ·simp only [Act.put, sI_, z0_, z1_, i64_w, i32_w]
    rfl
   refine done_ (done_of HT_.out (by kernel_rfl)) ?_
   try go_wp2
   go_meet
   case rel => exact ⟨_, (false), (by first | rfl | (simp; done) | (simp [*]; done)), H', ⟨by first | omega | exact Nat.le_refl _⟩, ⟨gK BK286.out⟩, ⟨by repeat first|(with_reducible first|exact HB.out|apply ba|apply bd|apply b1|refine bs ?_ GE286.out)|exact HB.out⟩⟩
 case rest =>
  clear HC4
  try clear c1
  try clear p2
  try clear c3
  try clear c8
  try clear c10
  try clear c11
  try clear c12
  try clear hcz6_0
  try clear hcz6_1
  try clear hcz6_2
  try clear hcz6_3
  try clear hcz6_4
  try clear hcz6_5
  try clear hcz6_6
  try clear hfz6_0
  try clear hfz6_1
  try clear hfz6_2
  try clear hfz6_3
  try clear hfz6_4
  try clear hfz6_5
  try clear hfz6_6
  obtain ⟨kq, x19_3, rfl, HA, HJ3, BK286, HB⟩ := hcut
  cases kq with
  | zero => exact absurd HA.out (by simp [waystonelaw07_RuleTexts.j0])
  | succ kj3 =>
   have H := HA.out
   clear HA
   simp only [waystonelaw07_RuleTexts.j0] at H
   by_cases c15 : x19_3 = true
   ·subst c15
    rw [if_pos rfl] at H
    exact absurd H (by simp)
   ·replace c15 := Bool.eq_false_iff.mpr c15
    subst c15
    rw [if_neg (show ¬ (false = true) by decide)] at H
    by_cases c16 : (a1.size : Int) > 80
    ·rw [if_pos c16] at H
     have c16b0 : decide (80 < (a1.size : Int)) = true := decide_eq_true c16
     have c16b1 : decide (80 < a1.size) = true := decide_eq_true (by omega)
     clear c16
     replace H := Option.bind_eq_some_iff.mp H
     obtain ⟨t290, A170, H⟩ := H
     try dsimp only at H
     have A17 := Aside0.mk A170
     clear A170
     obtain rfl := Option.some.inj H
     go_wp2_with (first | ((with_reducible refine gate_callee (f := 13) rfl ?_); refine goesL_ (some 23) rfl rfl Tryz.func13 (by kernel_rfl) rfl #[] rfl (by (try simp only [mA_, mC_, mN_]); first|done|rfl|(simp only [lD_, lT_]; rfl)) ?_; (with_reducible refine (waystonelaw07_alive.calls kj3  t290 _ ?side1 A17.out).mono ?_); (case side1 => exact HLd.below (by repeat first|(with_reducible first|exact HB.out|apply ba|apply bd|apply b1|refine bs ?_ GE286.out)|exact HB.out)); rintro e w18 ⟨rfl, hb⟩; refine ⟨_, rfl, ?_⟩; have n0_ := Aside0.mk (blk_below (g := gb286) (o := .cells #[.int .i64 a0_0, .int .i64 a0_1, .int .i64 a0_2, .int .i64 a0_3, .int .u32 a0_4, .int .u32 a0_5, .int .i64 a0_6] 27 (0, 0)) (gK BK286.out) hb); have n1_ := Aside0.mk (below_step (by repeat first|(with_reducible first|exact HB.out|apply ba|apply bd|apply b1|refine bs ?_ GE286.out)|exact HB.out) hb); clear BK286; clear HB; have BK286 := n0_; have HB := n1_; clear n0_ n1_; (try clear hb); (try clear hb2); (try clear hk); (try clear hi)))
     go_ret
     exact ⟨by first | rfl | (simp [errW_none, errW_some] <;> rfl) | (simp [*, errW_none, errW_some] <;> rfl), by repeat first|(with_reducible first|exact HB.out|apply ba|apply bd|apply b1|refine bs ?_ GE286.out)|exact HB.out⟩
    ·rw [if_neg c16] at H
     have c16b0 : decide (80 < (a1.size : Int)) = false := decide_eq_false c16
     have c16b1 : decide (80 < a1.size) = false := decide_eq_false (by omega)
     clear c16
     replace H := Option.bind_eq_some_iff.mp H
     obtain ⟨⟨t291, t292, t293, t294, t295, t296, t297, t298⟩, A190, H⟩ := H
     try dsimp only at H
     have A19 := Aside0.mk A190
     clear A190
     replace H := Option.bind_eq_some_iff.mp H
     obtain ⟨⟨t300, t301, t302, t303, t304, t305, t306, t307⟩, A200, H⟩ := H
     try dsimp only at H
     have A20 := Aside0.mk A200
     clear A200
     replace H := Option.bind_eq_some_iff.mp H
     obtain ⟨t309, A210, H⟩ := H
     try dsimp only at H
     have A21 := Aside0.mk A210
     clear A210
     by_cases c22 : t309 = true
     ·subst c22
      rw [if_pos rfl] at H
      by_cases c23 : (t291 == t300 && (t292 == t301 && (t293 == t302 && (t294 == t303 && ((t295 == t304 && (t296 == t305)) && (t297 == t306)))))) = true
      ·rw [if_pos c23] at H
       have c23b0 : (t291 == t300 && (t292 == t301 && (t293 == t302 && (t294 == t303 && ((t295 == t304 && (t296 == t305)) && (t297 == t306)))))) = true := c23
       (try (have c23b1 : decide (t291 = t300 && (t292 == t301 && (t293 == t302 && (t294 == t303 && ((t295 == t304 && (t296 == t305)) && (t297 == t306)))))) = true := by simpa using c23))
       (try (have c23b2 : (t291 == t300 && (t292 == t301 && (t293 == t302 && (t294 == t303 && ((t295 == t304 && (t296 == t305)) && (t297 == t306)))))) = true := by simpa using c23))
       clear c23
       obtain rfl := Option.some.inj H
       go_wp2_with (first | ((with_reducible refine gate_callee (f := 14) rfl ?_); refine goesL_ (some 26) rfl rfl Tryz.func14 (by kernel_rfl) rfl #[.string a1] rfl (by (try simp only [mA_, mC_, mN_]); first|done|rfl|(simp only [lD_, lT_]; rfl)) ?_; (with_reducible refine (rule_Parse.calls a1 t291 t292 t293 t294 t295 t296 t297 t298 _ ?side1 A19.out).mono ?_); (case side1 => exact HLd.below (by repeat first|(with_reducible first|exact HB.out|apply ba|apply bd|apply b1|refine bs ?_ GE286.out)|exact HB.out)); rintro e w24 ⟨rfl, hb⟩; refine ⟨_, rfl, ?_⟩; have n0_ := Aside0.mk (blk_below (g := gb286) (o := .cells #[.int .i64 a0_0, .int .i64 a0_1, .int .i64 a0_2, .int .i64 a0_3, .int .u32 a0_4, .int .u32 a0_5, .int .i64 a0_6] 27 (0, 0)) (gK BK286.out) hb); have n1_ := Aside0.mk (below_step (by repeat first|(with_reducible first|exact HB.out|apply ba|apply bd|apply b1|refine bs ?_ GE286.out)|exact HB.out) hb); clear BK286; clear HB; have BK286 := n0_; have HB := n1_; clear n0_ n1_; (try clear hb); (try clear hb2); (try clear hk); (try clear hi)) | ((with_reducible refine gate_dst (N := 6) rfl ?_); refine box_event ?hg (N := 6) ?hd (cs := #[.int .i64 0, .int .i64 0, .int .i64 0, .int .i64 0, .int .u32 0, .int .u32 0, .int .i64 0]) (t := 27) ?hr ?_; (case hd => rfl); (case hg => rfl); (case hr => first | (go_simp; done) | (go_simp; rfl)); intro gb299 hg w25 hbox hb; have n0_ := Aside0.mk (blk_below (g := gb286) (o := .cells #[.int .i64 a0_0, .int .i64 a0_1, .int .i64 a0_2, .int .i64 a0_3, .int .u32 a0_4, .int .u32 a0_5, .int .i64 a0_6] 27 (0, 0)) (gK BK286.out) hb); have n1_ := Aside0.mk (below_step (by repeat first|(with_reducible first|exact HB.out|apply ba|apply bd|apply b1|refine bs ?_ GE286.out)|exact HB.out) hb); have n2_ := Aside0.mk (hbox); have n3_ := Aside0.mk ((by rw [hg]; exact (below_size (by repeat first|(with_reducible first|exact HB.out|apply ba|apply bd|apply b1|refine bs ?_ GE286.out)|exact HB.out)) : w.heap.size ≤ gb299)); have n4_ := Aside0.mk ((by rw [hg]; exact (below_size (by repeat first|(with_reducible first|exact HB.out|apply ba|apply bd|apply b1|refine bs ?_ GE286.out)|exact HB.out)) : w.heap.size ≤ gb299)); have n5_ := Aside0.mk ((by rw [hg]; exact Nat.ne_of_lt (blk_lt (g := gb286) (o := .cells #[.int .i64 a0_0, .int .i64 a0_1, .int .i64 a0_2, .int .i64 a0_3, .int .u32 a0_4, .int .u32 a0_5, .int .i64 a0_6] 27 (0, 0)) (gK BK286.out)) : gb286 ≠ gb299)); have n6_ := Aside0.mk ((by rw [hg]; exact Nat.ne_of_gt (blk_lt (g := gb286) (o := .cells #[.int .i64 a0_0, .int .i64 a0_1, .int .i64 a0_2, .int .i64 a0_3, .int .u32 a0_4, .int .u32 a0_5, .int .i64 a0_6] 27 (0, 0)) (gK BK286.out)) : gb299 ≠ gb286)); clear BK286; clear HB; have BK286 := n0_; have HB := n1_; have BK299 := n2_; have GW299 := n3_; have GE299 := n4_; have NB286_299 := n5_; have NB299_286 := n6_; clear n0_ n1_ n2_ n3_ n4_ n5_ n6_; clear hb hbox hg; have hnb26 := NB299_286.out; have hnc26 := NB286_299.out; have hcz27_0 : w25.cell? ⟨gb299, 0, none⟩ = some (.int .i64 0) := (blk_cell BK299.out 0).trans rfl; have hcz27_1 : w25.cell? ⟨gb299, 1, none⟩ = some (.int .i64 0) := (blk_cell BK299.out 1).trans rfl; have hcz27_2 : w25.cell? ⟨gb299, 2, none⟩ = some (.int .i64 0) := (blk_cell BK299.out 2).trans rfl; have hcz27_3 : w25.cell? ⟨gb299, 3, none⟩ = some (.int .i64 0) := (blk_cell BK299.out 3).trans rfl; have hcz27_4 : w25.cell? ⟨gb299, 4, none⟩ = some (.int .u32 0) := (blk_cell BK299.out 4).trans rfl; have hcz27_5 : w25.cell? ⟨gb299, 5, none⟩ = some (.int .u32 0) := (blk_cell BK299.out 5).trans rfl; have hcz27_6 : w25.cell? ⟨gb299, 6, none⟩ = some (.int .i64 0) := (blk_cell BK299.out 6).trans rfl; have hfz27_0 := blk_frozen BK299.out 0; have hfz27_1 := blk_frozen BK299.out 1; have hfz27_2 := blk_frozen BK299.out 2; have hfz27_3 := blk_frozen BK299.out 3; have hfz27_4 := blk_frozen BK299.out 4; have hfz27_5 := blk_frozen BK299.out 5; have hfz27_6 := blk_frozen BK299.out 6) | ((with_reducible refine gate_callee (f := 15) rfl ?_); refine goesL_ (some 31) rfl rfl Tryz.func15 (by kernel_rfl) rfl #[.string a1] rfl (by (try simp only [mA_, mC_, mN_]); first|done|rfl|(simp only [lD_, lT_]; rfl)) ?_; (with_reducible refine (waystoneref07_Parse.calls kj3 a1 t300 t301 t302 t303 t304 t305 t306 t307 _ A20.out).mono ?_); rintro e w28 ⟨rfl, hb⟩; refine ⟨_, rfl, ?_⟩; have n0_ := Aside0.mk (blk_below (g := gb286) (o := .cells #[.int .i64 a0_0, .int .i64 a0_1, .int .i64 a0_2, .int .i64 a0_3, .int .u32 a0_4, .int .u32 a0_5, .int .i64 a0_6] 27 (0, 0)) (by (with_reducible repeat (first | refine blk_drewN ?_ _ | refine blk_drew ?_ | refine blk_alloc ?_ _)); refine blk_far ?_ NB286_299.out _; (with_reducible repeat (first | refine blk_drewN ?_ _ | refine blk_drew ?_ | refine blk_alloc ?_ _)); refine blk_far ?_ NB286_299.out _; (with_reducible repeat (first | refine blk_drewN ?_ _ | refine blk_drew ?_ | refine blk_alloc ?_ _)); refine blk_far ?_ NB286_299.out _; (with_reducible repeat (first | refine blk_drewN ?_ _ | refine blk_drew ?_ | refine blk_alloc ?_ _)); refine blk_far ?_ NB286_299.out _; (with_reducible repeat (first | refine blk_drewN ?_ _ | refine blk_drew ?_ | refine blk_alloc ?_ _)); refine blk_far ?_ NB286_299.out _; (with_reducible repeat (first | refine blk_drewN ?_ _ | refine blk_drew ?_ | refine blk_alloc ?_ _)); refine blk_far ?_ NB286_299.out _; (with_reducible repeat (first | refine blk_drewN ?_ _ | refine blk_drew ?_ | refine blk_alloc ?_ _)); refine blk_far ?_ NB286_299.out _; (with_reducible repeat (first | refine blk_drewN ?_ _ | refine blk_drew ?_ | refine blk_alloc ?_ _)); exact BK286.out) hb); have n1_ := Aside0.mk (blk_below (g := gb299) (o := .cells #[.int .i64 t291, .int .i64 t292, .int .i64 t293, .int .i64 t294, .int .u32 t295, .int .u32 t296, .int .i64 t297] 27 (0, 0)) (by (with_reducible repeat (first | refine blk_drewN ?_ _ | refine blk_drew ?_ | refine blk_alloc ?_ _)); refine blk_put (cs := #[.int .i64 t291, .int .i64 t292, .int .i64 t293, .int .i64 t294, .int .u32 t295, .int .u32 t296, .int .i64 0]) ?_ 6 _ rfl; (with_reducible repeat (first | refine blk_drewN ?_ _ | refine blk_drew ?_ | refine blk_alloc ?_ _)); refine blk_put (cs := #[.int .i64 t291, .int .i64 t292, .int .i64 t293, .int .i64 t294, .int .u32 t295, .int .u32 0, .int .i64 0]) ?_ 5 _ rfl; (with_reducible repeat (first | refine blk_drewN ?_ _ | refine blk_drew ?_ | refine blk_alloc ?_ _)); refine blk_put (cs := #[.int .i64 t291, .int .i64 t292, .int .i64 t293, .int .i64 t294, .int .u32 0, .int .u32 0, .int .i64 0]) ?_ 4 _ rfl; (with_reducible repeat (first | refine blk_drewN ?_ _ | refine blk_drew ?_ | refine blk_alloc ?_ _)); refine blk_put (cs := #[.int .i64 t291, .int .i64 t292, .int .i64 t293, .int .i64 0, .int .u32 0, .int .u32 0, .int .i64 0]) ?_ 3 _ rfl; (with_reducible repeat (first | refine blk_drewN ?_ _ | refine blk_drew ?_ | refine blk_alloc ?_ _)); refine blk_put (cs := #[.int .i64 t291, .int .i64 t292, .int .i64 0, .int .i64 0, .int .u32 0, .int .u32 0, .int .i64 0]) ?_ 2 _ rfl; (with_reducible repeat (first | refine blk_drewN ?_ _ | refine blk_drew ?_ | refine blk_alloc ?_ _)); refine blk_put (cs := #[.int .i64 t291, .int .i64 0, .int .i64 0, .int .i64 0, .int .u32 0, .int .u32 0, .int .i64 0]) ?_ 1 _ rfl; (with_reducible repeat (first | refine blk_drewN ?_ _ | refine blk_drew ?_ | refine blk_alloc ?_ _)); refine blk_put (cs := #[.int .i64 0, .int .i64 0, .int .i64 0, .int .i64 0, .int .u32 0, .int .u32 0, .int .i64 0]) ?_ 0 _ rfl; (with_reducible repeat (first | refine blk_drewN ?_ _ | refine blk_drew ?_ | refine blk_alloc ?_ _)); exact BK299.out) hb); have n2_ := Aside0.mk (below_step (by repeat first|(with_reducible first|exact HB.out|apply ba|apply bd|apply b1|refine bs ?_ GE286.out|refine bs ?_ GE299.out)|exact HB.out) hb); clear BK286; clear BK299; clear HB; have BK286 := n0_; have BK299 := n1_; have HB := n2_; clear n0_ n1_ n2_; (try clear hb); (try clear hb2); (try clear hk); (try clear hi)) | ((with_reducible refine gate_dst (N := 8) rfl ?_); refine box_event ?hg (N := 8) ?hd (cs := #[.int .i64 0, .int .i64 0, .int .i64 0, .int .i64 0, .int .u32 0, .int .u32 0, .int .i64 0]) (t := 27) ?hr ?_; (case hd => rfl); (case hg => rfl); (case hr => first | (go_simp; done) | (go_simp; rfl)); intro gb308 hg w29 hbox hb; have n0_ := Aside0.mk (blk_below (g := gb286) (o := .cells #[.int .i64 a0_0, .int .i64 a0_1, .int .i64 a0_2, .int .i64 a0_3, .int .u32 a0_4, .int .u32 a0_5, .int .i64 a0_6] 27 (0, 0)) (gK BK286.out) hb); have n1_ := Aside0.mk (blk_below (g := gb299) (o := .cells #[.int .i64 t291, .int .i64 t292, .int .i64 t293, .int .i64 t294, .int .u32 t295, .int .u32 t296, .int .i64 t297] 27 (0, 0)) (gK BK299.out) hb); have n2_ := Aside0.mk (below_step (by repeat first|(with_reducible first|exact HB.out|apply ba|apply bd|apply b1|refine bs ?_ GE286.out|refine bs ?_ GE299.out)|exact HB.out) hb); have n3_ := Aside0.mk (hbox); have n4_ := Aside0.mk ((by rw [hg]; exact (below_size (by repeat first|(with_reducible first|exact HB.out|apply ba|apply bd|apply b1|refine bs ?_ GE286.out|refine bs ?_ GE299.out)|exact HB.out)) : w.heap.size ≤ gb308)); have n5_ := Aside0.mk ((by rw [hg]; exact (below_size (by repeat first|(with_reducible first|exact HB.out|apply ba|apply bd|apply b1|refine bs ?_ GE286.out|refine bs ?_ GE299.out)|exact HB.out)) : w.heap.size ≤ gb308)); have n6_ := Aside0.mk ((by rw [hg]; exact Nat.ne_of_lt (blk_lt (g := gb286) (o := .cells #[.int .i64 a0_0, .int .i64 a0_1, .int .i64 a0_2, .int .i64 a0_3, .int .u32 a0_4, .int .u32 a0_5, .int .i64 a0_6] 27 (0, 0)) (gK BK286.out)) : gb286 ≠ gb308)); have n7_ := Aside0.mk ((by rw [hg]; exact Nat.ne_of_gt (blk_lt (g := gb286) (o := .cells #[.int .i64 a0_0, .int .i64 a0_1, .int .i64 a0_2, .int .i64 a0_3, .int .u32 a0_4, .int .u32 a0_5, .int .i64 a0_6] 27 (0, 0)) (gK BK286.out)) : gb308 ≠ gb286)); have n8_ := Aside0.mk ((by rw [hg]; exact Nat.ne_of_lt (blk_lt (g := gb299) (o := .cells #[.int .i64 t291, .int .i64 t292, .int .i64 t293, .int .i64 t294, .int .u32 t295, .int .u32 t296, .int .i64 t297] 27 (0, 0)) (gK BK299.out)) : gb299 ≠ gb308)); have n9_ := Aside0.mk ((by rw [hg]; exact Nat.ne_of_gt (blk_lt (g := gb299) (o := .cells #[.int .i64 t291, .int .i64 t292, .int .i64 t293, .int .i64 t294, .int .u32 t295, .int .u32 t296, .int .i64 t297] 27 (0, 0)) (gK BK299.out)) : gb308 ≠ gb299)); clear BK286; clear BK299; clear HB; have BK286 := n0_; have BK299 := n1_; have HB := n2_; have BK308 := n3_; have GW308 := n4_; have GE308 := n5_; have NB286_308 := n6_; have NB308_286 := n7_; have NB299_308 := n8_; have NB308_299 := n9_; clear n0_ n1_ n2_ n3_ n4_ n5_ n6_ n7_ n8_ n9_; clear hb hbox hg; have hnb30 := NB308_286.out; have hnc30 := NB286_308.out; have hnb31 := NB308_299.out; have hnc31 := NB299_308.out; have hcz32_0 : w29.cell? ⟨gb308, 0, none⟩ = some (.int .i64 0) := (blk_cell BK308.out 0).trans rfl; have hcz32_1 : w29.cell? ⟨gb308, 1, none⟩ = some (.int .i64 0) := (blk_cell BK308.out 1).trans rfl; have hcz32_2 : w29.cell? ⟨gb308, 2, none⟩ = some (.int .i64 0) := (blk_cell BK308.out 2).trans rfl; have hcz32_3 : w29.cell? ⟨gb308, 3, none⟩ = some (.int .i64 0) := (blk_cell BK308.out 3).trans rfl; have hcz32_4 : w29.cell? ⟨gb308, 4, none⟩ = some (.int .u32 0) := (blk_cell BK308.out 4).trans rfl; have hcz32_5 : w29.cell? ⟨gb308, 5, none⟩ = some (.int .u32 0) := (blk_cell BK308.out 5).trans rfl; have hcz32_6 : w29.cell? ⟨gb308, 6, none⟩ = some (.int .i64 0) := (blk_cell BK308.out 6).trans rfl; have hfz32_0 := blk_frozen BK308.out 0; have hfz32_1 := blk_frozen BK308.out 1; have hfz32_2 := blk_frozen BK308.out 2; have hfz32_3 := blk_frozen BK308.out 3; have hfz32_4 := blk_frozen BK308.out 4; have hfz32_5 := blk_frozen BK308.out 5; have hfz32_6 := blk_frozen BK308.out 6) | ((with_reducible refine gate_callee (f := 13) rfl ?_); refine goesL_ (some 34) rfl rfl Tryz.func13 (by kernel_rfl) rfl #[] rfl (by (try simp only [mA_, mC_, mN_]); first|done|rfl|(simp only [lD_, lT_]; rfl)) ?_; (with_reducible refine (waystonelaw07_alive.calls kj3  true _ ?side1 A21.out).mono ?_); (case side1 => exact HLd.below (by repeat first|(with_reducible first|exact HB.out|apply ba|apply bd|apply b1|refine bs ?_ GE286.out|refine bs ?_ GE299.out|refine bs ?_ GE308.out)|exact HB.out)); rintro e w33 ⟨rfl, hb⟩; refine ⟨_, rfl, ?_⟩; have n0_ := Aside0.mk (blk_below (g := gb286) (o := .cells #[.int .i64 a0_0, .int .i64 a0_1, .int .i64 a0_2, .int .i64 a0_3, .int .u32 a0_4, .int .u32 a0_5, .int .i64 a0_6] 27 (0, 0)) (by (with_reducible repeat (first | refine blk_drewN ?_ _ | refine blk_drew ?_ | refine blk_alloc ?_ _)); refine blk_far ?_ NB286_308.out _; (with_reducible repeat (first | refine blk_drewN ?_ _ | refine blk_drew ?_ | refine blk_alloc ?_ _)); refine blk_far ?_ NB286_308.out _; (with_reducible repeat (first | refine blk_drewN ?_ _ | refine blk_drew ?_ | refine blk_alloc ?_ _)); refine blk_far ?_ NB286_308.out _; (with_reducible repeat (first | refine blk_drewN ?_ _ | refine blk_drew ?_ | refine blk_alloc ?_ _)); refine blk_far ?_ NB286_308.out _; (with_reducible repeat (first | refine blk_drewN ?_ _ | refine blk_drew ?_ | refine blk_alloc ?_ _)); refine blk_far ?_ NB286_308.out _; (with_reducible repeat (first | refine blk_drewN ?_ _ | refine blk_drew ?_ | refine blk_alloc ?_ _)); refine blk_far ?_ NB286_308.out _; (with_reducible repeat (first | refine blk_drewN ?_ _ | refine blk_drew ?_ | refine blk_alloc ?_ _)); refine blk_far ?_ NB286_308.out _; (with_reducible repeat (first | refine blk_drewN ?_ _ | refine blk_drew ?_ | refine blk_alloc ?_ _)); exact BK286.out) hb); have n1_ := Aside0.mk (blk_below (g := gb299) (o := .cells #[.int .i64 t291, .int .i64 t292, .int .i64 t293, .int .i64 t294, .int .u32 t295, .int .u32 t296, .int .i64 t297] 27 (0, 0)) (by (with_reducible repeat (first | refine blk_drewN ?_ _ | refine blk_drew ?_ | refine blk_alloc ?_ _)); refine blk_far ?_ NB299_308.out _; (with_reducible repeat (first | refine blk_drewN ?_ _ | refine blk_drew ?_ | refine blk_alloc ?_ _)); refine blk_far ?_ NB299_308.out _; (with_reducible repeat (first | refine blk_drewN ?_ _ | refine blk_drew ?_ | refine blk_alloc ?_ _)); refine blk_far ?_ NB299_308.out _; (with_reducible repeat (first | refine blk_drewN ?_ _ | refine blk_drew ?_ | refine blk_alloc ?_ _)); refine blk_far ?_ NB299_308.out _; (with_reducible repeat (first | refine blk_drewN ?_ _ | refine blk_drew ?_ | refine blk_alloc ?_ _)); refine blk_far ?_ NB299_308.out _; (with_reducible repeat (first | refine blk_drewN ?_ _ | refine blk_drew ?_ | refine blk_alloc ?_ _)); refine blk_far ?_ NB299_308.out _; (with_reducible repeat (first | refine blk_drewN ?_ _ | refine blk_drew ?_ | refine blk_alloc ?_ _)); refine blk_far ?_ NB299_308.out _; (with_reducible repeat (first | refine blk_drewN ?_ _ | refine blk_drew ?_ | refine blk_alloc ?_ _)); exact BK299.out) hb); have n2_ := Aside0.mk (blk_below (g := gb308) (o := .cells #[.int .i64 t300, .int .i64 t301, .int .i64 t302, .int .i64 t303, .int .u32 t304, .int .u32 t305, .int .i64 t306] 27 (0, 0)) (by (with_reducible repeat (first | refine blk_drewN ?_ _ | refine blk_drew ?_ | refine blk_alloc ?_ _)); refine blk_put (cs := #[.int .i64 t300, .int .i64 t301, .int .i64 t302, .int .i64 t303, .int .u32 t304, .int .u32 t305, .int .i64 0]) ?_ 6 _ rfl; (with_reducible repeat (first | refine blk_drewN ?_ _ | refine blk_drew ?_ | refine blk_alloc ?_ _)); refine blk_put (cs := #[.int .i64 t300, .int .i64 t301, .int .i64 t302, .int .i64 t303, .int .u32 t304, .int .u32 0, .int .i64 0]) ?_ 5 _ rfl; (with_reducible repeat (first | refine blk_drewN ?_ _ | refine blk_drew ?_ | refine blk_alloc ?_ _)); refine blk_put (cs := #[.int .i64 t300, .int .i64 t301, .int .i64 t302, .int .i64 t303, .int .u32 0, .int .u32 0, .int .i64 0]) ?_ 4 _ rfl; (with_reducible repeat (first | refine blk_drewN ?_ _ | refine blk_drew ?_ | refine blk_alloc ?_ _)); refine blk_put (cs := #[.int .i64 t300, .int .i64 t301, .int .i64 t302, .int .i64 0, .int .u32 0, .int .u32 0, .int .i64 0]) ?_ 3 _ rfl; (with_reducible repeat (first | refine blk_drewN ?_ _ | refine blk_drew ?_ | refine blk_alloc ?_ _)); refine blk_put (cs := #[.int .i64 t300, .int .i64 t301, .int .i64 0, .int .i64 0, .int .u32 0, .int .u32 0, .int .i64 0]) ?_ 2 _ rfl; (with_reducible repeat (first | refine blk_drewN ?_ _ | refine blk_drew ?_ | refine blk_alloc ?_ _)); refine blk_put (cs := #[.int .i64 t300, .int .i64 0, .int .i64 0, .int .i64 0, .int .u32 0, .int .u32 0, .int .i64 0]) ?_ 1 _ rfl; (with_reducible repeat (first | refine blk_drewN ?_ _ | refine blk_drew ?_ | refine blk_alloc ?_ _)); refine blk_put (cs := #[.int .i64 0, .int .i64 0, .int .i64 0, .int .i64 0, .int .u32 0, .int .u32 0, .int .i64 0]) ?_ 0 _ rfl; (with_reducible repeat (first | refine blk_drewN ?_ _ | refine blk_drew ?_ | refine blk_alloc ?_ _)); exact BK308.out) hb); have n3_ := Aside0.mk (below_step (by repeat first|(with_reducible first|exact HB.out|apply ba|apply bd|apply b1|refine bs ?_ GE286.out|refine bs ?_ GE299.out|refine bs ?_ GE308.out)|exact HB.out) hb); clear BK286; clear BK299; clear BK308; clear HB; have BK286 := n0_; have BK299 := n1_; have BK308 := n2_; have HB := n3_; clear n0_ n1_ n2_ n3_; (try clear hb); (try clear hb2); (try clear hk); (try clear hi); have hcz34_0 : w33.cell? ⟨gb299, 0, none⟩ = some (.int .i64 t291) := (blk_cell BK299.out 0).trans rfl; have hcz34_1 : w33.cell? ⟨gb299, 1, none⟩ = some (.int .i64 t292) := (blk_cell BK299.out 1).trans rfl; have hcz34_2 : w33.cell? ⟨gb299, 2, none⟩ = some (.int .i64 t293) := (blk_cell BK299.out 2).trans rfl; have hcz34_3 : w33.cell? ⟨gb299, 3, none⟩ = some (.int .i64 t294) := (blk_cell BK299.out 3).trans rfl; have hcz34_4 : w33.cell? ⟨gb299, 4, none⟩ = some (.int .u32 t295) := (blk_cell BK299.out 4).trans rfl; have hcz34_5 : w33.cell? ⟨gb299, 5, none⟩ = some (.int .u32 t296) := (blk_cell BK299.out 5).trans rfl; have hcz34_6 : w33.cell? ⟨gb299, 6, none⟩ = some (.int .i64 t297) := (blk_cell BK299.out 6).trans rfl; have hfz34_0 := blk_frozen BK299.out 0; have hfz34_1 := blk_frozen BK299.out 1; have hfz34_2 := blk_frozen BK299.out 2; have hfz34_3 := blk_frozen BK299.out 3; have hfz34_4 := blk_frozen BK299.out 4; have hfz34_5 := blk_frozen BK299.out 5; have hfz34_6 := blk_frozen BK299.out 6; have hcz35_0 : w33.cell? ⟨gb308, 0, none⟩ = some (.int .i64 t300) := (blk_cell BK308.out 0).trans rfl; have hcz35_1 : w33.cell? ⟨gb308, 1, none⟩ = some (.int .i64 t301) := (blk_cell BK308.out 1).trans rfl; have hcz35_2 : w33.cell? ⟨gb308, 2, none⟩ = some (.int .i64 t302) := (blk_cell BK308.out 2).trans rfl; have hcz35_3 : w33.cell? ⟨gb308, 3, none⟩ = some (.int .i64 t303) := (blk_cell BK308.out 3).trans rfl; have hcz35_4 : w33.cell? ⟨gb308, 4, none⟩ = some (.int .u32 t304) := (blk_cell BK308.out 4).trans rfl; have hcz35_5 : w33.cell? ⟨gb308, 5, none⟩ = some (.int .u32 t305) := (blk_cell BK308.out 5).trans rfl; have hcz35_6 : w33.cell? ⟨gb308, 6, none⟩ = some (.int .i64 t306) := (blk_cell BK308.out 6).trans rfl; have hfz35_0 := blk_frozen BK308.out 0; have hfz35_1 := blk_frozen BK308.out 1; have hfz35_2 := blk_frozen BK308.out 2; have hfz35_3 := blk_frozen BK308.out 3; have hfz35_4 := blk_frozen BK308.out 4; have hfz35_5 := blk_frozen BK308.out 5; have hfz35_6 := blk_frozen BK308.out 6))
       go_ret
       exact ⟨by first | rfl | (simp [errW_none, errW_some] <;> rfl) | (simp [*, errW_none, errW_some] <;> rfl), by repeat first|(with_reducible first|exact HB.out|apply ba|apply bd|apply b1|refine bs ?_ GE286.out|refine bs ?_ GE299.out|refine bs ?_ GE308.out)|exact HB.out⟩
      ·rw [if_neg c23] at H
       exact absurd H (by simp)
     ·replace c22 := Bool.eq_false_iff.mpr c22
      subst c22
      rw [if_neg (show ¬ (false = true) by decide)] at H
      exact absurd H (by simp)
end Go.Proofs.YtfjamikpahmfhaaGreatDoor.P
end
section
set_option linter.unusedSimpArgs false
set_option linter.unusedVariables false
namespace Go.Proofs.YtfjamikpahmfhaaGreatDoor.P
open Go.RowKit Go.Proofs.YtfjamikpahmfhaaGreatDoor.T Go.Proofs.YtfjamikpahmfhaaGreatDoorW.PrintWords Go.Proofs.YtfjamikpahmfhaaGreatDoorW.PrintLast Go.Proofs.YtfjamikpahmfhaaGreatDoorW.PrintMore
theorem or_u32 (x y : Int) : 0 ≤ Go.bits .or .u32 x y ∧ Go.bits .or .u32 x y ≤ 4294967295 := bounds_u32 (wf_bits .or .u32 x y)
theorem number_in (s : ByteArray) (m v : Int) (h : prefix_number.f s m = some (v, true)) : 0 ≤ v ∧ v ≤ m := by
  unfold prefix_number.f at h
  split at h
  · have h2 := Option.some.inj h
    obtain ⟨rfl, h3⟩ := Prod.mk.inj h2
    simp only [Bool.and_eq_true, decide_eq_true_eq] at h3
    exact ⟨h3.2.1, h3.2.2.1⟩
  · cases h
theorem parse_loop_in (l : List ByteArray) (hl : l.length = 4) (hs : ∀ p ∈ l, p.size ≤ 281474976710656) :
    ∀ (d k i : Nat) (x : Int), 4 - i = d → i ≤ 4 → d < k → 0 ≤ x ∧ x ≤ 4294967295 → ∃ a e, prefix_ParseAddr.l0 k x l 4 (i : Int) = some (a, e) ∧ 0 ≤ a ∧ a ≤ 4294967295 := by
  intro d
  induction d with
  | zero =>
    intro k i x h1 h2 h3 hx
    obtain ⟨k, rfl⟩ : ∃ m, k = m + 1 := ⟨k - 1, by omega⟩
    rw [prefix_ParseAddr.l0, if_neg (by omega)]
    exact ⟨_, _, rfl, hx⟩
  | succ d ih =>
    intro k i x h1 h2 h3 hx
    obtain ⟨k, rfl⟩ : ∃ m, k = m + 1 := ⟨k - 1, by omega⟩
    rw [prefix_ParseAddr.l0, if_pos (by omega), if_pos (by omega), if_pos (by omega)]
    have hm : rdOf ByteArray.empty l (i : Int) ∈ l := by
      unfold rdOf
      rw [Int.toNat_natCast, List.getD_eq_getElem?_getD, List.getElem?_eq_getElem (by omega)]
      exact List.getElem_mem _
    obtain ⟨v, b, hv⟩ := number_total _ 255 (hs _ hm)
    have hn := ih k (i + 1) (Go.bits .or .u32 ((x * 256) % 4294967296) (v % 4294967296)) (by omega) (by omega) (by omega) (or_u32 _ _)
    rw [hv]
    simp only [Option.bind_some]
    split
    · rw [wrap_succ i (by omega)]
      exact hn
    · exact ⟨_, _, rfl, by decide, by decide⟩
theorem parseAddr_in (s : ByteArray) (hs : s.size < 4294967281) (k : Nat) (hk : 5 ≤ k) : ∃ a e, prefix_ParseAddr.f k s = some (a, e) ∧ 0 ≤ a ∧ a ≤ 4294967295 := by
  unfold prefix_ParseAddr.f
  rw [split_f 46 s hs]
  simp only [Option.bind_some]
  split
  · rename_i h
    have h4 : (fieldsB 46 s).length = 4 := by omega
    rw [h]
    exact parse_loop_in _ h4 (fun p hp => by have := fieldsB_le 46 s p hp; omega) 4 k 0 0 rfl (by omega) (by omega) ⟨by decide, by decide⟩
  · exact ⟨_, _, rfl, by decide, by decide⟩
theorem cut_sizes (c : UInt8) (l : List UInt8) : (Lib.cut l [c]).1.length ≤ l.length ∧ (Lib.cut l [c]).2.1.length ≤ l.length := by
  unfold Lib.cut
  split
  · simp
    omega
  · simp
theorem progParse (s : ByteArray) (hs : s.size ≤ 100) (k : Nat) (hk : 5 ≤ k) : ∃ a n e : Int, prefix_Parse.f k s = some (a, n, e) ∧ (0 ≤ a ∧ a ≤ 4294967295) ∧ (e = 0 → 0 ≤ n ∧ n ≤ 32) := by
  unfold prefix_Parse.f
  rw [cut_f 47 s (by omega)]
  simp only [Option.bind_some]
  have hc := cut_sizes 47 s.data.toList
  rw [dlen] at hc
  obtain ⟨a, e, h1, h2⟩ := parseAddr_in ⟨(Lib.cut s.data.toList [47]).1.toArray⟩ (by show (Lib.cut s.data.toList [47]).1.toArray.size < _; rw [List.size_toArray]; omega) k hk
  obtain ⟨v, b, hv⟩ := number_total ⟨(Lib.cut s.data.toList [47]).2.1.toArray⟩ 32 (by show (Lib.cut s.data.toList [47]).2.1.toArray.size ≤ _; rw [List.size_toArray]; omega)
  rw [h1]
  simp only [Option.bind_some]
  rw [hv]
  simp only [Option.bind_some]
  split
  · split
    · cases b
      · exact ⟨0, 0, 21, rfl, by decide, fun h => (by cases h)⟩
      · have hb := number_in _ _ _ hv
        rw [if_pos rfl]
        obtain ⟨x, rfl⟩ := Int.eq_ofNat_of_zero_le h2.1
        obtain ⟨m, rfl⟩ := Int.eq_ofNat_of_zero_le hb.1
        rw [right_f x m (by omega) (by omega)]
        simp only [Option.bind_some]
        split
        · exact ⟨_, _, _, rfl, h2, fun _ => hb⟩
        · exact ⟨0, 0, 21, rfl, by decide, fun h => (by cases h)⟩
    · exact ⟨0, 0, 21, rfl, by decide, fun h => (by cases h)⟩
  · exact ⟨0, 0, 21, rfl, by decide, fun h => (by cases h)⟩
theorem progRange (s : ByteArray) (hs : s.size ≤ 100) (k : Nat) (hk : 5 ≤ k) : ∃ a b e : Int, prefix_ParseRange.f k s = some (a, b, e) ∧ (0 ≤ a ∧ a ≤ 4294967295) ∧ (0 ≤ b ∧ b ≤ 4294967295) := by
  unfold prefix_ParseRange.f
  obtain ⟨a, n, e, h1, h2, h3⟩ := progParse s hs k hk
  rw [h1]
  simp only [Option.bind_some]
  by_cases h0 : e = 0
  · rw [if_pos h0]
    have hb := h3 h0
    obtain ⟨x, rfl⟩ := Int.eq_ofNat_of_zero_le h2.1
    obtain ⟨m, rfl⟩ := Int.eq_ofNat_of_zero_le hb.1
    unfold prefix_Range.f
    rw [right_f x m (by omega) (by omega)]
    simp only [Option.bind_some]
    split
    · rw [mask_f m (by omega)]
      simp only [Option.bind_some]
      exact ⟨_, _, _, rfl, h2, or_u32 _ _⟩
    · simp only [Option.bind_some]
      exact ⟨0, 0, 21, rfl, by decide, by decide⟩
  · rw [if_neg h0, cut_f 45 s (by omega)]
    simp only [Option.bind_some]
    have hc := cut_sizes 45 s.data.toList
    rw [dlen] at hc
    obtain ⟨a1, e1, q1, q2⟩ := parseAddr_in ⟨(Lib.cut s.data.toList [45]).1.toArray⟩ (by show (Lib.cut s.data.toList [45]).1.toArray.size < _; rw [List.size_toArray]; omega) k hk
    obtain ⟨a2, e2, r1, r2⟩ := parseAddr_in ⟨(Lib.cut s.data.toList [45]).2.1.toArray⟩ (by show (Lib.cut s.data.toList [45]).2.1.toArray.size < _; rw [List.size_toArray]; omega) k hk
    rw [q1]
    simp only [Option.bind_some]
    rw [r1]
    simp only [Option.bind_some]
    split
    · split
      · split
        · split
          · exact ⟨0, 0, 21, rfl, by decide, by decide⟩
          · exact ⟨_, _, _, rfl, q2, r2⟩
        · exact ⟨0, 0, 21, rfl, by decide, by decide⟩
      · exact ⟨0, 0, 21, rfl, by decide, by decide⟩
    · exact ⟨0, 0, 21, rfl, by decide, by decide⟩
theorem index_total (w : ByteArray) : ∃ kx, slices_Index_string_string.f 5 [wForward, wDrop, wPermit, wDeny] w = some kx := by
  have r0 : rdOf ByteArray.empty [wForward, wDrop, wPermit, wDeny] 0 = wForward := rfl
  have r1 : rdOf ByteArray.empty [wForward, wDrop, wPermit, wDeny] 1 = wDrop := rfl
  have r2 : rdOf ByteArray.empty [wForward, wDrop, wPermit, wDeny] 2 = wPermit := rfl
  have r3 : rdOf ByteArray.empty [wForward, wDrop, wPermit, wDeny] 3 = wDeny := rfl
  have w0 : wrap64 (0 + 1) = 1 := by kernel_rfl
  have w1 : wrap64 (1 + 1) = 2 := by kernel_rfl
  have w2 : wrap64 (2 + 1) = 3 := by kernel_rfl
  have w3 : wrap64 (3 + 1) = 4 := by kernel_rfl
  have hl : (([wForward, wDrop, wPermit, wDeny] : List ByteArray).length : Int) = 4 := rfl
  unfold slices_Index_string_string.f
  simp only [slices_Index_string_string.l0, hl, r0, r1, r2, r3, w0, w1, w2, w3]
  simp only [show (0 : Int) < 4 from by decide, show (1 : Int) < 4 from by decide, show (2 : Int) < 4 from by decide, show (3 : Int) < 4 from by decide, show ¬ (4 : Int) < 4 from by decide, show (0 : Int) ≤ 0 from by decide, show (0 : Int) ≤ 1 from by decide, show (0 : Int) ≤ 2 from by decide, show (0 : Int) ≤ 3 from by decide, if_true, if_false]
  repeat (first | exact ⟨_, rfl⟩ | split)
theorem number_all (s : ByteArray) (hs : s.size ≤ 100) : ∃ v, rule_number.f s = some v := by
  unfold rule_number.f
  rw [if_pos (by omega)]
  exact ⟨_, rfl⟩
theorem parseEnd_is (s : ByteArray) (n0 n1 n2 kx : Int) (x : Int × Int × Int) (n5 : Int) (ha : 0 ≤ x.1 ∧ x.1 ≤ 4294967295) (hb : 0 ≤ x.2.1 ∧ x.2.1 ≤ 4294967295) :
    ∃ r, parseEnd s n0 n1 n2 kx x n5 = some r ∧ (r = pErr ∨ ∃ y : Rl, okRule y ∧ rightB y = true ∧ textT y = s ∧ r = okP y) := by
  unfold parseEnd
  obtain ⟨y, hy⟩ : ∃ y : Rl, y = ⟨n0, n1, n2, kx, ⟨x.1, x.2.1⟩, n5⟩ := ⟨_, rfl⟩
  have hR := rightRule_f y
  have e0 : y.f0 = n0 := by rw [hy]
  have e1 : y.f1 = n1 := by rw [hy]
  have e2 : y.f2 = n2 := by rw [hy]
  have e3 : y.f3 = kx := by rw [hy]
  have e4 : y.f4.f0 = x.1 := by rw [hy]
  have e5 : y.f4.f1 = x.2.1 := by rw [hy]
  have e6 : y.f5 = n5 := by rw [hy]
  have ho : okRule y := by unfold okRule; rw [e4, e5]; exact ⟨ha, hb⟩
  split
  · rw [← e0, ← e1, ← e2, ← e3, ← e4, ← e5, ← e6, hR]
    simp only [Option.bind_some]
    cases hr : rightB y
    · exact ⟨pErr, rfl, .inl rfl⟩
    · rw [if_pos rfl]
      obtain ⟨t, _, _, hT⟩ := ruleText_f y ho hr
      rw [hT]
      simp only [Option.bind_some]
      split
      · rename_i he
        have he2 : textT y = s := by
          have h9 : (textT y).data.toList = s.data.toList := by
            have := beq_iff_eq.1 he
            rwa [byte_toList, byte_toList] at this
          rw [← bytes_mk (textT y) _ rfl, h9]
        exact ⟨_, rfl, .inr ⟨y, ho, hr, he2, rfl⟩⟩
      · exact ⟨pErr, rfl, .inl rfl⟩
  · exact ⟨pErr, rfl, .inl rfl⟩
theorem prog_parsed (s : ByteArray) (hs : s.size ≤ 80) : ∃ r, rule_Parse.f s = some r ∧ Parsed s r := by
  have key : ∃ r, rule_Parse.f s = some r ∧ (r = pErr ∨ ∃ x : Rl, okRule x ∧ rightB x = true ∧ textT x = s ∧ r = okP x) := by
    unfold rule_Parse.f
    rw [split_f 32 s (by omega)]
    simp only [Option.bind_some]
    have hsz : ∀ p ∈ fieldsB 32 s, p.size ≤ 100 := fun p hp => Nat.le_trans (fieldsB_le 32 s p hp) (by omega)
    generalize fieldsB 32 s = ws at *
    match ws, hsz with
    | [w0, w1, w2, w3, w4], hsz =>
      obtain ⟨kx, h3⟩ := index_total w3
      obtain ⟨a, b, e, h4, ha, hb⟩ := progRange w4 (hsz _ (by simp)) 7 (by decide)
      obtain ⟨v0, h0⟩ := number_all w0 (hsz _ (by simp))
      obtain ⟨v1, h1⟩ := number_all w1 (hsz _ (by simp))
      obtain ⟨v2, h2⟩ := number_all w2 (hsz _ (by simp))
      simp only [h0, h1, h2, h3, h4, Option.bind_some]
      exact parseEnd_is s v0 v1 v2 kx (a, b, e) 0 ha hb
    | [w0, w1, w2, w3, w4, w5], hsz =>
      obtain ⟨kx, h3⟩ := index_total w3
      obtain ⟨a, b, e, h4, ha, hb⟩ := progRange w4 (hsz _ (by simp)) 7 (by decide)
      obtain ⟨v0, h0⟩ := number_all w0 (hsz _ (by simp))
      obtain ⟨v1, h1⟩ := number_all w1 (hsz _ (by simp))
      obtain ⟨v2, h2⟩ := number_all w2 (hsz _ (by simp))
      obtain ⟨v5, h5⟩ := number_all w5 (hsz _ (by simp))
      simp only [h0, h1, h2, h3, h4, h5, Option.bind_some]
      exact parseEnd_is s v0 v1 v2 kx (a, b, e) v5 ha hb
    | [], _ => exact ⟨pErr, rfl, .inl rfl⟩
    | [_], _ => exact ⟨pErr, rfl, .inl rfl⟩
    | [_, _], _ => exact ⟨pErr, rfl, .inl rfl⟩
    | [_, _, _], _ => exact ⟨pErr, rfl, .inl rfl⟩
    | [_, _, _, _], _ => exact ⟨pErr, rfl, .inl rfl⟩
    | _ :: _ :: _ :: _ :: _ :: _ :: _ :: r, _ =>
      refine ⟨pErr, ?_, .inl rfl⟩
      simp only [List.length_cons]
      rw [if_neg (by omega)]
  obtain ⟨r, hr, h⟩ := key
  refine ⟨r, hr, h, fun x ho hx ht => ?_⟩
  have := parse_text_rule x ho hx
  rw [ht, hr] at this
  exact Option.some.inj this
theorem refEnd_is (s : ByteArray) (k : Nat) (hk : 30 ≤ k) (y : Rl) (e : Int) (ho : okRule y) (h0 : -9223372036854775808 ≤ y.f0 ∧ y.f0 ≤ 9223372036854775807) :
    ∃ r, waystoneref07_Parse.j2 k s e y.f0 y.f1 y.f2 y.f3 y.f4.f0 y.f4.f1 y.f5 = some r ∧ (r = pErr ∨ ∃ x : Rl, okRule x ∧ rightB x = true ∧ textT x = s ∧ r = okP x) ∧ (e = 0 → rightB y = true → textT y = s → r = okP y) := by
  obtain ⟨k', rfl⟩ : ∃ k', k = k' + 1 := ⟨k - 1, by omega⟩
  simp only [waystoneref07_Parse.j2]
  rw [refRight_f y h0]
  simp only [Option.bind_some]
  by_cases he : e = 0
  · rw [if_pos he]
    cases hr : rightB y
    · exact ⟨pErr, rfl, .inl rfl, fun _ h => (by cases h)⟩
    · rw [if_pos rfl, refText_f y ho hr k' (by omega)]
      simp only [Option.bind_some]
      by_cases ht : (textT y).toList = s.toList
      · rw [if_pos ht]
        have he2 : textT y = s := by
          have h9 : (textT y).data.toList = s.data.toList := by rwa [byte_toList, byte_toList] at ht
          rw [← bytes_mk (textT y) _ rfl, h9]
        exact ⟨_, rfl, .inr ⟨y, ho, hr, he2, rfl⟩, fun _ _ _ => rfl⟩
      · rw [if_neg ht]
        exact ⟨pErr, rfl, .inl rfl, fun _ _ h => absurd (by rw [h]) ht⟩
  · rw [if_neg he]
    exact ⟨pErr, rfl, .inl rfl, fun h => absurd h he⟩
theorem refKinds_is (s : ByteArray) (ws : List ByteArray) (h3 : 3 < ws.length) (k : Nat) (a b c d : Int) : ∃ kd : Int, (∀ x : Int, 0 ≤ x → x ≤ 3 → rdOf ByteArray.empty ws 3 = ruleKind x → kd = x) ∧
    waystoneref07_Parse.l0 (k + 4) s ws 0 a b c 0 0 0 d = waystoneref07_Parse.l0 k s ws 4 a b c kd 0 0 d := by
  have r0 : rdOf ByteArray.empty [wForward, wDrop, wPermit, wDeny] 0 = wForward := rfl
  have r1 : rdOf ByteArray.empty [wForward, wDrop, wPermit, wDeny] 1 = wDrop := rfl
  have r2 : rdOf ByteArray.empty [wForward, wDrop, wPermit, wDeny] 2 = wPermit := rfl
  have r3 : rdOf ByteArray.empty [wForward, wDrop, wPermit, wDeny] 3 = wDeny := rfl
  have w0 : wrap64 (0 + 1) = 1 := by kernel_rfl
  have w1 : wrap64 (1 + 1) = 2 := by kernel_rfl
  have w2 : wrap64 (2 + 1) = 3 := by kernel_rfl
  have w3 : wrap64 (3 + 1) = 4 := by kernel_rfl
  have hl : (([wForward, wDrop, wPermit, wDeny] : List ByteArray).length : Int) = 4 := rfl
  have c3 : (3 : Int) < (ws.length : Int) := by omega
  have step : ∀ (k : Nat) (i kd : Int), 0 ≤ i → i < 4 → waystoneref07_Parse.l0 (k + 1) s ws i a b c kd 0 0 d = waystoneref07_Parse.l0 k s ws (wrap64 (i + 1)) a b c (if (rdOf ByteArray.empty [wForward, wDrop, wPermit, wDeny] i).toList = (rdOf ByteArray.empty ws 3).toList then i else kd) 0 0 d := fun k i kd h0 h4 => by
    conv => lhs; unfold waystoneref07_Parse.l0
    rw [if_pos h4, kinds_f]
    simp only [Option.bind_some]
    rw [if_pos h0, hl, if_pos h4, if_pos c3]
    split <;> rfl
  refine ⟨if (rdOf ByteArray.empty [wForward, wDrop, wPermit, wDeny] 3).toList = (rdOf ByteArray.empty ws 3).toList then 3 else if (rdOf ByteArray.empty [wForward, wDrop, wPermit, wDeny] 2).toList = (rdOf ByteArray.empty ws 3).toList then 2 else if (rdOf ByteArray.empty [wForward, wDrop, wPermit, wDeny] 1).toList = (rdOf ByteArray.empty ws 3).toList then 1 else if (rdOf ByteArray.empty [wForward, wDrop, wPermit, wDeny] 0).toList = (rdOf ByteArray.empty ws 3).toList then 0 else 0, ?_, ?_⟩
  rotate_left
  · rw [step (k + 3) 0 0 (by decide) (by decide), w0, step (k + 2) 1 _ (by decide) (by decide), w1, step (k + 1) 2 _ (by decide) (by decide), w2, step k 3 _ (by decide) (by decide), w3]
  · intro x x0 x3 hx
    rw [hx, r0, r1, r2, r3]
    obtain rfl | rfl | rfl | rfl : x = 0 ∨ x = 1 ∨ x = 2 ∨ x = 3 := by omega
    all_goals decide +kernel
theorem number_bd (s : ByteArray) (most : Nat) (hs : s.size ≤ 100) (hm : most ≤ 1048576) (k : Nat) (hk : 150 ≤ k) : ∃ v : Int, waystoneref02_Number.f k s (most : Int) = some v ∧ (-9223372036854775808 ≤ v ∧ v ≤ 9223372036854775807) ∧ (∀ c : Int, 0 ≤ c → c ≤ (most : Int) → s = numeral c → v = c) := by
  obtain ⟨v, h1, h2, h3⟩ := number_f s most hs k hk
  refine ⟨v, h1, by omega, fun c c0 c1 hc => ?_⟩
  have := h3 c.toNat (by rw [hc, numeral_data c c0]) (by omega) (by omega)
  omega
theorem words_of (x : Rl) (ho : okRule x) (hr : rightB x = true) : ∃ tr : ByteArray, tr.data.toList = addrText x.f4.f0 ++ 45 :: addrText x.f4.f1 ∧ fieldsB 32 (textT x) = [numeral x.f0, numeral x.f1, numeral x.f2, ruleKind x.f3, tr] ++ (if x.f3 = 0 then [numeral x.f5] else []) := by
  refine ⟨⟨(addrText x.f4.f0 ++ 45 :: addrText x.f4.f1).toArray⟩, by simp, ?_⟩
  rw [textT_fields x ho hr]
  unfold wordsT
  split
  all_goals simp [bytes_mk]
theorem ref_parsed (s : ByteArray) (hs : s.size ≤ 80) (k : Nat) (hk : 400 ≤ k) : ∃ r, waystoneref07_Parse.f k s = some r ∧ Parsed s r := by
  obtain ⟨k', rfl⟩ : ∃ k', k = k' + 8 := ⟨k - 8, by omega⟩
  unfold waystoneref07_Parse.f
  rw [parts07_f s (by omega) _ (by omega)]
  simp only [Option.bind_some]
  have hsz : ∀ p ∈ fieldsB 32 s, p.size ≤ 100 := fun p hp => Nat.le_trans (fieldsB_le 32 s p hp) (by omega)
  have hwl : ∀ x : Rl, okRule x → rightB x = true → textT x = s → ∃ tr : ByteArray, tr.data.toList = addrText x.f4.f0 ++ 45 :: addrText x.f4.f1 ∧ fieldsB 32 s = [numeral x.f0, numeral x.f1, numeral x.f2, ruleKind x.f3, tr] ++ (if x.f3 = 0 then [numeral x.f5] else []) := fun x ho hr ht => by
    rw [← ht]
    exact words_of x ho hr
  generalize fieldsB 32 s = ws at *
  have hbad : (ws.length < 5 ∨ 6 < ws.length) → ∀ x : Rl, okRule x → rightB x = true → textT x = s → False := fun hb x ho hr ht => by
    obtain ⟨tr, _, h⟩ := hwl x ho hr ht
    rw [h] at hb
    split at hb <;> simp at hb
  by_cases h5 : ws.length < 5
  · rw [if_pos (by omega)]
    simp only [waystoneref07_Parse.j0]
    rw [if_pos trivial]
    exact ⟨pErr, rfl, .inl rfl, fun x ho hr ht => (hbad (.inl h5) x ho hr ht).elim⟩
  · rw [if_neg (by omega)]
    by_cases h6 : ws.length > 6
    · rw [decide_eq_true (by omega)]
      simp only [waystoneref07_Parse.j0]
      rw [if_pos trivial]
      exact ⟨pErr, rfl, .inl rfl, fun x ho hr ht => (hbad (.inr h6) x ho hr ht).elim⟩
    · rw [decide_eq_false (by omega)]
      have hget : ∀ (i : Nat), i < ws.length → rdOf ByteArray.empty ws ((i : Nat) : Int) ∈ ws := fun i hi => by
        unfold rdOf
        rw [Int.toNat_natCast, List.getD_eq_getElem?_getD, List.getElem?_eq_getElem hi]
        exact List.getElem_mem _
      obtain ⟨v0, a0, b0, d0⟩ := number_bd (rdOf ByteArray.empty ws 0) 1048576 (hsz _ (hget 0 (by omega))) (by decide) (k' + 7) (by omega)
      obtain ⟨v1, a1, b1, d1⟩ := number_bd (rdOf ByteArray.empty ws 1) 9 (hsz _ (hget 1 (by omega))) (by decide) (k' + 7) (by omega)
      obtain ⟨v2, a2, b2, d2⟩ := number_bd (rdOf ByteArray.empty ws 2) 1024 (hsz _ (hget 2 (by omega))) (by decide) (k' + 7) (by omega)
      obtain ⟨kd, hkd, hkl⟩ := refKinds_is s ws (by omega) (k' + 3) v0 v1 v2 0
      obtain ⟨x, y, e, a4, q1, q2, q3⟩ := parseRange02 (rdOf ByteArray.empty ws 4) (hsz _ (hget 4 (by omega))) (k' + 2) (by omega)
      simp only [waystoneref07_Parse.j0]
      rw [if_neg (by decide), if_pos (by omega), show (1048576 : Int) = ((1048576 : Nat) : Int) from rfl, a0]
      simp only [Option.bind_some]
      rw [if_pos (by omega), show (9 : Int) = ((9 : Nat) : Int) from rfl, a1]
      simp only [Option.bind_some]
      rw [if_pos (by omega), show (1024 : Int) = ((1024 : Nat) : Int) from rfl, a2]
      simp only [Option.bind_some]
      rw [show k' + 7 = k' + 3 + 4 from rfl, hkl]
      simp only [waystoneref07_Parse.l0]
      rw [if_neg (by decide), if_pos (by omega), a4]
      simp only [Option.bind_some]
      by_cases hl6 : ws.length = 6
      · obtain ⟨v5, a5, b5, d5⟩ := number_bd (rdOf ByteArray.empty ws 5) 9 (hsz _ (hget 5 (by omega))) (by decide) (k' + 2) (by omega)
        rw [if_pos (by omega), if_pos (by omega), show (9 : Int) = ((9 : Nat) : Int) from rfl, a5]
        simp only [Option.bind_some]
        obtain ⟨r, h1, h2, h3⟩ := refEnd_is s (k' + 2) (by omega) ⟨v0, v1, v2, kd, ⟨x, y⟩, v5⟩ e ⟨q1, q2⟩ b0
        refine ⟨r, h1, h2, fun z ho hr ht => ?_⟩
        obtain ⟨tr, t1, t2⟩ := hwl z ho hr ht
        have hh := (rightB_iff z).1 hr
        have hz0 : z.f3 = 0 := by
          by_cases hz : z.f3 = 0
          · exact hz
          · rw [if_neg hz] at t2
            rw [t2] at hl6
            simp at hl6
        rw [if_pos hz0] at t2
        subst t2
        have g0 := d0 z.f0 (by omega) (by omega) rfl
        have g1 := d1 z.f1 (by omega) (by omega) rfl
        have g2 := d2 z.f2 (by omega) (by omega) rfl
        have g3 := hkd z.f3 (by omega) (by omega) rfl
        have g5 := d5 z.f5 (by omega) (by omega) rfl
        obtain ⟨g6, g7, g8⟩ := q3 z.f4.f0 z.f4.f1 ho.1 ho.2 (by omega) t1
        subst g0 g1 g2 g3 g5 g6 g7
        exact h3 g8 hr ht
      · rw [if_neg (by omega)]
        obtain ⟨r, h1, h2, h3⟩ := refEnd_is s (k' + 2) (by omega) ⟨v0, v1, v2, kd, ⟨x, y⟩, 0⟩ e ⟨q1, q2⟩ b0
        refine ⟨r, h1, h2, fun z ho hr ht => ?_⟩
        obtain ⟨tr, t1, t2⟩ := hwl z ho hr ht
        have hh := (rightB_iff z).1 hr
        have hz0 : ¬ z.f3 = 0 := by
          intro hz
          rw [if_pos hz] at t2
          rw [t2] at hl6
          simp at hl6
        rw [if_neg hz0] at t2
        subst t2
        have g0 := d0 z.f0 (by omega) (by omega) rfl
        have g1 := d1 z.f1 (by omega) (by omega) rfl
        have g2 := d2 z.f2 (by omega) (by omega) rfl
        have g3 := hkd z.f3 (by omega) (by omega) rfl
        have g5 : (0 : Int) = z.f5 := by omega
        obtain ⟨g6, g7, g8⟩ := q3 z.f4.f0 z.f4.f1 ho.1 ho.2 (by omega) t1
        subst g0 g1 g2 g3 g6 g7
        have hzz : (⟨z.f0, z.f1, z.f2, z.f3, ⟨z.f4.f0, z.f4.f1⟩, 0⟩ : Rl) = z := by rw [g5]
        rw [hzz] at h3
        exact h3 g8 hr ht
theorem ruleTexts_pure (x : Rl) (hx : (-9223372036854775808 ≤ x.f0 ∧ x.f0 ≤ 9223372036854775807) ∧ okRule x) (s : ByteArray) : waystonelaw07_RuleTexts.f 500 x.f0 x.f1 x.f2 x.f3 x.f4.f0 x.f4.f1 x.f5 s = some true := by
  obtain ⟨h0, ho⟩ := hx
  have hj : waystonelaw07_RuleTexts.j0 500 s false = some true := by
    rw [show (500 : Nat) = 499 + 1 from rfl]
    simp only [waystonelaw07_RuleTexts.j0]
    rw [if_neg (by decide)]
    by_cases h80 : (s.size : Int) > 80
    · rw [if_pos h80, alive07_ge 499 (by omega)]
      rfl
    · rw [if_neg h80]
      obtain ⟨r, hr, hP⟩ := prog_parsed s (by omega)
      obtain ⟨r', hr', hP'⟩ := ref_parsed s (by omega) 499 (by omega)
      obtain rfl := hP.one hP'
      rw [hr, hr', alive07_ge 499 (by omega)]
      simp
  unfold waystonelaw07_RuleTexts.f
  rw [refRight_f x h0]
  simp only [Option.bind_some]
  cases hr : rightB x
  · exact hj
  · rw [if_pos rfl]
    obtain ⟨t, _, _, hT⟩ := ruleText_f x ho hr
    rw [hT, refText_f x ho hr 500 (by omega)]
    simp only [Option.bind_some]
    rw [show ((textT x).toList != (textT x).toList) = false by simp]
    exact hj
end Go.Proofs.YtfjamikpahmfhaaGreatDoor.P
end
section
set_option linter.unusedVariables false
namespace Go.Proofs.YtfjamikpahmfhaaGreatDoor.lawRuleTexts
open Go.ChangeShapes Go.WideShapes Go.ChangeAt Go.RowKit
open Go.Proofs.YtfjamikpahmfhaaGreatDoor.P
theorem laidOut : laidOutB Tryz.prog = true := by kernel_rfl
set_option maxRecDepth 100000 in
theorem contract (H : Type) (enc : TypeId × Value → H) (W : World) (base : Nat) (args : Array Value) (ds gs : List (DataW H)) (before : List MemPlace)
    (hval : ∀ (j : Nat) t v, Tryz.f3.params[j]? = some t → args[j]? = some v → Value.okWide Tryz.prog W .any base t v)
    (hW : DataW.Whole enc Tryz.prog Tryz.f3.params.toList Rows.ruleTextsSpec.vars false W args.toList ds gs before) (HLd : Laid W) :
    Calls Tryz.prog 3 args W fun e W' => ∃ v, e = .returned v ∧ Rows.ruleTextsSpec.post enc Tryz.prog Tryz.f3 false true false false W args v W' := by
  have hW' := hW
  obtain ⟨p, q, hA0, hV, rfl, hfz, hnd⟩ := hW
  have hA : DataW.TrodAll enc Tryz.prog W 0 (fun _ => true) true Tryz.f3.params.toList args.toList ds p := hA0
  rw [Tryz.params3] at hA hval
  obtain ⟨v0, vs0, d0, ds0, p0, q0, hargs, rfl, rfl, h0, r0⟩ := trodAll_cons hA
  obtain ⟨v1, vs1, d1, ds1, p1, q1, rfl, rfl, rfl, h1, r1⟩ := trodAll_cons r0
  obtain ⟨rfl, rfl, rfl⟩ := trodAll_nil r1
  obtain rfl : args = #[v0, v1] := by cases args; simp_all
  obtain ⟨rfl, rfl⟩ := trodVars_none hV
  have k0 := h0
  have lt0 : ∀ x ∈ p0, x.block < W.heap.size := by
    obtain ⟨m, hm⟩ := k0
    exact DataW.trod_lt m _ _ _ hm
  have k1 := h1
  have lt1 : ∀ x ∈ p1, x.block < W.heap.size := by
    obtain ⟨m, hm⟩ := k1
    exact DataW.trod_lt m _ _ _ hm
  obtain ⟨x0, rfl, ho0⟩ := open_rule_arg (hval 0 27 v0 rfl rfl) h0
  obtain ⟨s1, rfl, hl1⟩ := open_str (hval 1 9 v1 rfl rfl) h1
  refine (waystonelaw07_RuleTexts.calls 500 x0.f0 x0.f1 x0.f2 x0.f3 x0.f4.f0 x0.f4.f1 x0.f5 s1 true W  HLd (ruleTexts_pure x0 ho0 s1)).mono fun e W' ⟨he, bel⟩ => ?_
  subst he
  exact ⟨_, rfl, _, _, _, [], _, [], hW', trodAll_mk1 (shut_bool Tryz.underlying4 _), (trodAll_cons_mk (Below.trod laidOut (by kernel_rfl) (of_decide_eq_true (by kernel_rfl)) k0 bel lt0) (trodAll_cons_mk (Below.trod laidOut (by kernel_rfl) (of_decide_eq_true (by kernel_rfl)) k1 bel lt1) trodAll_mk0)), rfl, bel.frame _, fun h => by cases h⟩
theorem reads (os : Os) {H : Type} (enc : TypeId × Value → H) : ∃ ds places, DataW.whole enc Tryz.prog ((laidWorld os).forCall (fun _ _ => 0) ⟨#[], #[.agg #[.int .i64 0, .int .i64 0, .int .i64 0, .int .i64 0, .int .u32 0, .int .u32 0, .int .i64 0], .string ⟨#[]⟩], []⟩).memory Tryz.f3.params.toList Rows.ruleTextsSpec.vars false #[Value.agg #[.int .i64 0, .int .i64 0, .int .i64 0, .int .i64 0, .int .u32 0, .int .u32 0, .int .i64 0], .string ⟨#[]⟩].toList 8 = some (ds, [], places) :=
  ⟨[.agg [.lit (.int .i64 0), .lit (.int .i64 0), .lit (.int .i64 0), .lit (.int .i64 0), .agg [.lit (.int .u32 0), .lit (.int .u32 0)], .lit (.int .i64 0)], .lit (.string [])], [], by kernel_rfl⟩
set_option maxRecDepth 100000 in
theorem lifted (os : Os) (started : os.Started) (H : Type) (enc : TypeId × Value → H) (F : Stop.Interp) :
    ReturnsInHanded {} Tryz.checked os 3 .any ((OpenSpec.ofChange Rows.ruleTextsSpec).preRow enc Tryz.prog Tryz.f3 Rows.ruleTextsRow.domain false Rows.ruleTextsRow.laid) (((OpenSpec.ofChange Rows.ruleTextsSpec).at F).post enc Tryz.prog Tryz.f3 false true false false) := by
  obtain ⟨ds, places, hx⟩ := reads os enc
  refine returnsInHanded_of_row (C := Tryz.checked) (s := OpenSpec.ofChange Rows.ruleTextsSpec) own started (by kernel_rfl) Tryz.func3
    (witness_row_atRef (enc := enc) (C := Tryz.checked) false (laidWorld os) #[.agg #[.int .i64 0, .int .i64 0, .int .i64 0, .int .i64 0, .int .u32 0, .int .u32 0, .int .i64 0], .string ⟨#[]⟩] rfl (by kernel_rfl) (by kernel_rfl) (by kernel_rfl)
      (OpenSpec.preRow_of_cond 8 hx (by kernel_rfl) (fun k hk => by cases hk) (by kernel_rfl) (laid_met os _))) ?_
  intro W base args ds gs before hval hW _ _ _ hL hsh _
  exact contract H enc W base args ds gs before hval hW (laid_of hL hsh)
theorem said : Rows.RuleTextsSaid :=
  OpenClaim.holds_of_cond 3 Tryz.f3 rfl rfl rfl rfl rfl rfl rfl ⟨rfl, rfl, rfl, rfl, rfl⟩ rfl rfl rfl rfl rfl (by kernel_rfl) Tryz.func3 (by kernel_rfl)
    (of_decide_eq_true (by kernel_rfl)) (by unfold Func.isWrapper; first | (rw [if_pos (by decide +kernel)]; kernel_rfl) | (rw [if_neg (by decide +kernel)]; exact ⟨rfl, rfl⟩))
    (fun os started H enc _ F => by rw [OpenClaim.pre_eq_preRow]; exact lifted os started H enc F)
theorem plain (f : FuncId) (fn : Func) (hf : Tryz.pinned.checked.prog.funcNamed "waystone/waystonelaw07.RuleTexts" = some f) (hfn : Tryz.pinned.checked.prog.funcs[f]? = some fn) :
    true = Tryz.pinned.checked.prog.looks [] ∧ ∀ (j : Nat) t, fn.params[j]? = some t → Tryz.pinned.checked.prog.wantsStandIn t = false := by
  obtain rfl : f = 3 := Option.some.inj ((show Tryz.prog.funcNamed "waystone/waystonelaw07.RuleTexts" = some 3 by kernel_rfl).symm.trans hf) |>.symm
  obtain rfl : fn = Tryz.f3 := (Option.some.inj (Tryz.func3.symm.trans hfn)).symm
  refine ⟨by kernel_rfl, fun j t ht => ?_⟩
  rw [Tryz.params3] at ht
  have hm := Array.mem_of_getElem? ht
  simp only [List.mem_toArray, List.mem_cons, List.not_mem_nil, or_false] at hm
  rcases hm with rfl | rfl
  · exact (show Tryz.prog.wantsStandIn 27 = false by kernel_rfl)
  · exact (show Tryz.prog.wantsStandIn 9 = false by kernel_rfl)
theorem card : Rows.RuleTextsCardSaid :=
  Claim7.holds_tied_plain_at .later [] _ _ _ _ said (fun _ h => by cases h) (by kernel_rfl) (fun _ h => by cases h) ruleTexts_row_tie rfl ⟨rfl, rfl⟩ (by kernel_rfl) rfl plain (by kernel_rfl)
end Go.Proofs.YtfjamikpahmfhaaGreatDoor.lawRuleTexts
end
