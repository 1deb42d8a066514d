/- Plain law of prefixes' texts: an address, a prefix and a range are parsed from their texts; a prefix's range is split into it alone. -/
import Derived.Test.YtfjamikpahmfhaaGreatDoorXText
import Derived.Test.YtfjamikpahmfhaaGreatDoorPPrefixParse
import Derived.Test.YtfjamikpahmfhaaGreatDoorPPrefixParseRange
import Derived.Test.YtfjamikpahmfhaaGreatDoorPPrefixRangeText
import Derived.Laws.BitsAllLaws
set_option linter.unusedVariables false
set_option linter.unusedSimpArgs false
namespace Go.Proofs.YtfjamikpahmfhaaGreatDoor.P
open Go.RowKit Go.Proofs.YtfjamikpahmfhaaGreatDoor.T Go.Proofs.YtfjamikpahmfhaaGreatDoorW.PrintWords Go.Proofs.YtfjamikpahmfhaaGreatDoorW.PrintLast Go.Proofs.YtfjamikpahmfhaaGreatDoorW.PrintMore

theorem numeral_data (c : Int) (h : 0 ≤ c) : (numeral c).data.toList = Lib.decDigits c.toNat := by
  show Lib.itoa c = _
  unfold Lib.itoa
  rw [if_neg (by omega)]
theorem numeral_no (c : Int) (h : 0 ≤ c) (x : UInt8) (hx : x.toNat < 48) : x ∉ (numeral c).data.toList := by
  rw [numeral_data c h]
  intro hm
  have := decDigits_digits _ x hm
  omega
theorem numeral_size (c : Int) (h0 : 0 ≤ c) (h1 : c ≤ 9223372036854775807) : (numeral c).size ≤ 21 := by
  have := Lib.itoa_length_le c (by omega) h1
  simpa [numeral, ByteArray.size] using this
theorem atoiV_numeral (c : Int) (h0 : 0 ≤ c) (h1 : c ≤ 9223372036854775807) : atoiV (numeral c) = (c, true) := by
  have h2 := atoiAll_dec c.toNat (by omega)
  unfold atoiV
  rw [numeral_data c h0, h2]
  simp only [Prod.mk.injEq, and_true]
  omega
theorem number_numeral (c m : Int) (h0 : 0 ≤ c) (h1 : c ≤ 9223372036854775807) : prefix_number.f (numeral c) m = some (c, decide (c ≤ m)) := by
  have hs := numeral_size c h0 h1
  unfold prefix_number.f
  rw [if_pos (by omega), atoiV_numeral c h0 h1, byte_toList]
  have e : (Lib.itoa c == (numeral c).data.toList) = true := by
    rw [beq_iff_eq]
    rfl
  simp only [e, h0, decide_true, Bool.true_and, Bool.and_true]

/-! ### Addresses -/
def addrText (a : Int) : List UInt8 := Lib.join ((octets a).map fun c => (numeral c).data.toList) [46]
theorem octets_range (a : Int) (h0 : 0 ≤ a) (h1 : a ≤ 4294967295) : ∀ c ∈ octets a, 0 ≤ c ∧ c ≤ 255 := by
  intro c hc
  simp only [octets, List.mem_cons, List.not_mem_nil, or_false] at hc
  rcases hc with rfl | rfl | rfl | rfl <;> omega
theorem addr_f (a : Int) (h0 : 0 ≤ a) (h1 : a ≤ 4294967295) : prefix_Addr.f a = some ⟨(addrText a).toArray⟩ := by
  unfold prefix_Addr.f addrText
  rw [if_pos ⟨h0, h1⟩, List.map_map]
  rfl
theorem addrText_no (a : Int) (h0 : 0 ≤ a) (h1 : a ≤ 4294967295) (x : UInt8) (hx : x.toNat < 48) (hd : x ≠ 46) : x ∉ addrText a := by
  have hr := octets_range a h0 h1
  have hn : ∀ c ∈ octets a, x ∉ (numeral c).data.toList := fun c hc => numeral_no c (hr c hc).1 x hx
  unfold addrText
  simp only [octets, List.mem_cons, List.not_mem_nil, or_false] at hn
  have n1 := hn _ (.inl rfl)
  have n2 := hn _ (.inr (.inl rfl))
  have n3 := hn _ (.inr (.inr (.inl rfl)))
  have n4 := hn _ (.inr (.inr (.inr rfl)))
  simp only [octets, List.map_cons, List.map_nil, Lib.join_cons, Lib.joinTail, List.flatten_cons, List.flatten_nil, List.mem_append, List.mem_cons, List.not_mem_nil, or_false, not_or]
  exact ⟨n1, ⟨hd, n2⟩, ⟨hd, n3⟩, hd, n4⟩
theorem addrText_length (a : Int) (h0 : 0 ≤ a) (h1 : a ≤ 4294967295) : (addrText a).length ≤ 87 := by
  have hr := octets_range a h0 h1
  have hn : ∀ c ∈ octets a, (numeral c).data.toList.length ≤ 21 := fun c hc => by
    rw [Array.length_toList]
    exact numeral_size c (hr c hc).1 (Int.le_trans (hr c hc).2 (by decide))
  unfold addrText
  simp only [octets, List.mem_cons, List.not_mem_nil, or_false] at hn
  have n1 := hn _ (.inl rfl)
  have n2 := hn _ (.inr (.inl rfl))
  have n3 := hn _ (.inr (.inr (.inl rfl)))
  have n4 := hn _ (.inr (.inr (.inr rfl)))
  simp only [octets, List.map_cons, List.map_nil, Lib.join_cons, Lib.joinTail, List.flatten_cons, List.flatten_nil, List.length_append, List.length_cons, List.length_nil]
  omega
theorem split_f (c : UInt8) (s : ByteArray) (hs : s.size < 4294967281) : strings_Split.f s ⟨#[c]⟩ = some (fieldsB c s) := by
  unfold strings_Split.f
  rw [if_pos ⟨hs, Nat.le_refl 1⟩, splitB_fields]
theorem split_addr (a : Int) (h0 : 0 ≤ a) (h1 : a ≤ 4294967295) : strings_Split.f ⟨(addrText a).toArray⟩ ⟨#[46]⟩ = some ((octets a).map numeral) := by
  have hl := addrText_length a h0 h1
  rw [split_f 46 _ (by simp only [ByteArray.size, List.size_toArray]; omega)]
  unfold fieldsB addrText
  have hr := octets_range a h0 h1
  rw [fieldsOf_join 46 _ (by simp [octets]) (fun p hp => by
    obtain ⟨c, hc, rfl⟩ := List.mem_map.1 hp
    exact numeral_no c (hr c hc).1 46 (by decide)), List.map_map]
  rfl
set_option maxRecDepth 10000 in
theorem or_byte (x c : Nat) (hx : x * 256 + c < 4294967296) (hc : c < 256) : Go.bits .or .u32 (((x : Int) * 256) % 4294967296) ((c : Int) % 4294967296) = ((x * 256 + c : Nat) : Int) := by
  rw [show ((x : Int) * 256) % 4294967296 = ((x * 256 : Nat) : Int) by omega, show ((c : Int) % 4294967296) = (c : Int) by omega, u32_or_nat (x * 256) c (by omega) (by omega)]
  have h := Nat.two_pow_add_eq_or_of_lt (b := c) (i := 8) (by omega) x
  have e : x * 256 ||| c = 2 ^ 8 * x ||| c := by rw [Nat.mul_comm]
  rw [e, ← h]
  omega
theorem parse_step (k : Nat) (x i : Nat) (l : List ByteArray) (c : Nat) (hl : l.length = 4) (hi : i < 4) (hc : c < 256) (hx : x * 256 + c < 4294967296) (hat : l[i]? = some (numeral c)) :
    prefix_ParseAddr.l0 (k + 1) (x : Int) l 4 (i : Int) = prefix_ParseAddr.l0 k ((x * 256 + c : Nat) : Int) l 4 ((i + 1 : Nat) : Int) := by
  have hrd : rdOf ByteArray.empty l (i : Int) = numeral c := by
    unfold rdOf
    rw [Int.toNat_natCast, List.getD_eq_getElem?_getD, hat]
    rfl
  rw [prefix_ParseAddr.l0, if_pos (by omega), if_pos (by omega), if_pos (by omega), hrd, number_numeral _ _ (by omega) (by omega)]
  simp only [Option.bind_some]
  rw [if_pos (by simp; omega), or_byte x c hx hc, show wrap64 ((i : Int) + 1) = ((i + 1 : Nat) : Int) by unfold wrap64; omega]
theorem parseAddr_addr (a : Int) (h0 : 0 ≤ a) (h1 : a ≤ 4294967295) (k : Nat) (hk : 5 ≤ k) : prefix_ParseAddr.f k ⟨(addrText a).toArray⟩ = some (a, 0) := by
  obtain ⟨k, rfl⟩ : ∃ m, k = m + 5 := ⟨k - 5, by omega⟩
  obtain ⟨A, rfl⟩ := Int.eq_ofNat_of_zero_le h0
  unfold prefix_ParseAddr.f
  rw [split_addr _ h0 h1]
  simp only [Option.bind_some]
  have hl : ((octets (A : Int)).map numeral).length = 4 := by simp [octets]
  rw [hl, if_pos (by decide)]
  have o : octets (A : Int) = [((A / 16777216 : Nat) : Int), ((A / 65536 % 256 : Nat) : Int), ((A / 256 % 256 : Nat) : Int), ((A % 256 : Nat) : Int)] := by simp [octets]
  rw [o] at hl ⊢
  show prefix_ParseAddr.l0 (k + 5) ((0 : Nat) : Int) _ 4 ((0 : Nat) : Int) = _
  refine (parse_step (k + 4) 0 0 _ (A / 16777216) hl (by omega) (by omega) (by omega) rfl).trans ?_
  refine (parse_step (k + 3) _ 1 _ (A / 65536 % 256) hl (by omega) (by omega) (by omega) rfl).trans ?_
  refine (parse_step (k + 2) _ 2 _ (A / 256 % 256) hl (by omega) (by omega) (by omega) rfl).trans ?_
  refine (parse_step (k + 1) _ 3 _ (A % 256) hl (by omega) (by omega) (by omega) rfl).trans ?_
  rw [prefix_ParseAddr.l0, if_neg (by omega)]
  congr 2
  omega

/-! ### It always answers -/
theorem fieldsOf_le (c : UInt8) (l : List UInt8) : ∀ p ∈ fieldsOf c l, p.length ≤ l.length := by
  induction l with
  | nil =>
    intro p hp
    simp [fieldsOf] at hp
    simp [hp]
  | cons x l ih =>
    intro p hp
    rw [fieldsOf] at hp
    split at hp
    · rcases List.mem_cons.1 hp with rfl | h
      · simp
      · have := ih p h
        simp only [List.length_cons]
        omega
    · rcases List.mem_cons.1 hp with rfl | h
      · have h2 := ih ((fieldsOf c l).headD []) (by rw [fieldsOf_head c l]; exact List.mem_cons_self)
        simp only [List.length_cons]
        omega
      · have := ih p (List.mem_of_mem_tail h)
        simp only [List.length_cons]
        omega
theorem fieldsB_le (c : UInt8) (s : ByteArray) : ∀ p ∈ fieldsB c s, p.size ≤ s.size := by
  intro p hp
  obtain ⟨l, hl, rfl⟩ := List.mem_map.1 hp
  have := fieldsOf_le c _ l hl
  rw [Array.length_toList] at this
  exact this
theorem number_total (s : ByteArray) (m : Int) (hs : s.size ≤ 281474976710656) : ∃ v b, prefix_number.f s m = some (v, b) := by
  unfold prefix_number.f
  rw [if_pos hs]
  exact ⟨_, _, rfl⟩
theorem parse_loop_total (l : List ByteArray) (hl : l.length = 4) (hs : ∀ p ∈ l, p.size ≤ 281474976710656) :
    ∀ (d k i : Nat) (x : Int), 4 - i = d → i ≤ 4 → d < k → ∃ a e, prefix_ParseAddr.l0 k x l 4 (i : Int) = some (a, e) := by
  intro d
  induction d with
  | zero =>
    intro k i x h1 h2 h3
    obtain ⟨k, rfl⟩ : ∃ m, k = m + 1 := ⟨k - 1, by omega⟩
    rw [prefix_ParseAddr.l0, if_neg (by omega)]
    exact ⟨_, _, rfl⟩
  | succ d ih =>
    intro k i x h1 h2 h3
    obtain ⟨k, rfl⟩ : ∃ m, k = m + 1 := ⟨k - 1, by omega⟩
    rw [prefix_ParseAddr.l0, if_pos (by omega), if_pos (by omega), if_pos (by omega)]
    have hm : rdOf ByteArray.empty l (i : Int) ∈ l := by
      unfold rdOf
      rw [Int.toNat_natCast, List.getD_eq_getElem?_getD, List.getElem?_eq_getElem (by omega)]
      exact List.getElem_mem _
    obtain ⟨v, b, hv⟩ := number_total _ 255 (hs _ hm)
    rw [hv]
    simp only [Option.bind_some]
    split
    · rw [show wrap64 ((i : Int) + 1) = ((i + 1 : Nat) : Int) by unfold wrap64; omega]
      exact ih k (i + 1) _ (by omega) (by omega) (by omega)
    · exact ⟨_, _, rfl⟩
theorem parseAddr_total (s : ByteArray) (hs : s.size < 4294967281) (k : Nat) (hk : 5 ≤ k) : ∃ a e, prefix_ParseAddr.f k s = some (a, e) := by
  unfold prefix_ParseAddr.f
  rw [split_f 46 s hs]
  simp only [Option.bind_some]
  split
  · rename_i h
    have h4 : (fieldsB 46 s).length = 4 := by omega
    rw [h]
    exact parse_loop_total _ h4 (fun p hp => by have := fieldsB_le 46 s p hp; omega) 4 k 0 0 rfl (by omega) (by omega)
  · exact ⟨_, _, rfl⟩

/-! ### Prefixes -/
theorem pow32 (m : Nat) (h : m ≤ 32) : 2 ^ m ≤ 4294967296 := Nat.pow_le_pow_right (n := 2) (by decide) h
theorem mask_f (n : Nat) (hn : n ≤ 32) : prefix_mask.f (n : Int) = some ((2 ^ (32 - n) - 1 : Nat) : Int) := by
  have hp : 2 ^ (32 - n) ≤ 4294967296 := pow32 _ (by omega)
  have h0 : 0 < 2 ^ (32 - n) := Nat.two_pow_pos _
  unfold prefix_mask.f
  rw [show wrap64 (32 - (n : Int)) = ((32 - n : Nat) : Int) by unfold wrap64; omega, if_pos (by omega)]
  unfold shl
  rw [Int.toNat_natCast, show min (32 - n) IntKind.u64.bits = 32 - n by simp [IntKind.bits]; omega, show ((1 : Int) * 2 ^ (32 - n)) = ((2 ^ (32 - n) : Nat) : Int) by simp]
  generalize 2 ^ (32 - n) = q at *
  rw [IntKind.wrap_u64, IntKind.wrap_u64]
  congr 1
  omega
theorem right_f (a n : Nat) (ha : a ≤ 4294967295) (hn : n ≤ 32) : prefix_Right.f (a : Int) (n : Int) = some (a % 2 ^ (32 - n) == 0) := by
  have hp : 2 ^ (32 - n) ≤ 4294967296 := pow32 _ (by omega)
  have h0 : 0 < 2 ^ (32 - n) := Nat.two_pow_pos _
  unfold prefix_Right.f
  rw [if_pos (by omega), if_pos (by omega), mask_f n hn]
  simp only [Option.bind_some]
  rw [u32_and_nat a (2 ^ (32 - n) - 1) (by omega) (by omega), Nat.and_two_pow_sub_one_eq_mod]
  congr 1
  rw [Bool.eq_iff_iff, beq_iff_eq, beq_iff_eq]
  omega
theorem right_out (a n : Int) (h : n < 0 ∨ 32 < n) : prefix_Right.f a n = some false := by
  unfold prefix_Right.f
  by_cases h1 : n ≥ 0
  · rw [if_pos h1, if_neg (by omega)]
  · rw [if_neg h1]
theorem range_f (a n : Nat) (ha : a ≤ 4294967295) (hn : n ≤ 32) (hr : a % 2 ^ (32 - n) = 0) : prefix_Range.f (a : Int) (n : Int) = some ((a : Int), ((a + (2 ^ (32 - n) - 1) : Nat) : Int), 0) := by
  have hp : 2 ^ (32 - n) ≤ 4294967296 := pow32 _ (by omega)
  have h0 : 0 < 2 ^ (32 - n) := Nat.two_pow_pos _
  unfold prefix_Range.f
  rw [right_f a n ha hn, hr]
  simp only [Option.bind_some, beq_self_eq_true, if_true]
  rw [mask_f n hn]
  simp only [Option.bind_some]
  rw [u32_or_nat a (2 ^ (32 - n) - 1) (by omega) (by omega)]
  have h := Nat.two_pow_add_eq_or_of_lt (b := 2 ^ (32 - n) - 1) (i := 32 - n) (by omega) (a / 2 ^ (32 - n))
  have e : 2 ^ (32 - n) * (a / 2 ^ (32 - n)) = a := by
    have := Nat.div_add_mod a (2 ^ (32 - n))
    omega
  rw [e] at h
  rw [← h]
theorem ctzFrom_ge : ∀ (m f x : Nat), m ≤ f → x % 2 ^ m = 0 → m ≤ Lib.ctzFrom f x
  | 0, _, _, _, _ => Nat.zero_le _
  | m + 1, f, x, h, hx => by
    obtain ⟨f, rfl⟩ : ∃ g, f = g + 1 := ⟨f - 1, by omega⟩
    rw [Nat.pow_succ, Nat.mul_comm, Nat.mod_mul] at hx
    have h1 : x % 2 = 0 := by omega
    have h2 : x / 2 % 2 ^ m = 0 := by omega
    have := ctzFrom_ge m f (x / 2) (by omega) h2
    rw [Lib.ctzFrom, if_neg (by omega)]
    omega
theorem cut_f (c : UInt8) (s : ByteArray) (hs : s.size < 4294967281) : strings_Cut.f s ⟨#[c]⟩ = some (⟨(Lib.cut s.data.toList [c]).1.toArray⟩, ⟨(Lib.cut s.data.toList [c]).2.1.toArray⟩, (Lib.cut s.data.toList [c]).2.2) := by
  unfold strings_Cut.f
  rw [if_pos hs]
theorem data_app (a b : ByteArray) : (a ++ b).data.toList = a.data.toList ++ b.data.toList := by simp [ByteArray.data_append]
theorem rangeText_f (a b : Nat) (ha : a ≤ 4294967295) (hb : b ≤ 4294967295) : ∃ t, prefix_RangeText.f (a : Int) (b : Int) = some t ∧ t.data.toList = addrText a ++ 45 :: addrText b ∧ t.size ≤ 200 := by
  have h1 := addrText_length a (by omega) (by omega)
  have h2 := addrText_length b (by omega) (by omega)
  have e1 : (⟨(addrText a).toArray⟩ : ByteArray).size = (addrText a).length := by simp [ByteArray.size]
  have e2 : (⟨(addrText b).toArray⟩ : ByteArray).size = (addrText b).length := by simp [ByteArray.size]
  refine ⟨((⟨(addrText a).toArray⟩ : ByteArray) ++ ⟨#[45]⟩) ++ ⟨(addrText b).toArray⟩, ?_, ?_, ?_⟩
  · unfold prefix_RangeText.f
    rw [addr_f (a : Int) (by omega) (by omega)]
    simp only [Option.bind_some]
    rw [if_pos (by omega), addr_f (b : Int) (by omega) (by omega)]
    simp only [Option.bind_some]
    rw [if_pos (by omega)]
  · rw [data_app, data_app]
    simp
  · rw [ByteArray.size_append, ByteArray.size_append, e1, e2]
    have : (⟨#[45]⟩ : ByteArray).size = 1 := rfl
    omega
theorem bytes_mk (s : ByteArray) (l : List UInt8) (h : s.data.toList = l) : (⟨l.toArray⟩ : ByteArray) = s := by
  rw [← h]
theorem parse_text (a n : Nat) (ha : a ≤ 4294967295) (hn : n ≤ 32) (hr : a % 2 ^ (32 - n) = 0) (t : ByteArray) (ht : t.data.toList = addrText a ++ 47 :: (numeral n).data.toList) (hs : t.size ≤ 200) (k : Nat) (hk : 5 ≤ k) :
    prefix_Parse.f k t = some ((a : Int), (n : Int), 0) := by
  unfold prefix_Parse.f
  rw [cut_f 47 t (by omega), ht, cut_mid 47 _ _ (addrText_no a (by omega) (by omega) 47 (by decide) (by decide))]
  simp only [Option.bind_some]
  rw [parseAddr_addr (a : Int) (by omega) (by omega) k hk, bytes_mk (numeral n) _ rfl, number_numeral (n : Int) 32 (by omega) (by omega)]
  simp only [Option.bind_some]
  rw [if_pos trivial, if_pos trivial, if_pos (by simp; omega), right_f a n ha hn, hr]
  simp
theorem parse_noslash (t : ByteArray) (hs : t.size < 4294967281) (h : (47 : UInt8) ∉ t.data.toList) (k : Nat) (hk : 5 ≤ k) : prefix_Parse.f k t = some (0, 0, 21) := by
  unfold prefix_Parse.f
  rw [cut_f 47 t hs, cut_none 47 _ h]
  simp only [Option.bind_some]
  rw [bytes_mk t _ rfl]
  obtain ⟨a, e, he⟩ := parseAddr_total t hs k hk
  rw [he]
  simp only [Option.bind_some]
  obtain ⟨v, b, hv⟩ := number_total ⟨([] : List UInt8).toArray⟩ 32 (by simp [ByteArray.size])
  rw [hv]
  simp
theorem parseRange_text (a n : Nat) (ha : a ≤ 4294967295) (hn : n ≤ 32) (hr : a % 2 ^ (32 - n) = 0) (t : ByteArray) (ht : t.data.toList = addrText a ++ 47 :: (numeral n).data.toList) (hs : t.size ≤ 200) (k : Nat) (hk : 5 ≤ k) :
    prefix_ParseRange.f k t = some ((a : Int), ((a + (2 ^ (32 - n) - 1) : Nat) : Int), 0) := by
  unfold prefix_ParseRange.f
  rw [parse_text a n ha hn hr t ht hs k hk]
  simp only [Option.bind_some]
  rw [if_pos trivial, range_f a n ha hn hr]
  rfl
theorem parseRange_rangeText (a b : Nat) (ha : a ≤ 4294967295) (hb : b ≤ 4294967295) (hab : a ≤ b) (t : ByteArray) (ht : t.data.toList = addrText a ++ 45 :: addrText b) (hs : t.size ≤ 200) (k : Nat) (hk : 5 ≤ k) :
    prefix_ParseRange.f k t = some ((a : Int), (b : Int), 0) := by
  unfold prefix_ParseRange.f
  have hno : (47 : UInt8) ∉ t.data.toList := by
    rw [ht, List.mem_append, List.mem_cons, not_or, not_or]
    exact ⟨addrText_no a (by omega) (by omega) 47 (by decide) (by decide), by decide, addrText_no b (by omega) (by omega) 47 (by decide) (by decide)⟩
  rw [parse_noslash t (by omega) hno k hk]
  simp only [Option.bind_some]
  rw [if_neg (by decide), cut_f 45 t (by omega), ht, cut_mid 45 _ _ (addrText_no a (by omega) (by omega) 45 (by decide) (by decide))]
  simp only [Option.bind_some]
  rw [parseAddr_addr (a : Int) (by omega) (by omega) k hk, parseAddr_addr (b : Int) (by omega) (by omega) k hk]
  simp only [Option.bind_some]
  rw [if_pos trivial, if_pos trivial, if_pos trivial, if_neg (by omega)]
end Go.Proofs.YtfjamikpahmfhaaGreatDoor.P
