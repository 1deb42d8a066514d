/- Plain facts on texts: the pieces between separators, numerals and what they are parsed as. No program. -/
import Derived.Lib.SplitLaws
import Derived.Lib.CountLaws
import Derived.Lib.IndexMore
import Derived.Lib.AtoiAll
import Derived.Lib.ItoaNum
import Derived.Lib.ItoaMem
import Derived.Lib.Join
set_option linter.unusedVariables false
set_option linter.unusedSimpArgs false
namespace Go.Proofs.YtfjamikpahmfhaaGreatDoor.T
open Go

/-! ### The pieces between separators -/
def fieldsOf (c : UInt8) : List UInt8 → List (List UInt8)
  | [] => [[]]
  | x :: l => if x = c then [] :: fieldsOf c l else (x :: (fieldsOf c l).headD []) :: (fieldsOf c l).tail
theorem fieldsOf_ne (c : UInt8) (l : List UInt8) : fieldsOf c l ≠ [] := by
  cases l with
  | nil => simp [fieldsOf]
  | cons x l =>
    rw [fieldsOf]
    split <;> simp
theorem fieldsOf_head (c : UInt8) (l : List UInt8) : fieldsOf c l = (fieldsOf c l).headD [] :: (fieldsOf c l).tail := by
  cases h : fieldsOf c l with
  | nil => exact absurd h (fieldsOf_ne c l)
  | cons a t => rfl
theorem fieldsOf_length (c : UInt8) (l : List UInt8) : (fieldsOf c l).length = l.count c + 1 := by
  induction l with
  | nil => rfl
  | cons x l ih =>
    rw [fieldsOf]
    by_cases h : x = c
    · rw [if_pos h, List.length_cons, ih, h, List.count_cons_self]
    · rw [if_neg h, List.count_cons_of_ne h, ← ih]
      conv => rhs; rw [fieldsOf_head c l]
      rfl
theorem fieldsOf_append (c : UInt8) (p l : List UInt8) (hp : c ∉ p) : fieldsOf c (p ++ l) = (p ++ (fieldsOf c l).headD []) :: (fieldsOf c l).tail := by
  induction p with
  | nil => exact fieldsOf_head c l
  | cons x p ih =>
    have h1 : ¬ x = c := fun e => hp (by rw [e]; exact List.mem_cons_self)
    have h2 : c ∉ p := fun e => hp (List.mem_cons_of_mem _ e)
    rw [List.cons_append, fieldsOf, if_neg h1, ih h2]
    rfl
theorem fieldsOf_one (c : UInt8) (p : List UInt8) (hp : c ∉ p) : fieldsOf c p = [p] := by
  have := fieldsOf_append c p [] hp
  simpa [fieldsOf] using this
theorem fieldsOf_cut (c : UInt8) (p l : List UInt8) (hp : c ∉ p) : fieldsOf c (p ++ c :: l) = p :: fieldsOf c l := by
  rw [fieldsOf_append c p _ hp, fieldsOf, if_pos rfl]
  simp
theorem fieldsOf_join (c : UInt8) : ∀ (ps : List (List UInt8)), ps ≠ [] → (∀ p ∈ ps, c ∉ p) → fieldsOf c (Lib.join ps [c]) = ps
  | [], h, _ => absurd rfl h
  | [p], _, h => by rw [Lib.join_one]; exact fieldsOf_one c p (h p List.mem_cons_self)
  | p :: q :: r, _, h => by
    have e : Lib.join (p :: q :: r) [c] = p ++ c :: Lib.join (q :: r) [c] := by
      rw [Lib.join_cons, Lib.join_cons]
      simp [Lib.joinTail]
    rw [e, fieldsOf_cut c p _ (h p List.mem_cons_self), fieldsOf_join c (q :: r) (by simp) (fun x hx => h x (List.mem_cons_of_mem _ hx))]

theorem index_hit (c : UInt8) (l : List UInt8) : Lib.index (c :: l) [c] = 0 := by
  rw [Lib.index, if_pos (by simp)]
theorem index_miss (c x : UInt8) (l : List UInt8) (h : ¬ x = c) : Lib.index (x :: l) [c] = if Lib.index l [c] == -1 then -1 else Lib.index l [c] + 1 := by
  rw [Lib.index, if_neg (by simp [List.isPrefixOf]; exact fun e => h e.symm)]
theorem split_fields (c : UInt8) (l : List UInt8) : Lib.splitK [c] 0 (Lib.count l [c]) l = fieldsOf c l := by
  induction l with
  | nil =>
    have : Lib.count [] [c] = 0 := by rw [Lib.count_one]; rfl
    rw [this]
    rfl
  | cons x l ih =>
    by_cases h : x = c
    · subst h
      rw [Lib.count_cons_eq, Nat.add_comm, Lib.splitK, index_hit, if_neg (by decide), fieldsOf, if_pos rfl]
      show [] :: Lib.splitK [x] 0 (Lib.count l [x]) l = _
      rw [ih]
    · rw [Lib.count_cons_ne x c l h, fieldsOf, if_neg h]
      have hx := index_miss c x l h
      rcases Lib.index_spec l [c] with ⟨h1, _⟩ | ⟨i, h1, _⟩
      · rw [Lib.count_miss h1] at ih ⊢
        rw [← ih]
        rfl
      · rw [Lib.count_hit (by simp) h1] at ih ⊢
        rw [Nat.add_comm, Lib.splitK] at ih ⊢
        have hne : ¬ ((Lib.index l [c] == -1) = true) := by rw [h1]; simp
        rw [if_neg hne] at hx ih
        have e1 : (Lib.index l [c]).toNat = i := by omega
        have e2 : (Lib.index (x :: l) [c]).toNat = i + 1 := by rw [hx, h1]; omega
        rw [if_neg (by rw [hx, h1]; simp <;> omega), e2]
        rw [e1] at ih
        rw [← ih]
        rfl

/-- The pieces as texts. -/
def fieldsB (c : UInt8) (s : ByteArray) : List ByteArray := (fieldsOf c s.data.toList).map fun l => ⟨l.toArray⟩
theorem splitB_fields (c : UInt8) (s : ByteArray) : Lib.splitB ⟨#[c]⟩ 0 (Lib.countB s ⟨#[c]⟩) s = fieldsB c s := by
  have h1 : (Lib.splitB ⟨#[c]⟩ 0 (Lib.countB s ⟨#[c]⟩) s).map (fun x => x.data.toList) = fieldsOf c s.data.toList := (Lib.splitB_data ⟨#[c]⟩ 0 _ s).trans (split_fields c s.data.toList)
  unfold fieldsB
  rw [← h1, List.map_map]
  conv => lhs; rw [← List.map_id (Lib.splitB ⟨#[c]⟩ 0 (Lib.countB s ⟨#[c]⟩) s)]
  refine List.map_congr_left fun x _ => ?_
  simp

theorem index_mid (c : UInt8) : ∀ (p q : List UInt8), c ∉ p → Lib.index (p ++ c :: q) [c] = (p.length : Int)
  | [], q, _ => index_hit c q
  | x :: p, q, h => by
    have h1 : ¬ x = c := fun e => h (by rw [e]; exact List.mem_cons_self)
    rw [List.cons_append, index_miss c x _ h1, index_mid c p q (fun e => h (List.mem_cons_of_mem _ e)), if_neg (by simp <;> omega)]
    simp
theorem index_none (c : UInt8) : ∀ (p : List UInt8), c ∉ p → Lib.index p [c] = -1
  | [], _ => rfl
  | x :: p, h => by
    have h1 : ¬ x = c := fun e => h (by rw [e]; exact List.mem_cons_self)
    rw [index_miss c x _ h1, index_none c p (fun e => h (List.mem_cons_of_mem _ e))]
    rfl
theorem cut_mid (c : UInt8) (p q : List UInt8) (h : c ∉ p) : Lib.cut (p ++ c :: q) [c] = (p, q, true) := by
  rw [Lib.cut, index_mid c p q h, if_pos (by omega)]
  simp
theorem cut_none (c : UInt8) (p : List UInt8) (h : c ∉ p) : Lib.cut p [c] = (p, [], false) := by
  rw [Lib.cut, index_none c p h, if_neg (by omega)]

/-! ### Numerals -/
theorem decDigits_digits (u : Nat) : ∀ x ∈ Lib.decDigits u, 48 ≤ x.toNat ∧ x.toNat ≤ 57 := by
  induction u using Nat.strongRecOn with
  | _ u ih =>
    rw [Lib.decDigits]
    split
    · intro x hx
      rw [List.mem_singleton.1 hx, UInt8.toNat_ofNat']
      omega
    · intro x hx
      rcases List.mem_append.1 hx with h | h
      · exact ih (u / 10) (by omega) x h
      · rw [List.mem_singleton.1 h, UInt8.toNat_ofNat']
        omega
theorem decDigits_ne (u : Nat) : Lib.decDigits u ≠ [] := by
  rw [Lib.decDigits]
  split <;> simp
theorem parse_dec (u : Nat) (hu : u < 18446744073709551616) : ∀ r, Lib.parseUint10 0 (Lib.decDigits u ++ r) = Lib.parseUint10 u r := by
  induction u using Nat.strongRecOn with
  | _ u ih =>
    intro r
    rw [Lib.decDigits]
    split
    · rename_i h
      have e : (UInt8.ofNat (48 + u)).toNat = 48 + u := by rw [UInt8.toNat_ofNat']; omega
      rw [List.singleton_append, Lib.parseUint10, e, if_pos (by omega), if_neg (by omega), if_neg (by omega)]
      congr 1
      omega
    · rename_i h
      have e : (UInt8.ofNat (48 + u % 10)).toNat = 48 + u % 10 := by rw [UInt8.toNat_ofNat']; omega
      rw [List.append_assoc, ih (u / 10) (by omega) (by omega), List.singleton_append, Lib.parseUint10, e, if_pos (by omega), if_neg (by omega), if_neg (by omega)]
      congr 1
      omega
theorem atoiAll_dec (u : Nat) (hu : u < 9223372036854775808) : Lib.atoiAll (Lib.decDigits u) = .ok (u : Int) := by
  have hd := decDigits_digits u
  have hp := parse_dec u (by omega) []
  rw [List.append_nil] at hp
  cases h : Lib.decDigits u with
  | nil => exact absurd h (decDigits_ne u)
  | cons c r =>
    rw [h] at hp hd
    have hc := hd c List.mem_cons_self
    rw [Lib.atoiAll]
    have e1 : ¬ (c.toNat = 43 ∨ c.toNat = 45) := by omega
    have e2 : ¬ c.toNat = 45 := by omega
    have e3 : Lib.parseMag (c :: r) = .ok u := by rw [Lib.parseMag, if_neg (by simp), hp, Lib.parseUint10]
    rw [if_neg e1, e3]
    have e4 : ¬ (9223372036854775808 ≤ u) := by omega
    simp [e2, e4]
theorem byte_toList (s : ByteArray) : s.toList = s.data.toList := by
  exact ByteArray.toList_eq s
end Go.Proofs.YtfjamikpahmfhaaGreatDoor.T
