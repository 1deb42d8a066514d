/- Texts of the session's and of the print's, put together by a program. -/
import Derived.Test.YtfjamikpahmfhaaGreatDoorQT0
import Derived.Lib.SplitLaws
import Derived.Lib.CountLaws
import Derived.Lib.IndexMore
import Derived.Lib.AtoiAll
import Derived.Lib.ItoaNum
import Derived.Lib.ItoaMem
import Derived.Lib.Join
import Derived.Test.YtfjamikpahmfhaaGreatDoorProg
import Derived.Below
import Derived.Deep.Draws
import Derived.Deep.AppendLies
import Derived.Maps.AppendAt
import Derived.OwnWalk
import Derived.Laws.BytesArg
import Derived.Laws.MakeOwn
import Derived.Laws.OwnMore
import Derived.Deep.OwnRows
import Derived.Tactics
import Derived.Lib.ConvBytes
import Derived.Laws.Slices
import Derived.WalkKit
import Derived.KernelRfl
import Derived.RowKit3
import Derived.Deep.LoopGhost
import Derived.Deep.QuietTactic
import Derived.BigQuiet
import Derived.WideLaws
import Derived.Deep.DeepCutAuto
import Derived.Deep.CutBlock
import Derived.Deep.RegionHeld3
import Derived.Laws.Rows
import Derived.Lib.AppendStr
import Derived.ArgAppend
import Derived.Laws.IdiomCopy
import Derived.OrdersHeld
import Derived.Laws.BitsLemmas
import Derived.RowKit
import Derived.Shelf.Strings.OnBuilder
import Derived.Shelf.Small.Wraps
import Derived.Shelf.Strconv.Itoa0
import Derived.Shelf.LaysM
import Derived.Shelf.Strconv.Itoa3
import Derived.Shelf.LaysC
import Derived.Shelf.Strconv.AtoiAll
import Derived.Shelf.Strconv.ErrVarAll
import Derived.Shelf.Strings.Cut
import Derived.Shelf.Strings.Split
import Derived.Ground.Names2Prog
import Derived.Ground.SlgnProg
import Derived.Shelf.Lays7
import Derived.WalkSmall
import Derived.Lib.ItoaLen
import Derived.Lib.AppendIntMem
import Derived.Lib.AtoiErrMem
import Derived.Lib.Hide
import Derived.Shelf.Spec.TrailingZeros
import Derived.Laws.BitsAllLaws
set_option linter.unusedVariables false
set_option linter.unusedSimpArgs false
section
set_option linter.unusedVariables false
set_option linter.unusedSimpArgs false
namespace Go.Proofs.YtfjamikpahmfhaaGreatDoor.T
open Go
def fieldsOf (c : UInt8) : List UInt8 → List (List UInt8)
  | [] => [[]]
  | x :: l => if x = c then [] :: fieldsOf c l else (x :: (fieldsOf c l).headD []) :: (fieldsOf c l).tail
theorem fieldsOf_ne (c : UInt8) (l : List UInt8) : fieldsOf c l ≠ [] := by
  cases l with
  | nil => simp [fieldsOf]
  | cons x l =>
    rw [fieldsOf]
    split <;> simp
theorem fieldsOf_head (c : UInt8) (l : List UInt8) : fieldsOf c l = (fieldsOf c l).headD [] :: (fieldsOf c l).tail := by
  cases h : fieldsOf c l with
  | nil => exact absurd h (fieldsOf_ne c l)
  | cons a t => rfl
theorem fieldsOf_length (c : UInt8) (l : List UInt8) : (fieldsOf c l).length = l.count c + 1 := by
  induction l with
  | nil => rfl
  | cons x l ih =>
    rw [fieldsOf]
    by_cases h : x = c
    · rw [if_pos h, List.length_cons, ih, h, List.count_cons_self]
    · rw [if_neg h, List.count_cons_of_ne h, ← ih]
      conv => rhs; rw [fieldsOf_head c l]
      rfl
theorem fieldsOf_append (c : UInt8) (p l : List UInt8) (hp : c ∉ p) : fieldsOf c (p ++ l) = (p ++ (fieldsOf c l).headD []) :: (fieldsOf c l).tail := by
  induction p with
  | nil => exact fieldsOf_head c l
  | cons x p ih =>
    have h1 : ¬ x = c := fun e => hp (by rw [e]; exact List.mem_cons_self)
    have h2 : c ∉ p := fun e => hp (List.mem_cons_of_mem _ e)
    rw [List.cons_append, fieldsOf, if_neg h1, ih h2]
    rfl
theorem fieldsOf_one (c : UInt8) (p : List UInt8) (hp : c ∉ p) : fieldsOf c p = [p] := by
  have := fieldsOf_append c p [] hp
  simpa [fieldsOf] using this
theorem fieldsOf_cut (c : UInt8) (p l : List UInt8) (hp : c ∉ p) : fieldsOf c (p ++ c :: l) = p :: fieldsOf c l := by
  rw [fieldsOf_append c p _ hp, fieldsOf, if_pos rfl]
  simp
theorem fieldsOf_join (c : UInt8) : ∀ (ps : List (List UInt8)), ps ≠ [] → (∀ p ∈ ps, c ∉ p) → fieldsOf c (Lib.join ps [c]) = ps
  | [], h, _ => absurd rfl h
  | [p], _, h => by rw [Lib.join_one]; exact fieldsOf_one c p (h p List.mem_cons_self)
  | p :: q :: r, _, h => by
    have e : Lib.join (p :: q :: r) [c] = p ++ c :: Lib.join (q :: r) [c] := by
      rw [Lib.join_cons, Lib.join_cons]
      simp [Lib.joinTail]
    rw [e, fieldsOf_cut c p _ (h p List.mem_cons_self), fieldsOf_join c (q :: r) (by simp) (fun x hx => h x (List.mem_cons_of_mem _ hx))]
theorem index_hit (c : UInt8) (l : List UInt8) : Lib.index (c :: l) [c] = 0 := by
  rw [Lib.index, if_pos (by simp)]
theorem index_miss (c x : UInt8) (l : List UInt8) (h : ¬ x = c) : Lib.index (x :: l) [c] = if Lib.index l [c] == -1 then -1 else Lib.index l [c] + 1 := by
  rw [Lib.index, if_neg (by simp [List.isPrefixOf]; exact fun e => h e.symm)]
theorem split_fields (c : UInt8) (l : List UInt8) : Lib.splitK [c] 0 (Lib.count l [c]) l = fieldsOf c l := by
  induction l with
  | nil =>
    have : Lib.count [] [c] = 0 := by rw [Lib.count_one]; rfl
    rw [this]
    rfl
  | cons x l ih =>
    by_cases h : x = c
    · subst h
      rw [Lib.count_cons_eq, Nat.add_comm, Lib.splitK, index_hit, if_neg (by decide), fieldsOf, if_pos rfl]
      show [] :: Lib.splitK [x] 0 (Lib.count l [x]) l = _
      rw [ih]
    · rw [Lib.count_cons_ne x c l h, fieldsOf, if_neg h]
      have hx := index_miss c x l h
      rcases Lib.index_spec l [c] with ⟨h1, _⟩ | ⟨i, h1, _⟩
      · rw [Lib.count_miss h1] at ih ⊢
        rw [← ih]
        rfl
      · rw [Lib.count_hit (by simp) h1] at ih ⊢
        rw [Nat.add_comm, Lib.splitK] at ih ⊢
        have hne : ¬ ((Lib.index l [c] == -1) = true) := by rw [h1]; simp
        rw [if_neg hne] at hx ih
        have e1 : (Lib.index l [c]).toNat = i := by omega
        have e2 : (Lib.index (x :: l) [c]).toNat = i + 1 := by rw [hx, h1]; omega
        rw [if_neg (by rw [hx, h1]; simp <;> omega), e2]
        rw [e1] at ih
        rw [← ih]
        rfl
def fieldsB (c : UInt8) (s : ByteArray) : List ByteArray := (fieldsOf c s.data.toList).map fun l => ⟨l.toArray⟩
theorem splitB_fields (c : UInt8) (s : ByteArray) : Lib.splitB ⟨#[c]⟩ 0 (Lib.countB s ⟨#[c]⟩) s = fieldsB c s := by
  have h1 : (Lib.splitB ⟨#[c]⟩ 0 (Lib.countB s ⟨#[c]⟩) s).map (fun x => x.data.toList) = fieldsOf c s.data.toList := (Lib.splitB_data ⟨#[c]⟩ 0 _ s).trans (split_fields c s.data.toList)
  unfold fieldsB
  rw [← h1, List.map_map]
  conv => lhs; rw [← List.map_id (Lib.splitB ⟨#[c]⟩ 0 (Lib.countB s ⟨#[c]⟩) s)]
  refine List.map_congr_left fun x _ => ?_
  simp
theorem index_mid (c : UInt8) : ∀ (p q : List UInt8), c ∉ p → Lib.index (p ++ c :: q) [c] = (p.length : Int)
  | [], q, _ => index_hit c q
  | x :: p, q, h => by
    have h1 : ¬ x = c := fun e => h (by rw [e]; exact List.mem_cons_self)
    rw [List.cons_append, index_miss c x _ h1, index_mid c p q (fun e => h (List.mem_cons_of_mem _ e)), if_neg (by simp <;> omega)]
    simp
theorem index_none (c : UInt8) : ∀ (p : List UInt8), c ∉ p → Lib.index p [c] = -1
  | [], _ => rfl
  | x :: p, h => by
    have h1 : ¬ x = c := fun e => h (by rw [e]; exact List.mem_cons_self)
    rw [index_miss c x _ h1, index_none c p (fun e => h (List.mem_cons_of_mem _ e))]
    rfl
theorem cut_mid (c : UInt8) (p q : List UInt8) (h : c ∉ p) : Lib.cut (p ++ c :: q) [c] = (p, q, true) := by
  rw [Lib.cut, index_mid c p q h, if_pos (by omega)]
  simp
theorem cut_none (c : UInt8) (p : List UInt8) (h : c ∉ p) : Lib.cut p [c] = (p, [], false) := by
  rw [Lib.cut, index_none c p h, if_neg (by omega)]
theorem decDigits_digits (u : Nat) : ∀ x ∈ Lib.decDigits u, 48 ≤ x.toNat ∧ x.toNat ≤ 57 := by
  induction u using Nat.strongRecOn with
  | _ u ih =>
    rw [Lib.decDigits]
    split
    · intro x hx
      rw [List.mem_singleton.1 hx, UInt8.toNat_ofNat']
      omega
    · intro x hx
      rcases List.mem_append.1 hx with h | h
      · exact ih (u / 10) (by omega) x h
      · rw [List.mem_singleton.1 h, UInt8.toNat_ofNat']
        omega
theorem decDigits_ne (u : Nat) : Lib.decDigits u ≠ [] := by
  rw [Lib.decDigits]
  split <;> simp
theorem parse_dec (u : Nat) (hu : u < 18446744073709551616) : ∀ r, Lib.parseUint10 0 (Lib.decDigits u ++ r) = Lib.parseUint10 u r := by
  induction u using Nat.strongRecOn with
  | _ u ih =>
    intro r
    rw [Lib.decDigits]
    split
    · rename_i h
      have e : (UInt8.ofNat (48 + u)).toNat = 48 + u := by rw [UInt8.toNat_ofNat']; omega
      rw [List.singleton_append, Lib.parseUint10, e, if_pos (by omega), if_neg (by omega), if_neg (by omega)]
      congr 1
      omega
    · rename_i h
      have e : (UInt8.ofNat (48 + u % 10)).toNat = 48 + u % 10 := by rw [UInt8.toNat_ofNat']; omega
      rw [List.append_assoc, ih (u / 10) (by omega) (by omega), List.singleton_append, Lib.parseUint10, e, if_pos (by omega), if_neg (by omega), if_neg (by omega)]
      congr 1
      omega
theorem atoiAll_dec (u : Nat) (hu : u < 9223372036854775808) : Lib.atoiAll (Lib.decDigits u) = .ok (u : Int) := by
  have hd := decDigits_digits u
  have hp := parse_dec u (by omega) []
  rw [List.append_nil] at hp
  cases h : Lib.decDigits u with
  | nil => exact absurd h (decDigits_ne u)
  | cons c r =>
    rw [h] at hp hd
    have hc := hd c List.mem_cons_self
    rw [Lib.atoiAll]
    have e1 : ¬ (c.toNat = 43 ∨ c.toNat = 45) := by omega
    have e2 : ¬ c.toNat = 45 := by omega
    have e3 : Lib.parseMag (c :: r) = .ok u := by rw [Lib.parseMag, if_neg (by simp), hp, Lib.parseUint10]
    rw [if_neg e1, e3]
    have e4 : ¬ (9223372036854775808 ≤ u) := by omega
    simp [e2, e4]
theorem byte_toList (s : ByteArray) : s.toList = s.data.toList := by
  exact ByteArray.toList_eq s
end Go.Proofs.YtfjamikpahmfhaaGreatDoor.T
end
section
open List renaming map_toArray → mA_, map_cons → mC_, map_nil → mN_, length_drop → lD_, length_take → lT_, setIfInBounds_toArray → sI_, set_cons_zero → z0_, set_cons_succ → z1_
namespace Go.Proofs.YtfjamikpahmfhaaGreatDoor.P
open Go.RowKit Go.Proofs.YtfjamikpahmfhaaGreatDoorW.PrintWords Go.Proofs.YtfjamikpahmfhaaGreatDoorW.PrintLast Go.Proofs.YtfjamikpahmfhaaGreatDoorW.PrintMore
attribute [local go_sem] max2_int min2_int max_two min_two max_three min_three max_four min_four
set_option linter.unusedVariables false
set_option linter.unusedSimpArgs false
def errW : Option Int → Value
 | none => .nilIface
 | some c => .iface 0 (.int .i64 c)
theorem errW_none : errW none = .nilIface := rfl
theorem errW_some (c : Int) : errW (some c) = .iface 0 (.int .i64 c) := rfl
theorem info9 : (Tryz.prog.info? 9).map (fun i => (i.zero, i.size, i.bytes)) = some (some (.string ⟨#[]⟩), 1, 16) := by kernel_rfl
theorem info27 : (Tryz.prog.info? 27).map (fun i => (i.zero, i.size, i.bytes)) = some (some (.agg #[(.int .i64 0), (.int .i64 0), (.int .i64 0), (.int .i64 0), (.int .u32 0), (.int .u32 0), (.int .i64 0)]), 7, 48) := by kernel_rfl
structure S25 where
 f0 : Int
 f1 : Int
def z25 : S25 := ⟨(0 : Int), (0 : Int)⟩
def k25 : Kd S25 := Kd.iso (Kd.pair (Kd.int .u32) (Kd.int .u32)) (fun x : S25 => (x.f0, x.f1))
theorem k25_open {w : World} {x : S25} {cs : List Value} (h : k25.K w x cs) : cs = [.int .u32 x.f0, .int .u32 x.f1] := by
 obtain ⟨_, _, rfl, rfl, rfl⟩ := h
 exact rfl
theorem k25_mkM (w : World) (base : Nat) (ok : Nat → Prop) (x : S25)  : k25.M w base ok x [.int .u32 x.f0, .int .u32 x.f1] := ⟨[.int .u32 x.f0], [.int .u32 x.f1], rfl, rfl, rfl⟩
structure S27 where
 f0 : Int
 f1 : Int
 f2 : Int
 f3 : Int
 f4 : S25
 f5 : Int
def z27 : S27 := ⟨(0 : Int), (0 : Int), (0 : Int), (0 : Int), z25, (0 : Int)⟩
def k27 : Kd S27 := Kd.iso (Kd.pair (Kd.int .i64) (Kd.pair (Kd.int .i64) (Kd.pair (Kd.int .i64) (Kd.pair (Kd.int .i64) (Kd.pair k25 (Kd.int .i64)))))) (fun x : S27 => (x.f0, x.f1, x.f2, x.f3, x.f4, x.f5))
theorem k27_open {w : World} {x : S27} {cs : List Value} (h : k27.K w x cs) : cs = [.int .i64 x.f0, .int .i64 x.f1, .int .i64 x.f2, .int .i64 x.f3, .int .u32 x.f4.f0, .int .u32 x.f4.f1, .int .i64 x.f5] := by
 obtain ⟨_, _, rfl, rfl, ⟨_, _, rfl, rfl, ⟨_, _, rfl, rfl, ⟨_, _, rfl, rfl, ⟨_, _, rfl, s4, rfl⟩⟩⟩⟩⟩ := h
 obtain rfl := k25_open s4
 exact rfl
theorem k27_mkM (w : World) (base : Nat) (ok : Nat → Prop) (x : S27)  : k27.M w base ok x [.int .i64 x.f0, .int .i64 x.f1, .int .i64 x.f2, .int .i64 x.f3, .int .u32 x.f4.f0, .int .u32 x.f4.f1, .int .i64 x.f5] := ⟨[.int .i64 x.f0], [.int .i64 x.f1, .int .i64 x.f2, .int .i64 x.f3, .int .u32 x.f4.f0, .int .u32 x.f4.f1, .int .i64 x.f5], rfl, rfl, ⟨[.int .i64 x.f1], [.int .i64 x.f2, .int .i64 x.f3, .int .u32 x.f4.f0, .int .u32 x.f4.f1, .int .i64 x.f5], rfl, rfl, ⟨[.int .i64 x.f2], [.int .i64 x.f3, .int .u32 x.f4.f0, .int .u32 x.f4.f1, .int .i64 x.f5], rfl, rfl, ⟨[.int .i64 x.f3], [.int .u32 x.f4.f0, .int .u32 x.f4.f1, .int .i64 x.f5], rfl, rfl, ⟨[.int .u32 x.f4.f0, .int .u32 x.f4.f1], [.int .i64 x.f5], rfl, (k25_mkM w base ok x.f4 ), rfl⟩⟩⟩⟩⟩
def rd_T27 (xs : List S27) (i : Int) : S27 := xs.getD i.toNat z27
theorem at_T27 {w : World} {A : Option Addr} {n : Nat} {xs : List S27} (h : Kd.C k27 w A n xs) (i : Int) (h0 : 0 ≤ i) (h1 : i < n) : ∃ ad , A = some ad ∧ w.cell? (ad.add (i.toNat * 7)) = some (.int .i64 (rd_T27 xs i).f0) ∧ w.cell? ⟨(ad.add (i.toNat * 7)).block, (ad.add (i.toNat * 7)).off + 1, none⟩ = some (.int .i64 (rd_T27 xs i).f1) ∧ w.cell? ⟨(ad.add (i.toNat * 7)).block, (ad.add (i.toNat * 7)).off + 2, none⟩ = some (.int .i64 (rd_T27 xs i).f2) ∧ w.cell? ⟨(ad.add (i.toNat * 7)).block, (ad.add (i.toNat * 7)).off + 3, none⟩ = some (.int .i64 (rd_T27 xs i).f3) ∧ w.cell? ⟨(ad.add (i.toNat * 7)).block, (ad.add (i.toNat * 7)).off + 4, none⟩ = some (.int .u32 (rd_T27 xs i).f4.f0) ∧ w.cell? ⟨(ad.add (i.toNat * 7)).block, (ad.add (i.toNat * 7)).off + 5, none⟩ = some (.int .u32 (rd_T27 xs i).f4.f1) ∧ w.cell? ⟨(ad.add (i.toNat * 7)).block, (ad.add (i.toNat * 7)).off + 6, none⟩ = some (.int .i64 (rd_T27 xs i).f5) := by
 obtain ⟨ad, c, e, _, hK, hc0⟩ := Kd.C_get h z27 i h0 h1
 have hc : ∀ j u, c[j]? = some u → w.cell? (ad.add (i.toNat * 7 + j)) = some u := hc0
 obtain rfl := k27_open hK
 exact ⟨ad, e, hc 0 _ rfl, by rw [← add_field _ _ 1 (by omega)]; exact hc 1 _ rfl, by rw [← add_field _ _ 2 (by omega)]; exact hc 2 _ rfl, by rw [← add_field _ _ 3 (by omega)]; exact hc 3 _ rfl, by rw [← add_field _ _ 4 (by omega)]; exact hc 4 _ rfl, by rw [← add_field _ _ 5 (by omega)]; exact hc 5 _ rfl, by rw [← add_field _ _ 6 (by omega)]; exact hc 6 _ rfl⟩
end Go.Proofs.YtfjamikpahmfhaaGreatDoor.P
end
section
namespace Go.Proofs
open Go.Shelf
def Tryz.lays156_ren : Go.Shelf.Ren := ⟨fun | 156 => 50 | 165 => 102 | 166 => 103 | 169 => 104 | 240 => 146 | 241 => 147 | 276 => 191 | 277 => 192 | n => n, fun | 31 => 88 | 9 => 9 | 3 => 3 | 4 => 4 | 0 => 0 | 20 => 20 | 72 => 150 | 76 => 154 | 70 => 147 | 37 => 148 | 75 => 153 | 127 => 197 | 164 => 235 | 5 => 5 | 80 => 156 | n => n, fun | n => n⟩
theorem Tryz.lays156 : Go.Proofs.Lays.n156 Tryz.prog Tryz.lays156_ren := {
  mixed := by kernel_rfl
  f156 := Tryz.func50.trans (congrArg some (by kernel_rfl))
  f165 := Tryz.func102.trans (congrArg some (by kernel_rfl))
  f166 := Tryz.func103.trans (congrArg some (by kernel_rfl))
  f169 := Tryz.func104.trans (congrArg some (by kernel_rfl))
  f240 := Tryz.func146.trans (congrArg some (by kernel_rfl))
  f241 := Tryz.func147.trans (congrArg some (by kernel_rfl))
  f276 := Tryz.func191.trans (congrArg some (by kernel_rfl))
  f277 := Tryz.func192.trans (congrArg some (by kernel_rfl))
  t0 := Tryz.underlying0
  a0 := Tryz.isAgg0
  z0 := Tryz.sizeOf0
  v0 := Tryz.zeroValue0
  t3 := Tryz.underlying3
  a3 := Tryz.isAgg3
  z3 := Tryz.sizeOf3
  v3 := Tryz.zeroValue3
  t4 := Tryz.underlying4
  a4 := Tryz.isAgg4
  z4 := Tryz.sizeOf4
  v4 := Tryz.zeroValue4
  t9 := Tryz.underlying9
  a9 := Tryz.isAgg9
  z9 := Tryz.sizeOf9
  v9 := Tryz.zeroValue9
  t20 := Tryz.underlying20
  a20 := Tryz.isAgg20
  z20 := Tryz.sizeOf20
  v20 := Tryz.zeroValue20
  t31 := Tryz.underlying88
  a31 := Tryz.isAgg88
  z31 := Tryz.sizeOf88
  v31 := Tryz.zeroValue88
  t37 := Tryz.underlying148
  a37 := Tryz.isAgg148
  z37 := Tryz.sizeOf148
  v37 := Tryz.zeroValue148
  t70 := Tryz.underlying147
  a70 := Tryz.isAgg147
  z70 := Tryz.sizeOf147
  v70 := Tryz.zeroValue147
  t72 := Tryz.underlying150
  a72 := Tryz.isAgg150
  z72 := Tryz.sizeOf150
  v72 := Tryz.zeroValue150
  t75 := Tryz.underlying153
  a75 := Tryz.isAgg153
  z75 := Tryz.sizeOf153
  v75 := Tryz.zeroValue153
  t76 := Tryz.underlying154
  a76 := Tryz.isAgg154
  z76 := Tryz.sizeOf154
  v76 := Tryz.zeroValue154
  t127 := Tryz.underlying197
  a127 := Tryz.isAgg197
  z127 := Tryz.sizeOf197
  v127 := Tryz.zeroValue197
  t164 := Tryz.underlying235
  a164 := Tryz.isAgg235
  z164 := Tryz.sizeOf235
  v164 := Tryz.zeroValue235 }
theorem Tryz.Builder_Extra_156 : Builder.Extra Tryz.prog Tryz.lays156_ren := {
  sizeBuilder := by kernel_rfl
  liesBuilder := by kernel_rfl
  t5 := Tryz.underlying5
  a5 := Tryz.isAgg5
  z5 := Tryz.sizeOf5
  v5 := Tryz.zeroValue5
  infoByte := by kernel_rfl
  cellsByte := by kernel_rfl
  sizeByte := by kernel_rfl
  neB5 := by decide }
open Go.RowKit in
theorem Tryz.strings_Join_none (a : Option Addr) (c : Nat) (sep : ByteArray) (w : World) :
    Calls Tryz.prog 50 #[.slice a 0 c, .string sep] w fun e w' => e = .returned (.string ⟨#[]⟩) ∧ w' = w := Any.strings_Join_none Tryz.lays156 Tryz.Builder_Extra_156 a c sep w
open Go.RowKit in
theorem Tryz.strings_Join (bk o c : Nat) (xs : List ByteArray) (sep : ByteArray) (w : World) (hcells : ∀ (j : Nat) x, xs[j]? = some x → w.cell? ⟨bk, o + j, none⟩ = some (.string x)) (hbk : bk < w.heap.size) (hN : xs.length ≤ 140737488355328) (hcap : xs.length ≤ c) (hlen : (Lib.join (xs.map (·.data.toList)) sep.data.toList).length ≤ 140737488355328) :
    Calls Tryz.prog 50 #[.slice (some ⟨bk, o, none⟩) xs.length c, .string sep] w fun e w' => e = .returned (.string ⟨(Lib.join (xs.map (·.data.toList)) sep.data.toList).toArray⟩) ∧ Below w.heap.size w w' := Any.strings_Join Tryz.lays156 Tryz.Builder_Extra_156 bk o c xs sep w hcells hbk hN hcap hlen
def Tryz.lays122_ren : Go.Shelf.Ren := ⟨fun | 122 => 66 | 215 => 117 | n => n, fun | 3 => 3 | 4 => 4 | n => n, fun | n => n⟩
theorem Tryz.lays122 : Go.Proofs.Lays.n122 Tryz.prog Tryz.lays122_ren := {
  mixed := by kernel_rfl
  f122 := Tryz.func66.trans (congrArg some (by kernel_rfl))
  f215 := Tryz.func117.trans (congrArg some (by kernel_rfl))
  t3 := Tryz.underlying3
  a3 := Tryz.isAgg3
  z3 := Tryz.sizeOf3
  v3 := Tryz.zeroValue3
  t4 := Tryz.underlying4
  a4 := Tryz.isAgg4
  z4 := Tryz.sizeOf4
  v4 := Tryz.zeroValue4 }
open Go.RowKit in
theorem Tryz.cmp_Compare_int (x y : Int) (w : World) :
    Calls Tryz.prog 66 #[.int .i64 x, .int .i64 y] w fun e w' => e = .returned (.int .i64 (Lib.compareInt x y)) ∧ w' = w := Any.cmp_Compare_int Tryz.lays122 x y w
def Tryz.laysM171_ren : Go.Shelf.Ren := ⟨fun | 171 => 48 | 243 => 100 | 246 => 145 | 283 => 187 | 284 => 188 | 285 => 189 | 286 => 190 | 129 => 221 | 317 => 222 | 318 => 223 | 319 => 224 | 320 => 225 | 337 => 252 | 338 => 253 | n => n, fun | 3 => 3 | 9 => 9 | 2 => 2 | 4 => 4 | 171 => 229 | 0 => 0 | 53 => 230 | 37 => 148 | 5 => 5 | 173 => 233 | 212 => 264 | 51 => 23 | 20 => 20 | 213 => 265 | 46 => 168 | 232 => 302 | 233 => 303 | n => n, fun | 17 => 0 | 18 => 6 | 19 => 7 | n => n⟩
theorem Tryz.laysM171 : Go.Proofs.LaysM.n171 Tryz.prog Tryz.laysM171_ren := {
  mixed := by kernel_rfl
  f129 := Tryz.func221.trans (congrArg some (by kernel_rfl))
  f171 := Tryz.func48.trans (congrArg some (by kernel_rfl))
  f243 := Tryz.func100.trans (congrArg some (by kernel_rfl))
  f246 := Tryz.func145.trans (congrArg some (by kernel_rfl))
  f283 := Tryz.func187.trans (congrArg some (by kernel_rfl))
  f284 := Tryz.func188.trans (congrArg some (by kernel_rfl))
  f285 := Tryz.func189.trans (congrArg some (by kernel_rfl))
  f286 := Tryz.func190.trans (congrArg some (by kernel_rfl))
  f317 := Tryz.func222.trans (congrArg some (by kernel_rfl))
  f318 := Tryz.func223.trans (congrArg some (by kernel_rfl))
  f319 := Tryz.func224.trans (congrArg some (by kernel_rfl))
  f320 := Tryz.func225.trans (congrArg some (by kernel_rfl))
  f337 := Tryz.func252.trans (congrArg some (by kernel_rfl))
  f338 := Tryz.func253.trans (congrArg some (by kernel_rfl))
  t0 := Tryz.underlying0
  a0 := Tryz.isAgg0
  z0 := Tryz.sizeOf0
  v0 := Tryz.zeroValue0
  t2 := Tryz.underlying2
  a2 := Tryz.isAgg2
  z2 := Tryz.sizeOf2
  v2 := Tryz.zeroValue2
  t3 := Tryz.underlying3
  a3 := Tryz.isAgg3
  z3 := Tryz.sizeOf3
  v3 := Tryz.zeroValue3
  t4 := Tryz.underlying4
  a4 := Tryz.isAgg4
  z4 := Tryz.sizeOf4
  v4 := Tryz.zeroValue4
  t5 := Tryz.underlying5
  a5 := Tryz.isAgg5
  z5 := Tryz.sizeOf5
  v5 := Tryz.zeroValue5
  t9 := Tryz.underlying9
  a9 := Tryz.isAgg9
  z9 := Tryz.sizeOf9
  v9 := Tryz.zeroValue9
  t20 := Tryz.underlying20
  a20 := Tryz.isAgg20
  z20 := Tryz.sizeOf20
  v20 := Tryz.zeroValue20
  t37 := Tryz.underlying148
  a37 := Tryz.isAgg148
  z37 := Tryz.sizeOf148
  v37 := Tryz.zeroValue148
  t46 := Tryz.underlying168
  a46 := Tryz.isAgg168
  z46 := Tryz.sizeOf168
  v46 := Tryz.zeroValue168
  t51 := Tryz.underlying23
  a51 := Tryz.isAgg23
  z51 := Tryz.sizeOf23
  v51 := Tryz.zeroValue23
  t53 := Tryz.underlying230
  a53 := Tryz.isAgg230
  z53 := Tryz.sizeOf230
  v53 := Tryz.zeroValue230
  t171 := Tryz.underlying229
  a171 := Tryz.isAgg229
  z171 := Tryz.sizeOf229
  v171 := Tryz.zeroValue229
  t173 := Tryz.underlying233
  a173 := Tryz.isAgg233
  z173 := Tryz.sizeOf233
  v173 := Tryz.zeroValue233
  t212 := Tryz.underlying264
  a212 := Tryz.isAgg264
  z212 := Tryz.sizeOf264
  v212 := Tryz.zeroValue264
  t213 := Tryz.underlying265
  a213 := Tryz.isAgg265
  z213 := Tryz.sizeOf265
  t232 := Tryz.underlying302
  a232 := Tryz.isAgg302
  z232 := Tryz.sizeOf302
  v232 := Tryz.zeroValue302
  t233 := Tryz.underlying303
  a233 := Tryz.isAgg303
  z233 := Tryz.sizeOf303
  v233 := Tryz.zeroValue303
  g17 := by kernel_rfl
  g18 := by kernel_rfl
  g19 := by kernel_rfl
  i0 := by kernel_rfl
  i2 := by kernel_rfl
  i3 := by kernel_rfl
  i4 := by kernel_rfl
  i5 := by kernel_rfl
  i9 := by kernel_rfl
  i20 := by kernel_rfl
  i37 := by kernel_rfl
  i46 := by kernel_rfl
  i51 := by kernel_rfl
  i53 := by kernel_rfl
  i171 := by kernel_rfl
  i173 := by kernel_rfl
  i212 := by kernel_rfl
  i232 := by kernel_rfl
  i233 := by kernel_rfl
  m17 := by kernel_rfl
  m18 := by kernel_rfl
  m19 := by kernel_rfl }
open Go.RowKit Go.Sort Go.Lib in
theorem Tryz.strconv_Itoa (n : Int) (h0 : -9223372036854775808 ≤ n) (h1 : n ≤ 9223372036854775807) (w : World) (htab : Lib.TabIs Tryz.prog w "internal/strconv.uint64pow10" .u64 Lib.pow10Tab) :
    Calls Tryz.prog 48 #[.int .i64 n] w fun e w' => e = .returned (.string ⟨(Lib.itoa n).toArray⟩) ∧ ∃ k os, w' = grow (w.drewN k) os := Any.strconv_Itoa Tryz.laysM171 n h0 h1 w htab
def Tryz.laysC172_ren : Go.Shelf.Ren := ⟨fun | 172 => 111 | 244 => 155 | 245 => 156 | 247 => 197 | 279 => 198 | 280 => 199 | 281 => 200 | 282 => 201 | 287 => 231 | 316 => 232 | 171 => 48 | 205 => 233 | 321 => 256 | 322 => 257 | 243 => 100 | 246 => 145 | 283 => 187 | 284 => 188 | 285 => 189 | 286 => 190 | 129 => 221 | 317 => 222 | 318 => 223 | 319 => 224 | 320 => 225 | 337 => 252 | 338 => 253 | n => n, fun | 9 => 9 | 3 => 3 | 75 => 153 | 76 => 154 | 4 => 4 | 5 => 5 | 167 => 241 | 37 => 148 | 0 => 0 | 85 => 242 | 2 => 2 | 168 => 244 | 53 => 230 | 175 => 266 | 46 => 168 | 210 => 270 | 127 => 197 | 145 => 294 | 143 => 292 | 21 => 21 | 171 => 229 | 173 => 233 | 212 => 264 | 51 => 23 | 20 => 20 | 213 => 265 | 232 => 302 | 233 => 303 | 80 => 156 | n => n, fun | 15 => 2 | 16 => 3 | 17 => 0 | 18 => 6 | 19 => 7 | n => n⟩
theorem Tryz.laysC172 : Go.Proofs.LaysC.n172 Tryz.prog Tryz.laysC172_ren := {
  mixed := by kernel_rfl
  f129 := Tryz.func221.trans (congrArg some (by kernel_rfl))
  f171 := Tryz.func48.trans (congrArg some (by kernel_rfl))
  f172 := Tryz.func111.trans (congrArg some (by kernel_rfl))
  f205 := Tryz.func233.trans (congrArg some (by kernel_rfl))
  f243 := Tryz.func100.trans (congrArg some (by kernel_rfl))
  f244 := Tryz.func155.trans (congrArg some (by kernel_rfl))
  f245 := Tryz.func156.trans (congrArg some (by kernel_rfl))
  f246 := Tryz.func145.trans (congrArg some (by kernel_rfl))
  f247 := Tryz.func197.trans (congrArg some (by kernel_rfl))
  f279 := Tryz.func198.trans (congrArg some (by kernel_rfl))
  f280 := Tryz.func199.trans (congrArg some (by kernel_rfl))
  f281 := Tryz.func200.trans (congrArg some (by kernel_rfl))
  f282 := Tryz.func201.trans (congrArg some (by kernel_rfl))
  f283 := Tryz.func187.trans (congrArg some (by kernel_rfl))
  f284 := Tryz.func188.trans (congrArg some (by kernel_rfl))
  f285 := Tryz.func189.trans (congrArg some (by kernel_rfl))
  f286 := Tryz.func190.trans (congrArg some (by kernel_rfl))
  f287 := Tryz.func231.trans (congrArg some (by kernel_rfl))
  f316 := Tryz.func232.trans (congrArg some (by kernel_rfl))
  f317 := Tryz.func222.trans (congrArg some (by kernel_rfl))
  f318 := Tryz.func223.trans (congrArg some (by kernel_rfl))
  f319 := Tryz.func224.trans (congrArg some (by kernel_rfl))
  f320 := Tryz.func225.trans (congrArg some (by kernel_rfl))
  f321 := Tryz.func256.trans (congrArg some (by kernel_rfl))
  f322 := Tryz.func257.trans (congrArg some (by kernel_rfl))
  f337 := Tryz.func252.trans (congrArg some (by kernel_rfl))
  f338 := Tryz.func253.trans (congrArg some (by kernel_rfl))
  t0 := Tryz.underlying0
  a0 := Tryz.isAgg0
  z0 := Tryz.sizeOf0
  v0 := Tryz.zeroValue0
  t2 := Tryz.underlying2
  a2 := Tryz.isAgg2
  z2 := Tryz.sizeOf2
  v2 := Tryz.zeroValue2
  t3 := Tryz.underlying3
  a3 := Tryz.isAgg3
  z3 := Tryz.sizeOf3
  v3 := Tryz.zeroValue3
  t4 := Tryz.underlying4
  a4 := Tryz.isAgg4
  z4 := Tryz.sizeOf4
  v4 := Tryz.zeroValue4
  t5 := Tryz.underlying5
  a5 := Tryz.isAgg5
  z5 := Tryz.sizeOf5
  v5 := Tryz.zeroValue5
  t9 := Tryz.underlying9
  a9 := Tryz.isAgg9
  z9 := Tryz.sizeOf9
  v9 := Tryz.zeroValue9
  t20 := Tryz.underlying20
  a20 := Tryz.isAgg20
  z20 := Tryz.sizeOf20
  v20 := Tryz.zeroValue20
  t21 := Tryz.underlying21
  a21 := Tryz.isAgg21
  z21 := Tryz.sizeOf21
  v21 := Tryz.zeroValue21
  t37 := Tryz.underlying148
  a37 := Tryz.isAgg148
  z37 := Tryz.sizeOf148
  v37 := Tryz.zeroValue148
  t46 := Tryz.underlying168
  a46 := Tryz.isAgg168
  z46 := Tryz.sizeOf168
  v46 := Tryz.zeroValue168
  t51 := Tryz.underlying23
  a51 := Tryz.isAgg23
  z51 := Tryz.sizeOf23
  v51 := Tryz.zeroValue23
  t53 := Tryz.underlying230
  a53 := Tryz.isAgg230
  z53 := Tryz.sizeOf230
  v53 := Tryz.zeroValue230
  t75 := Tryz.underlying153
  a75 := Tryz.isAgg153
  z75 := Tryz.sizeOf153
  v75 := Tryz.zeroValue153
  t76 := Tryz.underlying154
  a76 := Tryz.isAgg154
  z76 := Tryz.sizeOf154
  v76 := Tryz.zeroValue154
  t85 := Tryz.underlying242
  a85 := Tryz.isAgg242
  z85 := Tryz.sizeOf242
  v85 := Tryz.zeroValue242
  t127 := Tryz.underlying197
  a127 := Tryz.isAgg197
  z127 := Tryz.sizeOf197
  v127 := Tryz.zeroValue197
  t143 := Tryz.underlying292
  a143 := Tryz.isAgg292
  z143 := Tryz.sizeOf292
  v143 := Tryz.zeroValue292
  t145 := Tryz.underlying294
  a145 := Tryz.isAgg294
  z145 := Tryz.sizeOf294
  v145 := Tryz.zeroValue294
  t167 := Tryz.underlying241
  a167 := Tryz.isAgg241
  z167 := Tryz.sizeOf241
  v167 := Tryz.zeroValue241
  t168 := Tryz.underlying244
  a168 := Tryz.isAgg244
  z168 := Tryz.sizeOf244
  v168 := Tryz.zeroValue244
  t171 := Tryz.underlying229
  a171 := Tryz.isAgg229
  z171 := Tryz.sizeOf229
  v171 := Tryz.zeroValue229
  t173 := Tryz.underlying233
  a173 := Tryz.isAgg233
  z173 := Tryz.sizeOf233
  v173 := Tryz.zeroValue233
  t175 := Tryz.underlying266
  a175 := Tryz.isAgg266
  z175 := Tryz.sizeOf266
  v175 := Tryz.zeroValue266
  t210 := Tryz.underlying270
  a210 := Tryz.isAgg270
  z210 := Tryz.sizeOf270
  v210 := Tryz.zeroValue270
  t212 := Tryz.underlying264
  a212 := Tryz.isAgg264
  z212 := Tryz.sizeOf264
  v212 := Tryz.zeroValue264
  t213 := Tryz.underlying265
  a213 := Tryz.isAgg265
  z213 := Tryz.sizeOf265
  t232 := Tryz.underlying302
  a232 := Tryz.isAgg302
  z232 := Tryz.sizeOf302
  v232 := Tryz.zeroValue302
  t233 := Tryz.underlying303
  a233 := Tryz.isAgg303
  z233 := Tryz.sizeOf303
  v233 := Tryz.zeroValue303
  g15 := by kernel_rfl
  g16 := by kernel_rfl
  g17 := by kernel_rfl
  g18 := by kernel_rfl
  g19 := by kernel_rfl
  t80 := Tryz.underlying156
  a80 := Tryz.isAgg156
  z80 := Tryz.sizeOf156
  v80 := Tryz.zeroValue156
  i0 := by kernel_rfl
  i2 := by kernel_rfl
  i3 := by kernel_rfl
  i4 := by kernel_rfl
  i5 := by kernel_rfl
  i9 := by kernel_rfl
  i20 := by kernel_rfl
  i21 := by kernel_rfl
  i37 := by kernel_rfl
  i46 := by kernel_rfl
  i51 := by kernel_rfl
  i53 := by kernel_rfl
  i75 := by kernel_rfl
  i76 := by kernel_rfl
  i80 := by kernel_rfl
  i85 := by kernel_rfl
  i127 := by kernel_rfl
  i143 := by kernel_rfl
  i145 := by kernel_rfl
  i167 := by kernel_rfl
  i168 := by kernel_rfl
  i171 := by kernel_rfl
  i173 := by kernel_rfl
  i175 := by kernel_rfl
  i210 := by kernel_rfl
  i212 := by kernel_rfl
  i232 := by kernel_rfl
  i233 := by kernel_rfl
  m15 := by kernel_rfl
  m16 := by kernel_rfl
  m17 := by kernel_rfl
  m18 := by kernel_rfl
  m19 := by kernel_rfl
  c0 := by kernel_rfl
  c2 := by kernel_rfl
  c3 := by kernel_rfl
  c4 := by kernel_rfl
  c5 := by kernel_rfl
  c9 := by kernel_rfl
  c20 := by kernel_rfl
  c21 := by kernel_rfl
  c37 := by kernel_rfl
  c46 := by kernel_rfl
  c51 := by kernel_rfl
  c53 := by kernel_rfl
  c75 := by kernel_rfl
  c76 := by kernel_rfl
  c80 := by kernel_rfl
  c85 := by kernel_rfl
  c127 := by kernel_rfl
  c143 := by kernel_rfl
  c145 := by kernel_rfl
  c167 := by kernel_rfl
  c168 := by kernel_rfl
  c171 := by kernel_rfl
  c173 := by kernel_rfl
  c175 := by kernel_rfl
  c210 := by kernel_rfl
  c212 := by kernel_rfl
  c213 := by kernel_rfl
  c232 := by kernel_rfl
  c233 := by kernel_rfl }
open Go.RowKit in
theorem Tryz.strconv_Atoi_ok (s : ByteArray) (hmax : s.size ≤ 9223372036854775806) (v : Int) (h : Lib.atoiAll s.data.toList = .ok v) (w : World) :
    Calls Tryz.prog 111 #[.string s] w fun e w' => e = .returned (.tuple #[.int .i64 v, .nilIface]) ∧ (w' = w ∨ ∃ t, w' = Lib.bytesWorld w 5 t) := Any.strconv_Atoi_ok Tryz.laysC172 s hmax v h w
open Go.RowKit in
theorem Tryz.strconv_Atoi_syntax_var (s : ByteArray) (hlim : s.size ≤ 281474976710656) (h : (∀ v, Lib.atoiAll s.data.toList ≠ .ok v) ∧ Lib.atoiAll s.data.toList ≠ .range) (tp : TypeId) (p : Value) (w : World) (hvar : w.var? Tryz.prog "strconv.ErrSyntax" = some #[.iface tp p]) :
    Calls Tryz.prog 111 #[.string s] w fun e w' => ∃ N, e = .returned (.tuple #[.int .i64 0, .iface 244 (.pointer (some ⟨N, 0, none⟩))]) ∧ w.heap.size ≤ N ∧ w'.heap[N]? = some (.cells #[.string ⟨#[65, 116, 111, 105]⟩, .string s, .iface tp p] 270 (0, 0)) ∧ Below w.heap.size w w' := Any.strconv_Atoi_syntax_var Tryz.laysC172 s hlim (by rcases hx : Lib.atoiAll s.data.toList with v | _ | _; exact absurd hx (h.1 v); rfl; exact absurd hx h.2) tp p w hvar
open Go.RowKit in
theorem Tryz.strconv_Atoi_range_var (s : ByteArray) (hlim : s.size ≤ 281474976710656) (h : Lib.atoiAll s.data.toList = .range) (tp : TypeId) (p : Value) (w : World) (hvar : w.var? Tryz.prog "strconv.ErrRange" = some #[.iface tp p]) :
    Calls Tryz.prog 111 #[.string s] w fun e w' => ∃ N, e = .returned (.tuple #[.int .i64 (Lib.atoiSat s.data.toList), .iface 244 (.pointer (some ⟨N, 0, none⟩))]) ∧ w.heap.size ≤ N ∧ w'.heap[N]? = some (.cells #[.string ⟨#[65, 116, 111, 105]⟩, .string s, .iface tp p] 270 (0, 0)) ∧ Below w.heap.size w w' := Any.strconv_Atoi_range_var Tryz.laysC172 s hlim h tp p w hvar
def Tryz.lays145_ren : Go.Shelf.Ren := ⟨fun | 145 => 109 | 220 => 154 | 219 => 196 | 217 => 227 | 225 => 228 | 224 => 229 | 267 => 230 | 266 => 254 | 314 => 255 | n => n, fun | 9 => 9 | 4 => 4 | 59 => 163 | 3 => 3 | 5 => 5 | 46 => 168 | 146 => 289 | 51 => 23 | n => n, fun | 1 => 1 | n => n⟩
theorem Tryz.lays145 : Go.Proofs.Lays.n145 Tryz.prog Tryz.lays145_ren := {
  mixed := by kernel_rfl
  f145 := Tryz.func109.trans (congrArg some (by kernel_rfl))
  f217 := Tryz.func227.trans (congrArg some (by kernel_rfl))
  f219 := Tryz.func196.trans (congrArg some (by kernel_rfl))
  f220 := Tryz.func154.trans (congrArg some (by kernel_rfl))
  f224 := Tryz.func229.trans (congrArg some (by kernel_rfl))
  f225 := Tryz.func228.trans (congrArg some (by kernel_rfl))
  f266 := Tryz.func254.trans (congrArg some (by kernel_rfl))
  f267 := Tryz.func230.trans (congrArg some (by kernel_rfl))
  f314 := Tryz.func255.trans (congrArg some (by kernel_rfl))
  t3 := Tryz.underlying3
  a3 := Tryz.isAgg3
  z3 := Tryz.sizeOf3
  v3 := Tryz.zeroValue3
  t4 := Tryz.underlying4
  a4 := Tryz.isAgg4
  z4 := Tryz.sizeOf4
  v4 := Tryz.zeroValue4
  t5 := Tryz.underlying5
  a5 := Tryz.isAgg5
  z5 := Tryz.sizeOf5
  v5 := Tryz.zeroValue5
  t9 := Tryz.underlying9
  a9 := Tryz.isAgg9
  z9 := Tryz.sizeOf9
  v9 := Tryz.zeroValue9
  t46 := Tryz.underlying168
  a46 := Tryz.isAgg168
  z46 := Tryz.sizeOf168
  v46 := Tryz.zeroValue168
  t51 := Tryz.underlying23
  a51 := Tryz.isAgg23
  z51 := Tryz.sizeOf23
  v51 := Tryz.zeroValue23
  t59 := Tryz.underlying163
  a59 := Tryz.isAgg163
  z59 := Tryz.sizeOf163
  v59 := Tryz.zeroValue163
  t146 := Tryz.underlying289
  a146 := Tryz.isAgg289
  z146 := Tryz.sizeOf289
  v146 := Tryz.zeroValue289
  g1 := by kernel_rfl }
open Go.RowKit Go.Lib in
theorem Tryz.strings_Cut (s sep : ByteArray) (m : Int) (w : World) (hs : s.size < 4294967281) (hm : w.cell? ⟨1, 0, none⟩ = some (.int .i64 m)) :
    Calls Tryz.prog 109 #[.string s, .string sep] w fun e w' => e = .returned (.tuple #[.string ⟨(Lib.cut s.data.toList sep.data.toList).1.toArray⟩, .string ⟨(Lib.cut s.data.toList sep.data.toList).2.1.toArray⟩, .bool (Lib.cut s.data.toList sep.data.toList).2.2]) ∧ ∃ n, w' = w.drewN n := Any.strings_Cut Tryz.lays145 s sep m w hs hm
def Tryz.lays146_ren : Go.Shelf.Ren := ⟨fun | 146 => 56 | 221 => 106 | 268 => 148 | 138 => 149 | 143 => 150 | 195 => 193 | 197 => 194 | 218 => 195 | 219 => 196 | 260 => 226 | 217 => 227 | 225 => 228 | 224 => 229 | 267 => 230 | 266 => 254 | 314 => 255 | n => n, fun | 9 => 9 | 31 => 88 | 3 => 3 | 4 => 4 | 0 => 0 | 105 => 238 | 21 => 21 | 5 => 5 | 46 => 168 | 119 => 285 | 139 => 288 | 138 => 287 | 146 => 289 | 51 => 23 | n => n, fun | 1 => 1 | 3 => 4 | 4 => 5 | n => n⟩
theorem Tryz.lays146 : Go.Proofs.Lays.n146 Tryz.prog Tryz.lays146_ren := {
  mixed := by kernel_rfl
  f138 := Tryz.func149.trans (congrArg some (by kernel_rfl))
  f143 := Tryz.func150.trans (congrArg some (by kernel_rfl))
  f146 := Tryz.func56.trans (congrArg some (by kernel_rfl))
  f195 := Tryz.func193.trans (congrArg some (by kernel_rfl))
  f197 := Tryz.func194.trans (congrArg some (by kernel_rfl))
  f217 := Tryz.func227.trans (congrArg some (by kernel_rfl))
  f218 := Tryz.func195.trans (congrArg some (by kernel_rfl))
  f219 := Tryz.func196.trans (congrArg some (by kernel_rfl))
  f221 := Tryz.func106.trans (congrArg some (by kernel_rfl))
  f224 := Tryz.func229.trans (congrArg some (by kernel_rfl))
  f225 := Tryz.func228.trans (congrArg some (by kernel_rfl))
  f260 := Tryz.func226.trans (congrArg some (by kernel_rfl))
  f266 := Tryz.func254.trans (congrArg some (by kernel_rfl))
  f267 := Tryz.func230.trans (congrArg some (by kernel_rfl))
  f268 := Tryz.func148.trans (congrArg some (by kernel_rfl))
  f314 := Tryz.func255.trans (congrArg some (by kernel_rfl))
  t0 := Tryz.underlying0
  a0 := Tryz.isAgg0
  z0 := Tryz.sizeOf0
  v0 := Tryz.zeroValue0
  t3 := Tryz.underlying3
  a3 := Tryz.isAgg3
  z3 := Tryz.sizeOf3
  v3 := Tryz.zeroValue3
  t4 := Tryz.underlying4
  a4 := Tryz.isAgg4
  z4 := Tryz.sizeOf4
  v4 := Tryz.zeroValue4
  t5 := Tryz.underlying5
  a5 := Tryz.isAgg5
  z5 := Tryz.sizeOf5
  v5 := Tryz.zeroValue5
  t9 := Tryz.underlying9
  a9 := Tryz.isAgg9
  z9 := Tryz.sizeOf9
  v9 := Tryz.zeroValue9
  t21 := Tryz.underlying21
  a21 := Tryz.isAgg21
  z21 := Tryz.sizeOf21
  v21 := Tryz.zeroValue21
  t31 := Tryz.underlying88
  a31 := Tryz.isAgg88
  z31 := Tryz.sizeOf88
  v31 := Tryz.zeroValue88
  t46 := Tryz.underlying168
  a46 := Tryz.isAgg168
  z46 := Tryz.sizeOf168
  v46 := Tryz.zeroValue168
  t51 := Tryz.underlying23
  a51 := Tryz.isAgg23
  z51 := Tryz.sizeOf23
  v51 := Tryz.zeroValue23
  t105 := Tryz.underlying238
  a105 := Tryz.isAgg238
  z105 := Tryz.sizeOf238
  v105 := Tryz.zeroValue238
  t119 := Tryz.underlying285
  a119 := Tryz.isAgg285
  z119 := Tryz.sizeOf285
  t138 := Tryz.underlying287
  a138 := Tryz.isAgg287
  z138 := Tryz.sizeOf287
  v138 := Tryz.zeroValue287
  t139 := Tryz.underlying288
  a139 := Tryz.isAgg288
  z139 := Tryz.sizeOf288
  v139 := Tryz.zeroValue288
  t146 := Tryz.underlying289
  a146 := Tryz.isAgg289
  z146 := Tryz.sizeOf289
  v146 := Tryz.zeroValue289
  g1 := by kernel_rfl
  g3 := by kernel_rfl
  g4 := by kernel_rfl }
open Go.RowKit Go.Lib in
theorem Tryz.strings_Split (s sep : ByteArray) (m : Int) (w : World) (hs : s.size < 4294967281) (hm : w.cell? ⟨1, 0, none⟩ = some (.int .i64 m)) (h1 : 1 ≤ sep.size) :
    Calls Tryz.prog 56 #[.string s, .string sep] w fun e w' =>
      e = .returned (.slice (some ⟨w.heap.size, 0, none⟩) (Lib.countB s sep + 1) (Lib.countB s sep + 1)) ∧ w' = w.alloc (.cells ((Lib.splitB sep 0 (Lib.countB s sep) s).map Value.string).toArray 9) := Any.strings_Split Tryz.lays146 (by kernel_rfl) s sep m w hs hm h1
end Go.Proofs
end
section
namespace Go.Proofs.YtfjamikpahmfhaaGreatDoor.P
set_option linter.unusedVariables false
set_option linter.unusedSimpArgs false
open Go.RowKit Go.Proofs.YtfjamikpahmfhaaGreatDoorW.PrintWords Go.Proofs.YtfjamikpahmfhaaGreatDoorW.PrintLast Go.Proofs.YtfjamikpahmfhaaGreatDoorW.PrintMore
structure Laid (w : World) : Prop where
  maxLen : ∃ m : Int, w.cell? ⟨1, 0, none⟩ = some (.int .i64 m)
  pow10 : Lib.TabIs Tryz.prog w "internal/strconv.uint64pow10" .u64 Lib.pow10Tab
  syn : ∃ tp p, w.var? Tryz.prog "strconv.ErrSyntax" = some #[.iface tp p]
  rng : ∃ tp p, w.var? Tryz.prog "strconv.ErrRange" = some #[.iface tp p]
  ctz : TabAt 7 Lib.deBruijn64tab w
  room : 8 ≤ w.heap.size
theorem Laid.belowB {B : Nat} {w w' : World} (h : Laid w) (hB : 8 ≤ B) (hb : Below B w w') : Laid w' where
  maxLen := by
    obtain ⟨m, hm⟩ := h.maxLen
    exact ⟨m, (hb.cell (p := ⟨1, 0, none⟩) (Nat.lt_of_lt_of_le (by decide) hB)).trans hm⟩
  pow10 := var?_below hb (g := 0) (by kernel_rfl) (Nat.lt_of_lt_of_le (by decide) hB) h.pow10
  syn := by
    obtain ⟨t, p, hm⟩ := h.syn
    exact ⟨t, p, var?_below hb (g := 2) (by kernel_rfl) (Nat.lt_of_lt_of_le (by decide) hB) hm⟩
  rng := by
    obtain ⟨t, p, hm⟩ := h.rng
    exact ⟨t, p, var?_below hb (g := 3) (by kernel_rfl) (Nat.lt_of_lt_of_le (by decide) hB) hm⟩
  ctz := fun j hj => (hb.cell (p := ⟨7, j, none⟩) (Nat.lt_of_lt_of_le (show 7 < 8 by decide) hB)).trans (h.ctz j hj)
  room := Nat.le_trans h.room hb.size
theorem Laid.below {w w' : World} (h : Laid w) (hb : Below w.heap.size w w') : Laid w' := h.belowB h.room hb
theorem below_growN (w : World) (n : Nat) (os : Array Obj) : Below w.heap.size w (Sort.grow (w.drewN n) os) := Lib.below_grow w.heap.size w (Nat.le_refl _) n os
theorem itoa_calls (n : Int) (w : World) (HLd : Laid w) (h0 : -9223372036854775808 ≤ n) (h1 : n ≤ 9223372036854775807) :
    Calls Tryz.prog 48 #[.int .i64 n] w fun e w' => e = .returned (.string ⟨(Lib.itoa n).toArray⟩) ∧ Below w.heap.size w w' :=
  (Tryz.strconv_Itoa n h0 h1 w HLd.pow10).mono fun e w' ⟨he, k, os, hw⟩ => ⟨he, by rw [hw]; exact below_growN w k os⟩
theorem atoi_bounds {l : List UInt8} {v : Int} (h : Lib.atoiAll l = .ok v) : -9223372036854775808 ≤ v ∧ v ≤ 9223372036854775807 := by
  unfold Lib.atoiAll at h
  split at h
  · cases h
  · rename_i c r
    dsimp only at h
    split at h
    · cases h
    · cases h
    · rename_i u hu
      split at h
      · cases h
      · rename_i h1
        split at h
        · cases h
        · rename_i h2
          injection h with h
          by_cases hc : c.toNat = 45
          · rw [if_pos hc] at h
            have := not_and.mp h2 hc
            omega
          · rw [if_neg hc] at h
            have := not_and.mp h1 hc
            omega
def atoiV (s : ByteArray) : Int × Bool :=
  match Lib.atoiAll s.data.toList with
  | .ok v => (v, true)
  | .range => (Lib.atoiSat s.data.toList, false)
  | _ => (0, false)
theorem atoiV_bounds (s : ByteArray) : -9223372036854775808 ≤ (atoiV s).1 ∧ (atoiV s).1 ≤ 9223372036854775807 := by
  unfold atoiV
  split
  · rename_i v h
    exact atoi_bounds h
  · unfold Lib.atoiSat
    split <;> exact ⟨by decide, by decide⟩
  · exact ⟨by decide, by decide⟩
theorem atoi_ok (s : ByteArray) (w : World) (hs : s.size ≤ 281474976710656) (h : (atoiV s).2 = true) :
    Calls Tryz.prog 111 #[.string s] w fun e w' => e = .returned (.tuple #[.int .i64 (atoiV s).1, .nilIface]) ∧ Below w.heap.size w w' := by
  unfold atoiV at h ⊢
  split at h
  · rename_i v hv
    refine (Tryz.strconv_Atoi_ok s (by omega) v hv w).mono fun e w' hh => ?_
    obtain ⟨he, hw | ⟨t, hw⟩⟩ := hh
    · exact ⟨he, by rw [hw]; exact Below.refl _ _⟩
    · exact ⟨he, by rw [hw]; exact Lib.bytesWorld_below w _ t⟩
  · cases h
  · cases h
theorem atoi_err (s : ByteArray) (w : World) (HLd : Laid w) (hs : s.size ≤ 281474976710656) (h : (atoiV s).2 = false) :
    Calls Tryz.prog 111 #[.string s] w fun e w' => ∃ N, e = .returned (.tuple #[.int .i64 (atoiV s).1, .iface 244 (.pointer (some ⟨N, 0, none⟩))]) ∧ Below w.heap.size w w' := by
  unfold atoiV at h ⊢
  split at h
  · cases h
  · rename_i hv
    obtain ⟨tp, p, hp⟩ := HLd.rng
    refine (Tryz.strconv_Atoi_range_var s hs hv tp p w hp).mono fun e w' hh => ?_
    obtain ⟨N, he, _, _, hb⟩ := hh
    exact ⟨N, he, hb⟩
  · rename_i hv1 hv2
    obtain ⟨tp, p, hp⟩ := HLd.syn
    refine (Tryz.strconv_Atoi_syntax_var s hs ⟨hv1, hv2⟩ tp p w hp).mono fun e w' hh => ?_
    obtain ⟨N, he, _, _, hb⟩ := hh
    exact ⟨N, he, hb⟩
end Go.Proofs.YtfjamikpahmfhaaGreatDoor.P
end
section
namespace Go.Proofs.YtfjamikpahmfhaaGreatDoor.P
open Go.RowKit Go.Proofs.YtfjamikpahmfhaaGreatDoorW.PrintWords Go.Proofs.YtfjamikpahmfhaaGreatDoorW.PrintLast Go.Proofs.YtfjamikpahmfhaaGreatDoorW.PrintMore
set_option linter.unusedVariables false
def prefix_number.f (a0 : ByteArray) (a1 : Int) : Option (Int × Bool) :=
  if a0.size ≤ 281474976710656 then some ((atoiV a0).1, (atoiV a0).2 && (decide (0 ≤ (atoiV a0).1) && (decide ((atoiV a0).1 ≤ a1) && (Lib.itoa (atoiV a0).1 == a0.toList)))) else none
set_option maxHeartbeats 400000 in
theorem prefix_number.calls (a0 : ByteArray) (a1 : Int) (r1 : Int) (r2 : Bool) (w : World) (HLd : Laid w) (h : prefix_number.f a0 a1 = some (r1, r2)) :
    Calls Tryz.prog 151 #[.string a0, .int .i64 a1] w fun e w' => e = .returned (.tuple #[.int .i64 r1, .bool r2]) ∧ Below w.heap.size w w' := by
  unfold prefix_number.f at h
  split at h
  case isFalse => cases h
  rename_i hs
  have hh := Option.some.inj h
  clear h
  obtain ⟨rfl, rfl⟩ := Prod.mk.inj hh
  clear hh
  obtain ⟨b1, b2⟩ := atoiV_bounds a0
  cases hok : (atoiV a0).2
  · have A0 := atoi_err a0 w HLd hs hok
    clear hok
    generalize (atoiV a0).1 = v at *
    go_enter Tryz.func151, Tryz.ntmps151
    go_wp2_with (go_at_call 111; refine A0.mono ?_; rintro e w1 ⟨N, rfl, hb⟩)
    go_ret2
    exact ⟨rfl, hb⟩
  · have A0 := atoi_ok a0 w hs hok
    clear hok
    generalize (atoiV a0).1 = v at *
    by_cases c1 : 0 ≤ v
    · by_cases c2 : v ≤ a1
      · have d1 : decide (0 ≤ v) = true := decide_eq_true c1
        have d2 : decide (v ≤ a1) = true := decide_eq_true c2
        go_enter Tryz.func151, Tryz.ntmps151
        go_wp2_with (first | (go_at_call 111; refine A0.mono ?_; rintro e w1 ⟨rfl, hb⟩) | (go_at_call 48; refine (itoa_calls _ _ (HLd.below hb) b1 b2).mono ?_; rintro e w2 ⟨rfl, hb2⟩))
        go_ret2
        refine ⟨?_, hb.trans (hb2.mono hb.size)⟩
        rw [d1, d2]; rfl
      · have d1 : decide (0 ≤ v) = true := decide_eq_true c1
        have d2 : decide (v ≤ a1) = false := decide_eq_false c2
        go_enter Tryz.func151, Tryz.ntmps151
        go_wp2_with (go_at_call 111; refine A0.mono ?_; rintro e w1 ⟨rfl, hb⟩)
        go_ret2
        exact ⟨by rw [d1, d2]; rfl, hb⟩
    · have d1 : decide (0 ≤ v) = false := decide_eq_false c1
      go_enter Tryz.func151, Tryz.ntmps151
      go_wp2_with (go_at_call 111; refine A0.mono ?_; rintro e w1 ⟨rfl, hb⟩)
      go_ret2
      exact ⟨by rw [d1]; rfl, hb⟩
def rule_number.f (a0 : ByteArray) : Option Int := if a0.size ≤ 281474976710656 then some (if (atoiV a0).2 && (Lib.itoa (atoiV a0).1 == a0.toList) then (atoiV a0).1 else -1) else none
set_option maxHeartbeats 400000 in
theorem rule_number.calls (a0 : ByteArray) (r : Int) (w : World) (HLd : Laid w) (h : rule_number.f a0 = some r) :
    Calls Tryz.prog 59 #[.string a0] w fun e w' => e = .returned (.int .i64 r) ∧ Below w.heap.size w w' := by
  unfold rule_number.f at h
  split at h
  case isFalse => cases h
  rename_i hs
  have hh := Option.some.inj h
  clear h
  subst hh
  obtain ⟨b1, b2⟩ := atoiV_bounds a0
  cases hok : (atoiV a0).2
  · have A0 := atoi_err a0 w HLd hs hok
    clear hok
    generalize (atoiV a0).1 = v at *
    go_enter Tryz.func59, Tryz.ntmps59
    go_wp2_with (go_at_call 111; refine A0.mono ?_; rintro e w1 ⟨N, rfl, hb⟩)
    go_ret
    exact ⟨rfl, hb⟩
  · have A0 := atoi_ok a0 w hs hok
    clear hok
    generalize (atoiV a0).1 = v at *
    cases hc : Lib.itoa v == a0.toList
    all_goals
      have hc2 : (!(Lib.itoa v == a0.toList)) = _ := congrArg Bool.not hc
      go_enter Tryz.func59, Tryz.ntmps59
      go_wp2_with (first | (go_at_call 111; refine A0.mono ?_; rintro e w1 ⟨rfl, hb⟩) | (go_at_call 48; refine (itoa_calls _ _ (HLd.below hb) b1 b2).mono ?_; rintro e w2 ⟨rfl, hb2⟩))
      go_ret
      exact ⟨rfl, hb.trans (hb2.mono hb.size)⟩
end Go.Proofs.YtfjamikpahmfhaaGreatDoor.P
end
section
namespace Go.Proofs.YtfjamikpahmfhaaGreatDoor.P
open Go.RowKit Go.Proofs.YtfjamikpahmfhaaGreatDoorW.PrintWords Go.Proofs.YtfjamikpahmfhaaGreatDoorW.PrintLast Go.Proofs.YtfjamikpahmfhaaGreatDoorW.PrintMore
set_option linter.unusedVariables false
theorem R_new_row {α : Type} (enc : α → Value) (h1 : ∀ x, (enc x).oneCell' = true) (w : World) (e : Nat) (xs : List α) (hl : xs.length ≤ 9223372036854775807) :
    (Kd.scalar enc h1).R e (w.alloc (.cells (xs.map enc).toArray e)) w.heap.size (fun _ => True) (.slice (some ⟨w.heap.size, 0, none⟩) xs.length xs.length) xs := by
  refine ⟨fun _ _ => trivial, xs.map enc, ?_, ?_⟩
  · have h2 := World.ownsRow_lit (base := w.heap.size) (e := e) (size := 1) w (xs.map enc).toArray xs.length (Nat.le_refl _) (by simpa [maxLen] using hl) (by simp)
    simpa [Kd.scalar] using h2
  · exact Kd.reps_scalar xs
def strings_Split.f (a0 a1 : ByteArray) : Option (List ByteArray) := if a0.size < 4294967281 ∧ 1 ≤ a1.size then some (Lib.splitB a1 0 (Lib.countB a0 a1) a0) else none
theorem strings_Split.calls (a0 a1 : ByteArray) (r : List ByteArray) (w : World) (HLd : Laid w) (h : strings_Split.f a0 a1 = some r) :
    Calls Tryz.prog 56 #[.string a0, .string a1] w fun e w' => ∃ v0_ : Value, e = .returned (v0_) ∧ Kd.R Kd.string 9 w' w.heap.size (fun _ => True) v0_ r ∧ Below w.heap.size w w' := by
  unfold strings_Split.f at h
  split at h
  · rename_i hb
    have hr := Option.some.inj h
    obtain ⟨m, hm⟩ := HLd.maxLen
    have hlen : (Lib.splitB a1 0 (Lib.countB a0 a1) a0).length = Lib.countB a0 a1 + 1 := Lib.splitB_all a1 hb.2 0 _ a0 rfl
    refine (Tryz.strings_Split a0 a1 m w hb.1 hm hb.2).mono fun e w' hh => ?_
    obtain ⟨he, hw⟩ := hh
    rw [hr] at hw hlen
    refine ⟨_, he, ?_, by rw [hw]; exact (Below.refl _ _).alloc (Nat.le_refl _) _⟩
    rw [hw, ← hlen]
    refine R_new_row Value.string (fun _ => rfl) w 9 r ?_
    rw [hlen]
    have h3 := Lib.countB_le a1 hb.2 a0.size a0 (Nat.le_refl _)
    omega
  · cases h
def strings_Cut.f (a0 a1 : ByteArray) : Option (ByteArray × ByteArray × Bool) :=
  if a0.size < 4294967281 then some (⟨(Lib.cut a0.data.toList a1.data.toList).1.toArray⟩, ⟨(Lib.cut a0.data.toList a1.data.toList).2.1.toArray⟩, (Lib.cut a0.data.toList a1.data.toList).2.2) else none
theorem strings_Cut.calls (a0 a1 : ByteArray) (r1 r2 : ByteArray) (r3 : Bool) (w : World) (HLd : Laid w) (h : strings_Cut.f a0 a1 = some (r1, r2, r3)) :
    Calls Tryz.prog 109 #[.string a0, .string a1] w fun e w' => e = .returned (.tuple #[.string r1, .string r2, .bool r3]) ∧ Below w.heap.size w w' := by
  unfold strings_Cut.f at h
  split at h
  · rename_i hb
    have hh := Option.some.inj h
    obtain ⟨e1, h2⟩ := Prod.mk.inj hh
    obtain ⟨e2, e3⟩ := Prod.mk.inj h2
    obtain ⟨m, hm⟩ := HLd.maxLen
    refine (Tryz.strings_Cut a0 a1 m w hb hm).mono fun e w' hq => ?_
    obtain ⟨he, n, hw⟩ := hq
    rw [e1, e2, e3] at he
    exact ⟨he, by rw [hw]; exact below_drewN (Below.refl _ _) n⟩
  · cases h
end Go.Proofs.YtfjamikpahmfhaaGreatDoor.P
end
section
open List renaming map_toArray → mA_, map_cons → mC_, map_nil → mN_, length_drop → lD_, length_take → lT_, setIfInBounds_toArray → sI_, set_cons_zero → z0_, set_cons_succ → z1_
namespace Go.Proofs.YtfjamikpahmfhaaGreatDoor.P
open Go.RowKit Go.Proofs.YtfjamikpahmfhaaGreatDoorW.PrintWords Go.Proofs.YtfjamikpahmfhaaGreatDoorW.PrintLast Go.Proofs.YtfjamikpahmfhaaGreatDoorW.PrintMore
attribute [local go_sem] max2_int min2_int max_two min_two max_three min_three max_four min_four
set_option linter.unusedVariables false
set_option linter.unusedSimpArgs false
def prefix_ParseAddr.l0 : Nat → Int → List ByteArray → Int → Int → Option (Int × Int)
 | 0, _, _, _, _ => none
 | k + 1, x5, x15, x16, x17 => if x17 < x16 then (if 0 ≤ x17 then (if x17 < (x15.length : Int) then ((prefix_number.f (rdOf ByteArray.empty x15 x17) 255).bind fun bt394 => (if bt394.2 = true then (prefix_ParseAddr.l0 k (Go.bits .or .u32 ((x5 * 256) % 4294967296) ((bt394.1) % 4294967296)) x15 x16 (wrap64 (x17 + 1))) else (some (0, 21)))) else (none)) else (none)) else (some (x5, 0))
def prefix_ParseAddr.f (k : Nat) (a0 : ByteArray) : Option (Int × Int) := (strings_Split.f a0 (⟨#[46]⟩ : ByteArray)).bind fun t390 => (if (t390.length : Int) = 4 then (prefix_ParseAddr.l0 k 0 t390 (t390.length : Int) 0) else (some (0, 21)))
set_option maxHeartbeats 8000000 in
set_option maxRecDepth 100000 in
theorem prefix_ParseAddr.calls (k : Nat) (a0 : ByteArray) (r1 : Int) (r2 : Int) (w : World) (HLd : Laid w) (h : prefix_ParseAddr.f k a0 = some (r1, r2)) :
  Calls Tryz.prog 110 #[.string a0] w fun e w' => e = .returned (.tuple #[.int .u32 r1, .int .i64 r2]) ∧ Below w.heap.size w w' := by
 have HB := Aside0.mk (Below.refl w.heap.size w)
 have H : ((strings_Split.f a0 (⟨#[46]⟩ : ByteArray)).bind fun t390 => (if (t390.length : Int) = 4 then (prefix_ParseAddr.l0 k 0 t390 (t390.length : Int) 0) else (some (0, 21)))) = some (r1, r2) := h
 clear h
 replace H := Option.bind_eq_some_iff.mp H
 obtain ⟨t390, A20, H⟩ := H
 try dsimp only at H
 have A2 := Aside0.mk A20
 clear A20
 by_cases c3 : (t390.length : Int) = 4
 ·rw [if_pos c3] at H
  have c3b0 : ((t390.length : Int) == 4) = true := beq_iff_eq.mpr c3
  have c3b1 : ((t390.length : Int) != 4) = false := bne_eq_false_iff_eq.mpr c3
  clear c3
  have H' := Aside0.mk H
  clear H
  go_enter Tryz.func110, Tryz.ntmps110
  go_wp2_with (first | ((with_reducible refine gate_callee (f := 56) rfl ?_); refine goesL_ (some 11) rfl rfl Tryz.func56 (by kernel_rfl) rfl #[.string a0, .string (⟨#[46]⟩ : ByteArray)] rfl (by (try simp only [mA_, mC_, mN_]); first|done|rfl|(simp only [lD_, lT_]; rfl)) ?_; (with_reducible refine (strings_Split.calls a0 (⟨#[46]⟩ : ByteArray) t390 _ ?side1 A2.out).mono ?_); (case side1 => exact HLd.below (gB HB.out)); rintro e w4 ⟨v391, rfl, ho0, hb⟩; refine ⟨_, rfl, ?_⟩; have n0_ := Aside0.mk (Kd.R_lower ho0 (below_size (gB HB.out))); have n1_ := Aside0.mk (below_step (gB HB.out) hb); clear HB; have HO392 := n0_; have HB := n1_; clear n0_ n1_; (try clear hb); (try clear hb2); (try clear hk); (try clear hi); (try clear ho0); obtain ⟨Ao5, co5, eo5⟩ := Kd.R_slice HO392.out; subst eo5))
  go_loopg [5, 17] k (fun kq v5 v17 w' => ∃ (x5_1 : Int) (x17_1 : Int), v5 = .int .u32 x5_1 ∧ v17 = .int .i64 x17_1 ∧ Aside0 (prefix_ParseAddr.l0 kq x5_1 t390 (t390.length : Int) x17_1 = some (r1, r2)) ∧ Aside0 (kq ≤ k) ∧ Aside0 (Kd.R Kd.string 9 w' w.heap.size (fun _ => True) (.slice Ao5 t390.length co5) t390) ∧ Aside0 (Below w.heap.size w w'))
  case atStart => exact ⟨(0), (0), (by first | rfl | (simp; done) | (simp [*]; done)), (by first | rfl | (simp; done) | (simp [*]; done)), H', ⟨Nat.le_refl _⟩, ⟨gR HO392.out⟩, ⟨gB HB.out⟩⟩
  case round =>
   clear H'
   try clear c1
   try clear p2
   try clear c3
   try clear c3b0
   try clear c3b1
   try clear c5
   obtain ⟨x5_1, x17_1, rfl, rfl, HA, HK1, HO_15, HB⟩ := hrel
   cases gk with
   | zero => exact absurd HA.out (by simp [prefix_ParseAddr.l0])
   | succ k1 =>
    have H := HA.out
    clear HA
    simp only [prefix_ParseAddr.l0] at H
    by_cases c6 : x17_1 < (t390.length : Int)
    ·rw [if_pos c6] at H
     have c6b0 : decide (x17_1 < (t390.length : Int)) = true := decide_eq_true c6
     clear c6
     by_cases c7 : 0 ≤ x17_1
     ·rw [if_pos c7] at H
      have c7b0 : decide (0 ≤ x17_1) = true := decide_eq_true c7
      clear c7
      by_cases c8 : x17_1 < (t390.length : Int)
      ·rw [if_pos c8] at H
       have c8b0 : decide (x17_1 < (t390.length : Int)) = true := decide_eq_true c8
       clear c8
       replace H := Option.bind_eq_some_iff.mp H
       obtain ⟨⟨t394, t395⟩, A90, H⟩ := H
       try dsimp only at H
       have A9 := Aside0.mk A90
       clear A90
       by_cases c10 : t395 = true
       ·subst c10
        rw [if_pos rfl] at H
        have H' := Aside0.mk H
        clear H
        have p393 : 0 ≤ (x17_1 : Int) := of_decide_eq_true (by first | (with_reducible assumption) | assumption)
        have q393 : x17_1 < (t390.length : Int) := of_decide_eq_true (by first | (with_reducible assumption) | assumption)
        obtain ⟨ad393, e393, hx393_0⟩ := Kd.at_string (Kd.R_reads' HO_15.out).2.2 x17_1 p393 q393
        cases e393
        replace p393 := eq_true p393
        replace q393 := eq_true q393
        go_wp2_with (first | ((with_reducible refine gate_callee (f := 151) rfl ?_); refine goesL_ (some 23) rfl rfl Tryz.func151 (by kernel_rfl) rfl #[.string (rdOf ByteArray.empty t390 x17_1), .int .i64 255] rfl (by (try simp only [mA_, mC_, mN_]); first|done|rfl|(simp only [lD_, lT_]; rfl)) ?_; (with_reducible refine (prefix_number.calls (rdOf ByteArray.empty t390 x17_1) 255 t394 true _ ?side1 A9.out).mono ?_); (case side1 => exact HLd.below (gB HB.out)); rintro e w11 ⟨rfl, hb⟩; refine ⟨_, rfl, ?_⟩; have n0_ := Aside0.mk (Kd.R_below (gR HO_15.out) hb); have n1_ := Aside0.mk (below_step (gB HB.out) hb); clear HO_15; clear HB; have HO_15 := n0_; have HB := n1_; clear n0_ n1_; (try clear hb); (try clear hb2); (try clear hk); (try clear hi)))
        go_roundg k1
        case measure => have := HK1.out; omega
        case rel => exact ⟨(Go.bits .or .u32 ((x5_1 * 256) % 4294967296) ((t394) % 4294967296)), (wrap64 (x17_1 + 1)), (by first | rfl | (simp; done) | (simp [*]; done)), (by first | rfl | (simp; done) | (simp [*]; done)), H', ⟨by have := HK1.out; omega⟩, ⟨gR HO_15.out⟩, ⟨gB HB.out⟩⟩
       ·replace c10 := Bool.eq_false_iff.mpr c10
        subst c10
        rw [if_neg (show ¬ (false = true) by decide)] at H
        simp only [Option.some.injEq, Prod.mk.injEq] at H
        obtain ⟨rfl, rfl⟩ := H
        have p393 : 0 ≤ (x17_1 : Int) := of_decide_eq_true (by first | (with_reducible assumption) | assumption)
        have q393 : x17_1 < (t390.length : Int) := of_decide_eq_true (by first | (with_reducible assumption) | assumption)
        obtain ⟨ad393, e393, hx393_0⟩ := Kd.at_string (Kd.R_reads' HO_15.out).2.2 x17_1 p393 q393
        cases e393
        replace p393 := eq_true p393
        replace q393 := eq_true q393
        go_wp2_with (first | ((with_reducible refine gate_callee (f := 151) rfl ?_); refine goesL_ (some 23) rfl rfl Tryz.func151 (by kernel_rfl) rfl #[.string (rdOf ByteArray.empty t390 x17_1), .int .i64 255] rfl (by (try simp only [mA_, mC_, mN_]); first|done|rfl|(simp only [lD_, lT_]; rfl)) ?_; (with_reducible refine (prefix_number.calls (rdOf ByteArray.empty t390 x17_1) 255 t394 false _ ?side1 A9.out).mono ?_); (case side1 => exact HLd.below (gB HB.out)); rintro e w12 ⟨rfl, hb⟩; refine ⟨_, rfl, ?_⟩; have n0_ := Aside0.mk (Kd.R_below (gR HO_15.out) hb); have n1_ := Aside0.mk (below_step (gB HB.out) hb); clear HO_15; clear HB; have HO_15 := n0_; have HB := n1_; clear n0_ n1_; (try clear hb); (try clear hb2); (try clear hk); (try clear hi)))
        go_ret2
        exact ⟨by first | rfl | (simp [errW_none, errW_some] <;> rfl) | (simp [*, errW_none, errW_some] <;> rfl), gB HB.out⟩
      ·rw [if_neg c8] at H
       exact absurd H (by simp)
     ·rw [if_neg c7] at H
      exact absurd H (by simp)
    ·rw [if_neg c6] at H
     have c6b0 : decide (x17_1 < (t390.length : Int)) = false := decide_eq_false c6
     clear c6
     simp only [Option.some.injEq, Prod.mk.injEq] at H
     obtain ⟨rfl, rfl⟩ := H
     go_wp2
     go_ret2
     exact ⟨by first | rfl | (simp [errW_none, errW_some] <;> rfl) | (simp [*, errW_none, errW_some] <;> rfl), gB HB.out⟩
 ·rw [if_neg c3] at H
  have c3b0 : ((t390.length : Int) == 4) = false := beq_eq_false_iff_ne.mpr c3
  have c3b1 : ((t390.length : Int) != 4) = true := bne_iff_ne.mpr c3
  simp only [Option.some.injEq, Prod.mk.injEq] at H
  obtain ⟨rfl, rfl⟩ := H
  go_enter Tryz.func110, Tryz.ntmps110
  go_wp2_with (first | ((with_reducible refine gate_callee (f := 56) rfl ?_); refine goesL_ (some 11) rfl rfl Tryz.func56 (by kernel_rfl) rfl #[.string a0, .string (⟨#[46]⟩ : ByteArray)] rfl (by (try simp only [mA_, mC_, mN_]); first|done|rfl|(simp only [lD_, lT_]; rfl)) ?_; (with_reducible refine (strings_Split.calls a0 (⟨#[46]⟩ : ByteArray) t390 _ ?side1 A2.out).mono ?_); (case side1 => exact HLd.below (gB HB.out)); rintro e w13 ⟨v391, rfl, ho0, hb⟩; refine ⟨_, rfl, ?_⟩; have n0_ := Aside0.mk (Kd.R_lower ho0 (below_size (gB HB.out))); have n1_ := Aside0.mk (below_step (gB HB.out) hb); clear HB; have HO392 := n0_; have HB := n1_; clear n0_ n1_; (try clear hb); (try clear hb2); (try clear hk); (try clear hi); (try clear ho0); obtain ⟨Ao14, co14, eo14⟩ := Kd.R_slice HO392.out; subst eo14))
  go_ret2
  exact ⟨by first | rfl | (simp [errW_none, errW_some] <;> rfl) | (simp [*, errW_none, errW_some] <;> rfl), gB HB.out⟩
def prefix_mask.f (a0 : Int) : Option (Int) := if 0 ≤ (wrap64 (32 - a0)) then (some ((IntKind.u64.wrap ((shl .u64 1 (wrap64 (32 - a0))) - 1)) % 4294967296)) else (none)
set_option maxHeartbeats 8000000 in
set_option maxRecDepth 100000 in
theorem prefix_mask.calls (a0 : Int) (r : Int) (w : World) (h : prefix_mask.f a0 = some r) :
  Calls Tryz.prog 153 #[.int .i64 a0] w fun e w' => e = .returned (.int .u32 r) ∧ Drawn0 w w' := by
 have H : (if 0 ≤ (wrap64 (32 - a0)) then (some ((IntKind.u64.wrap ((shl .u64 1 (wrap64 (32 - a0))) - 1)) % 4294967296)) else (none)) = some r := h
 clear h
 obtain ⟨ji2, hji2⟩ : ∃ j_ : Int, (wrap64 (32 - a0)) = j_ := ⟨_, rfl⟩
 replace H : (if 0 ≤ (ji2) then (some ((IntKind.u64.wrap ((shl .u64 1 (ji2)) - 1)) % 4294967296)) else (none)) = some r := by first | (rw [hji2] at H; exact H) | (simp only [hji2] at H ⊢; exact H)
 have hji2w : (IntKind.i64.wrap (32 - a0)) = ji2 := (i64_w _).trans hji2
 by_cases c3 : 0 ≤ (ji2)
 ·rw [if_pos c3] at H
  have c3b0 := eq_true c3
  have c3b1 : decide (0 ≤ (ji2)) = true := decide_eq_true c3
  clear c3
  obtain ⟨ji4, hji4⟩ : ∃ j_ : Int, (shl .u64 1 (ji2)) = j_ := ⟨_, rfl⟩
  replace H : (some ((IntKind.u64.wrap ((ji4) - 1)) % 4294967296)) = some r := by first | (rw [hji4] at H; exact H) | (simp only [hji4] at H ⊢; exact H)
  have hji4_ : (IntKind.u64.wrap (1 * 2 ^ min (ji2).toNat 64)) = ji4 := hji4
  have hji4z : (ji2) ≤ 64 → (IntKind.u64.wrap (1 * 2 ^ (ji2).toNat)) = ji4 := shl_small hji4
  have hji4u : (IntKind.u64.wrap (2 ^ min (ji2).toNat 64)) = ji4 := by have h_ := hji4_; rw [Int.one_mul] at h_; exact h_
  have hji4v : (ji2) ≤ 64 → (IntKind.u64.wrap (2 ^ (ji2).toNat)) = ji4 := fun hle_ => by have h_ := hji4z hle_; rw [Int.one_mul] at h_; exact h_
  obtain rfl := Option.some.inj H
  go_enter Tryz.func153, Tryz.ntmps153
  go_wp2
  go_ret
  exact ⟨by first | rfl | (simp; done) | (simp only [← hji2, ← hji4] <;> (first | rfl | simp)) | (simp [*]; done), by repeat (first | exact Drawn0.refl _ | apply Drawn0.step)⟩
 ·rw [if_neg c3] at H
  exact absurd H (by simp)
def prefix_Right.f (a0_0 : Int) (a0_1 : Int) : Option (Bool) := if a0_1 ≥ 0 then (if a0_1 ≤ 32 then ((prefix_mask.f a0_1).bind fun t397 => (some ((Go.bits .and .u32 a0_0 t397) == 0))) else (some false)) else (some false)
set_option maxHeartbeats 8000000 in
set_option maxRecDepth 100000 in
theorem prefix_Right.calls (a0_0 : Int) (a0_1 : Int) (r : Bool) (w : World) (h : prefix_Right.f a0_0 a0_1 = some r) :
  Calls Tryz.prog 152 #[.agg #[.int .u32 a0_0, .int .i64 a0_1]] w fun e w' => e = .returned (.bool r) ∧ Below w.heap.size w w' := by
 have hu159 := Tryz.underlying159
 have HB := Aside0.mk (Below.refl w.heap.size w)
 have H : (if a0_1 ≥ 0 then (if a0_1 ≤ 32 then ((prefix_mask.f a0_1).bind fun t397 => (some ((Go.bits .and .u32 a0_0 t397) == 0))) else (some false)) else (some false)) = some r := h
 clear h
 by_cases c2 : a0_1 ≥ 0
 ·rw [if_pos c2] at H
  have c2b0 : decide (0 ≤ a0_1) = true := decide_eq_true c2
  clear c2
  by_cases c3 : a0_1 ≤ 32
  ·rw [if_pos c3] at H
   have c3b0 : decide (a0_1 ≤ 32) = true := decide_eq_true c3
   clear c3
   replace H := Option.bind_eq_some_iff.mp H
   obtain ⟨t397, A40, H⟩ := H
   try dsimp only at H
   have A4 := Aside0.mk A40
   clear A40
   obtain rfl := Option.some.inj H
   go_enter Tryz.func152, Tryz.ntmps152
   go_wp2_with (first | ((with_reducible refine gate_dst (N := 1) rfl ?_); refine box_event ?hg (N := 1) ?hd (cs := #[.int .u32 a0_0, .int .i64 a0_1]) (t := 159) ?hr ?_; (case hd => rfl); (case hg => rfl); (case hr => first | (go_simp; done) | (go_simp; rfl)); intro gb396 hg w5 hbox hb; have n0_ := Aside0.mk (below_step (gB HB.out) hb); have n1_ := Aside0.mk (hbox); have n2_ := Aside0.mk ((by rw [hg]; exact (below_size (gB HB.out)) : w.heap.size ≤ gb396)); have n3_ := Aside0.mk ((by rw [hg]; exact (below_size (gB HB.out)) : w.heap.size ≤ gb396)); clear HB; have HB := n0_; have BK396 := n1_; have GW396 := n2_; have GE396 := n3_; clear n0_ n1_ n2_ n3_; clear hb hbox hg; have hcz6_0 : w5.cell? ⟨gb396, 0, none⟩ = some (.int .u32 a0_0) := (blk_cell BK396.out 0).trans rfl; have hcz6_1 : w5.cell? ⟨gb396, 1, none⟩ = some (.int .i64 a0_1) := (blk_cell BK396.out 1).trans rfl; have hfz6_0 := blk_frozen BK396.out 0; have hfz6_1 := blk_frozen BK396.out 1) | (go_at_call 153; (with_reducible refine (prefix_mask.calls a0_1 t397 _ A4.out).mono ?_); rintro e w' ⟨rfl, ⟨nd, rfl⟩⟩; (try first | exact ⟨rfl, _, World.drewN_drewN _ _ _⟩ | exact ⟨rfl, _, Eq.trans (World.drewN_drewN _ _ _) (congrArg (World.drewN _) (Nat.add_assoc _ _ _))⟩)))
   repeat (go_quiet (first | ((with_reducible refine gate_dst (N := 1) rfl ?_); refine box_event ?hg (N := 1) ?hd (cs := #[.int .u32 a0_0, .int .i64 a0_1]) (t := 159) ?hr ?_; (case hd => rfl); (case hg => rfl); (case hr => first | (go_simp; done) | (go_simp; rfl)); intro gb396 hg w5 hbox hb; have n0_ := Aside0.mk (below_step (gB HB.out) hb); have n1_ := Aside0.mk (hbox); have n2_ := Aside0.mk ((by rw [hg]; exact (below_size (gB HB.out)) : w.heap.size ≤ gb396)); have n3_ := Aside0.mk ((by rw [hg]; exact (below_size (gB HB.out)) : w.heap.size ≤ gb396)); clear HB; have HB := n0_; have BK396 := n1_; have GW396 := n2_; have GE396 := n3_; clear n0_ n1_ n2_ n3_; clear hb hbox hg; have hcz6_0 : w5.cell? ⟨gb396, 0, none⟩ = some (.int .u32 a0_0) := (blk_cell BK396.out 0).trans rfl; have hcz6_1 : w5.cell? ⟨gb396, 1, none⟩ = some (.int .i64 a0_1) := (blk_cell BK396.out 1).trans rfl; have hfz6_0 := blk_frozen BK396.out 0; have hfz6_1 := blk_frozen BK396.out 1) | (go_at_call 153; (with_reducible refine (prefix_mask.calls a0_1 t397 _ A4.out).mono ?_); rintro e w' ⟨rfl, ⟨nd, rfl⟩⟩; (try first | exact ⟨rfl, _, World.drewN_drewN _ _ _⟩ | exact ⟨rfl, _, Eq.trans (World.drewN_drewN _ _ _) (congrArg (World.drewN _) (Nat.add_assoc _ _ _))⟩))); try go_wp2_with (first | ((with_reducible refine gate_dst (N := 1) rfl ?_); refine box_event ?hg (N := 1) ?hd (cs := #[.int .u32 a0_0, .int .i64 a0_1]) (t := 159) ?hr ?_; (case hd => rfl); (case hg => rfl); (case hr => first | (go_simp; done) | (go_simp; rfl)); intro gb396 hg w5 hbox hb; have n0_ := Aside0.mk (below_step (gB HB.out) hb); have n1_ := Aside0.mk (hbox); have n2_ := Aside0.mk ((by rw [hg]; exact (below_size (gB HB.out)) : w.heap.size ≤ gb396)); have n3_ := Aside0.mk ((by rw [hg]; exact (below_size (gB HB.out)) : w.heap.size ≤ gb396)); clear HB; have HB := n0_; have BK396 := n1_; have GW396 := n2_; have GE396 := n3_; clear n0_ n1_ n2_ n3_; clear hb hbox hg; have hcz6_0 : w5.cell? ⟨gb396, 0, none⟩ = some (.int .u32 a0_0) := (blk_cell BK396.out 0).trans rfl; have hcz6_1 : w5.cell? ⟨gb396, 1, none⟩ = some (.int .i64 a0_1) := (blk_cell BK396.out 1).trans rfl; have hfz6_0 := blk_frozen BK396.out 0; have hfz6_1 := blk_frozen BK396.out 1) | (go_at_call 153; (with_reducible refine (prefix_mask.calls a0_1 t397 _ A4.out).mono ?_); rintro e w' ⟨rfl, ⟨nd, rfl⟩⟩; (try first | exact ⟨rfl, _, World.drewN_drewN _ _ _⟩ | exact ⟨rfl, _, Eq.trans (World.drewN_drewN _ _ _) (congrArg (World.drewN _) (Nat.add_assoc _ _ _))⟩))))
   go_ret
   exact ⟨by first | rfl | (simp [errW_none, errW_some] <;> rfl) | (simp [*, errW_none, errW_some] <;> rfl), by repeat first|(with_reducible first|exact HB.out|apply ba|apply bd|apply b1|refine bs ?_ GE396.out)|exact HB.out⟩
  ·rw [if_neg c3] at H
   have c3b0 : decide (a0_1 ≤ 32) = false := decide_eq_false c3
   clear c3
   obtain rfl := Option.some.inj H
   go_enter Tryz.func152, Tryz.ntmps152
   go_wp2_with (first | ((with_reducible refine gate_dst (N := 1) rfl ?_); refine box_event ?hg (N := 1) ?hd (cs := #[.int .u32 a0_0, .int .i64 a0_1]) (t := 159) ?hr ?_; (case hd => rfl); (case hg => rfl); (case hr => first | (go_simp; done) | (go_simp; rfl)); intro gb396 hg w7 hbox hb; have n0_ := Aside0.mk (below_step (gB HB.out) hb); have n1_ := Aside0.mk (hbox); have n2_ := Aside0.mk ((by rw [hg]; exact (below_size (gB HB.out)) : w.heap.size ≤ gb396)); have n3_ := Aside0.mk ((by rw [hg]; exact (below_size (gB HB.out)) : w.heap.size ≤ gb396)); clear HB; have HB := n0_; have BK396 := n1_; have GW396 := n2_; have GE396 := n3_; clear n0_ n1_ n2_ n3_; clear hb hbox hg; have hcz8_0 : w7.cell? ⟨gb396, 0, none⟩ = some (.int .u32 a0_0) := (blk_cell BK396.out 0).trans rfl; have hcz8_1 : w7.cell? ⟨gb396, 1, none⟩ = some (.int .i64 a0_1) := (blk_cell BK396.out 1).trans rfl; have hfz8_0 := blk_frozen BK396.out 0; have hfz8_1 := blk_frozen BK396.out 1))
   repeat (go_quiet (first | ((with_reducible refine gate_dst (N := 1) rfl ?_); refine box_event ?hg (N := 1) ?hd (cs := #[.int .u32 a0_0, .int .i64 a0_1]) (t := 159) ?hr ?_; (case hd => rfl); (case hg => rfl); (case hr => first | (go_simp; done) | (go_simp; rfl)); intro gb396 hg w7 hbox hb; have n0_ := Aside0.mk (below_step (gB HB.out) hb); have n1_ := Aside0.mk (hbox); have n2_ := Aside0.mk ((by rw [hg]; exact (below_size (gB HB.out)) : w.heap.size ≤ gb396)); have n3_ := Aside0.mk ((by rw [hg]; exact (below_size (gB HB.out)) : w.heap.size ≤ gb396)); clear HB; have HB := n0_; have BK396 := n1_; have GW396 := n2_; have GE396 := n3_; clear n0_ n1_ n2_ n3_; clear hb hbox hg; have hcz8_0 : w7.cell? ⟨gb396, 0, none⟩ = some (.int .u32 a0_0) := (blk_cell BK396.out 0).trans rfl; have hcz8_1 : w7.cell? ⟨gb396, 1, none⟩ = some (.int .i64 a0_1) := (blk_cell BK396.out 1).trans rfl; have hfz8_0 := blk_frozen BK396.out 0; have hfz8_1 := blk_frozen BK396.out 1)); try go_wp2_with (first | ((with_reducible refine gate_dst (N := 1) rfl ?_); refine box_event ?hg (N := 1) ?hd (cs := #[.int .u32 a0_0, .int .i64 a0_1]) (t := 159) ?hr ?_; (case hd => rfl); (case hg => rfl); (case hr => first | (go_simp; done) | (go_simp; rfl)); intro gb396 hg w7 hbox hb; have n0_ := Aside0.mk (below_step (gB HB.out) hb); have n1_ := Aside0.mk (hbox); have n2_ := Aside0.mk ((by rw [hg]; exact (below_size (gB HB.out)) : w.heap.size ≤ gb396)); have n3_ := Aside0.mk ((by rw [hg]; exact (below_size (gB HB.out)) : w.heap.size ≤ gb396)); clear HB; have HB := n0_; have BK396 := n1_; have GW396 := n2_; have GE396 := n3_; clear n0_ n1_ n2_ n3_; clear hb hbox hg; have hcz8_0 : w7.cell? ⟨gb396, 0, none⟩ = some (.int .u32 a0_0) := (blk_cell BK396.out 0).trans rfl; have hcz8_1 : w7.cell? ⟨gb396, 1, none⟩ = some (.int .i64 a0_1) := (blk_cell BK396.out 1).trans rfl; have hfz8_0 := blk_frozen BK396.out 0; have hfz8_1 := blk_frozen BK396.out 1)))
   go_ret
   exact ⟨by first | rfl | (simp [errW_none, errW_some] <;> rfl) | (simp [*, errW_none, errW_some] <;> rfl), by repeat first|(with_reducible first|exact HB.out|apply ba|apply bd|apply b1|refine bs ?_ GE396.out)|exact HB.out⟩
 ·rw [if_neg c2] at H
  have c2b0 : decide (0 ≤ a0_1) = false := decide_eq_false c2
  clear c2
  obtain rfl := Option.some.inj H
  go_enter Tryz.func152, Tryz.ntmps152
  go_wp2_with (first | ((with_reducible refine gate_dst (N := 1) rfl ?_); refine box_event ?hg (N := 1) ?hd (cs := #[.int .u32 a0_0, .int .i64 a0_1]) (t := 159) ?hr ?_; (case hd => rfl); (case hg => rfl); (case hr => first | (go_simp; done) | (go_simp; rfl)); intro gb396 hg w9 hbox hb; have n0_ := Aside0.mk (below_step (gB HB.out) hb); have n1_ := Aside0.mk (hbox); have n2_ := Aside0.mk ((by rw [hg]; exact (below_size (gB HB.out)) : w.heap.size ≤ gb396)); have n3_ := Aside0.mk ((by rw [hg]; exact (below_size (gB HB.out)) : w.heap.size ≤ gb396)); clear HB; have HB := n0_; have BK396 := n1_; have GW396 := n2_; have GE396 := n3_; clear n0_ n1_ n2_ n3_; clear hb hbox hg; have hcz10_0 : w9.cell? ⟨gb396, 0, none⟩ = some (.int .u32 a0_0) := (blk_cell BK396.out 0).trans rfl; have hcz10_1 : w9.cell? ⟨gb396, 1, none⟩ = some (.int .i64 a0_1) := (blk_cell BK396.out 1).trans rfl; have hfz10_0 := blk_frozen BK396.out 0; have hfz10_1 := blk_frozen BK396.out 1))
  repeat (go_quiet (first | ((with_reducible refine gate_dst (N := 1) rfl ?_); refine box_event ?hg (N := 1) ?hd (cs := #[.int .u32 a0_0, .int .i64 a0_1]) (t := 159) ?hr ?_; (case hd => rfl); (case hg => rfl); (case hr => first | (go_simp; done) | (go_simp; rfl)); intro gb396 hg w9 hbox hb; have n0_ := Aside0.mk (below_step (gB HB.out) hb); have n1_ := Aside0.mk (hbox); have n2_ := Aside0.mk ((by rw [hg]; exact (below_size (gB HB.out)) : w.heap.size ≤ gb396)); have n3_ := Aside0.mk ((by rw [hg]; exact (below_size (gB HB.out)) : w.heap.size ≤ gb396)); clear HB; have HB := n0_; have BK396 := n1_; have GW396 := n2_; have GE396 := n3_; clear n0_ n1_ n2_ n3_; clear hb hbox hg; have hcz10_0 : w9.cell? ⟨gb396, 0, none⟩ = some (.int .u32 a0_0) := (blk_cell BK396.out 0).trans rfl; have hcz10_1 : w9.cell? ⟨gb396, 1, none⟩ = some (.int .i64 a0_1) := (blk_cell BK396.out 1).trans rfl; have hfz10_0 := blk_frozen BK396.out 0; have hfz10_1 := blk_frozen BK396.out 1)); try go_wp2_with (first | ((with_reducible refine gate_dst (N := 1) rfl ?_); refine box_event ?hg (N := 1) ?hd (cs := #[.int .u32 a0_0, .int .i64 a0_1]) (t := 159) ?hr ?_; (case hd => rfl); (case hg => rfl); (case hr => first | (go_simp; done) | (go_simp; rfl)); intro gb396 hg w9 hbox hb; have n0_ := Aside0.mk (below_step (gB HB.out) hb); have n1_ := Aside0.mk (hbox); have n2_ := Aside0.mk ((by rw [hg]; exact (below_size (gB HB.out)) : w.heap.size ≤ gb396)); have n3_ := Aside0.mk ((by rw [hg]; exact (below_size (gB HB.out)) : w.heap.size ≤ gb396)); clear HB; have HB := n0_; have BK396 := n1_; have GW396 := n2_; have GE396 := n3_; clear n0_ n1_ n2_ n3_; clear hb hbox hg; have hcz10_0 : w9.cell? ⟨gb396, 0, none⟩ = some (.int .u32 a0_0) := (blk_cell BK396.out 0).trans rfl; have hcz10_1 : w9.cell? ⟨gb396, 1, none⟩ = some (.int .i64 a0_1) := (blk_cell BK396.out 1).trans rfl; have hfz10_0 := blk_frozen BK396.out 0; have hfz10_1 := blk_frozen BK396.out 1)))
  go_ret
  exact ⟨by first | rfl | (simp [errW_none, errW_some] <;> rfl) | (simp [*, errW_none, errW_some] <;> rfl), by repeat first|(with_reducible first|exact HB.out|apply ba|apply bd|apply b1|refine bs ?_ GE396.out)|exact HB.out⟩
def prefix_Parse.f (k : Nat) (a0 : ByteArray) : Option (Int × Int × Int) := (strings_Cut.f a0 (⟨#[47]⟩ : ByteArray)).bind fun bt399 => ((prefix_ParseAddr.f k bt399.1).bind fun bt402 => ((prefix_number.f bt399.2.1 32).bind fun bt404 => (if bt399.2.2 = true then (if bt402.2 = 0 then (if bt404.2 = true then ((prefix_Right.f bt402.1 bt404.1).bind fun t407 => (if t407 = true then (some (bt402.1, bt404.1, 0)) else (some (0, 0, 21)))) else (some (0, 0, 21))) else (some (0, 0, 21))) else (some (0, 0, 21)))))
set_option maxHeartbeats 8000000 in
set_option maxRecDepth 100000 in
theorem prefix_Parse.calls (k : Nat) (a0 : ByteArray) (r1 : Int) (r2 : Int) (r3 : Int) (w : World) (HLd : Laid w) (h : prefix_Parse.f k a0 = some (r1, r2, r3)) :
  Calls Tryz.prog 107 #[.string a0] w fun e w' => e = .returned (.tuple #[.agg #[.int .u32 r1, .int .i64 r2], .int .i64 r3]) ∧ Below w.heap.size w w' := by
 have hu159 := Tryz.underlying159
 have HB := Aside0.mk (Below.refl w.heap.size w)
 have H : ((strings_Cut.f a0 (⟨#[47]⟩ : ByteArray)).bind fun bt399 => ((prefix_ParseAddr.f k bt399.1).bind fun bt402 => ((prefix_number.f bt399.2.1 32).bind fun bt404 => (if bt399.2.2 = true then (if bt402.2 = 0 then (if bt404.2 = true then ((prefix_Right.f bt402.1 bt404.1).bind fun t407 => (if t407 = true then (some (bt402.1, bt404.1, 0)) else (some (0, 0, 21)))) else (some (0, 0, 21))) else (some (0, 0, 21))) else (some (0, 0, 21)))))) = some (r1, r2, r3) := h
 clear h
 replace H := Option.bind_eq_some_iff.mp H
 obtain ⟨⟨t399, t400, t401⟩, A20, H⟩ := H
 try dsimp only at H
 have A2 := Aside0.mk A20
 clear A20
 replace H := Option.bind_eq_some_iff.mp H
 obtain ⟨⟨t402, t403⟩, A30, H⟩ := H
 try dsimp only at H
 have A3 := Aside0.mk A30
 clear A30
 replace H := Option.bind_eq_some_iff.mp H
 obtain ⟨⟨t404, t405⟩, A40, H⟩ := H
 try dsimp only at H
 have A4 := Aside0.mk A40
 clear A40
 by_cases c5 : t401 = true
 ·subst c5
  rw [if_pos rfl] at H
  by_cases c6 : t403 = 0
  ·rw [if_pos c6] at H
   have c6b0 : (t403 == 0) = true := beq_iff_eq.mpr c6
   have c6b1 : (t403 != 0) = false := bne_eq_false_iff_eq.mpr c6
   clear c6
   by_cases c7 : t405 = true
   ·subst c7
    rw [if_pos rfl] at H
    replace H := Option.bind_eq_some_iff.mp H
    obtain ⟨t407, A80, H⟩ := H
    try dsimp only at H
    have A8 := Aside0.mk A80
    clear A80
    by_cases c9 : t407 = true
    ·subst c9
     rw [if_pos rfl] at H
     simp only [Option.some.injEq, Prod.mk.injEq] at H
     obtain ⟨rfl, rfl, rfl⟩ := H
     go_enter Tryz.func107, Tryz.ntmps107
     go_wp2_with (first | ((with_reducible refine gate_dst (N := 2) rfl ?_); refine box_event ?hg (N := 2) ?hd (cs := #[.int .u32 0, .int .i64 0]) (t := 159) ?hr ?_; (case hd => rfl); (case hg => rfl); (case hr => first | (go_simp; done) | (go_simp; rfl)); intro gb398 hg w10 hbox hb; have n0_ := Aside0.mk (below_step (gB HB.out) hb); have n1_ := Aside0.mk (hbox); have n2_ := Aside0.mk ((by rw [hg]; exact (below_size (gB HB.out)) : w.heap.size ≤ gb398)); have n3_ := Aside0.mk ((by rw [hg]; exact (below_size (gB HB.out)) : w.heap.size ≤ gb398)); clear HB; have HB := n0_; have BK398 := n1_; have GW398 := n2_; have GE398 := n3_; clear n0_ n1_ n2_ n3_; clear hb hbox hg) | ((with_reducible refine gate_callee (f := 109) rfl ?_); refine goesL_ (some 14) rfl rfl Tryz.func109 (by kernel_rfl) rfl #[.string a0, .string (⟨#[47]⟩ : ByteArray)] rfl (by (try simp only [mA_, mC_, mN_]); first|done|rfl|(simp only [lD_, lT_]; rfl)) ?_; (with_reducible refine (strings_Cut.calls a0 (⟨#[47]⟩ : ByteArray) t399 t400 true _ ?side1 A2.out).mono ?_); (case side1 => exact HLd.below (by repeat first|(with_reducible first|exact HB.out|apply ba|apply bd|apply b1|refine bs ?_ GE398.out)|exact HB.out)); rintro e w11 ⟨rfl, hb⟩; refine ⟨_, rfl, ?_⟩; have n0_ := Aside0.mk (blk_below (g := gb398) (o := .cells #[.int .u32 0, .int .i64 0] 159 (0, 0)) (gK BK398.out) hb); have n1_ := Aside0.mk (below_step (by repeat first|(with_reducible first|exact HB.out|apply ba|apply bd|apply b1|refine bs ?_ GE398.out)|exact HB.out) hb); clear BK398; clear HB; have BK398 := n0_; have HB := n1_; clear n0_ n1_; (try clear hb); (try clear hb2); (try clear hk); (try clear hi)) | ((with_reducible refine gate_callee (f := 110) rfl ?_); refine goesL_ (some 20) rfl rfl Tryz.func110 (by kernel_rfl) rfl #[.string t399] rfl (by (try simp only [mA_, mC_, mN_]); first|done|rfl|(simp only [lD_, lT_]; rfl)) ?_; (with_reducible refine (prefix_ParseAddr.calls k t399 t402 t403 _ ?side1 A3.out).mono ?_); (case side1 => exact HLd.below (by repeat first|(with_reducible first|exact HB.out|apply ba|apply bd|apply b1|refine bs ?_ GE398.out)|exact HB.out)); rintro e w12 ⟨rfl, hb⟩; refine ⟨_, rfl, ?_⟩; have n0_ := Aside0.mk (blk_below (g := gb398) (o := .cells #[.int .u32 0, .int .i64 0] 159 (0, 0)) (gK BK398.out) hb); have n1_ := Aside0.mk (below_step (by repeat first|(with_reducible first|exact HB.out|apply ba|apply bd|apply b1|refine bs ?_ GE398.out)|exact HB.out) hb); clear BK398; clear HB; have BK398 := n0_; have HB := n1_; clear n0_ n1_; (try clear hb); (try clear hb2); (try clear hk); (try clear hi)) | ((with_reducible refine gate_callee (f := 151) rfl ?_); refine goesL_ (some 25) rfl rfl Tryz.func151 (by kernel_rfl) rfl #[.string t400, .int .i64 32] rfl (by (try simp only [mA_, mC_, mN_]); first|done|rfl|(simp only [lD_, lT_]; rfl)) ?_; (with_reducible refine (prefix_number.calls t400 32 t404 true _ ?side1 A4.out).mono ?_); (case side1 => exact HLd.below (by repeat first|(with_reducible first|exact HB.out|apply ba|apply bd|apply b1|refine bs ?_ GE398.out)|exact HB.out)); rintro e w13 ⟨rfl, hb⟩; refine ⟨_, rfl, ?_⟩; have n0_ := Aside0.mk (blk_below (g := gb398) (o := .cells #[.int .u32 0, .int .i64 0] 159 (0, 0)) (gK BK398.out) hb); have n1_ := Aside0.mk (below_step (by repeat first|(with_reducible first|exact HB.out|apply ba|apply bd|apply b1|refine bs ?_ GE398.out)|exact HB.out) hb); clear BK398; clear HB; have BK398 := n0_; have HB := n1_; clear n0_ n1_; (try clear hb); (try clear hb2); (try clear hk); (try clear hi)) | ((with_reducible refine gate_dst (N := 11) rfl ?_); refine box_event ?hg (N := 11) ?hd (cs := #[.int .u32 0, .int .i64 0]) (t := 159) ?hr ?_; (case hd => rfl); (case hg => rfl); (case hr => first | (go_simp; done) | (go_simp; rfl)); intro gb406 hg w14 hbox hb; have n0_ := Aside0.mk (blk_below (g := gb398) (o := .cells #[.int .u32 0, .int .i64 0] 159 (0, 0)) (gK BK398.out) hb); have n1_ := Aside0.mk (below_step (by repeat first|(with_reducible first|exact HB.out|apply ba|apply bd|apply b1|refine bs ?_ GE398.out)|exact HB.out) hb); have n2_ := Aside0.mk (hbox); have n3_ := Aside0.mk ((by rw [hg]; exact (below_size (by repeat first|(with_reducible first|exact HB.out|apply ba|apply bd|apply b1|refine bs ?_ GE398.out)|exact HB.out)) : w.heap.size ≤ gb406)); have n4_ := Aside0.mk ((by rw [hg]; exact (below_size (by repeat first|(with_reducible first|exact HB.out|apply ba|apply bd|apply b1|refine bs ?_ GE398.out)|exact HB.out)) : w.heap.size ≤ gb406)); have n5_ := Aside0.mk ((by rw [hg]; exact Nat.ne_of_lt (blk_lt (g := gb398) (o := .cells #[.int .u32 0, .int .i64 0] 159 (0, 0)) (gK BK398.out)) : gb398 ≠ gb406)); have n6_ := Aside0.mk ((by rw [hg]; exact Nat.ne_of_gt (blk_lt (g := gb398) (o := .cells #[.int .u32 0, .int .i64 0] 159 (0, 0)) (gK BK398.out)) : gb406 ≠ gb398)); clear BK398; clear HB; have BK398 := n0_; have HB := n1_; have BK406 := n2_; have GW406 := n3_; have GE406 := n4_; have NB398_406 := n5_; have NB406_398 := n6_; clear n0_ n1_ n2_ n3_ n4_ n5_ n6_; clear hb hbox hg; have hnb15 := NB406_398.out; have hnc15 := NB398_406.out; have hcz16_0 : w14.cell? ⟨gb406, 0, none⟩ = some (.int .u32 0) := (blk_cell BK406.out 0).trans rfl; have hcz16_1 : w14.cell? ⟨gb406, 1, none⟩ = some (.int .i64 0) := (blk_cell BK406.out 1).trans rfl; have hfz16_0 := blk_frozen BK406.out 0; have hfz16_1 := blk_frozen BK406.out 1) | (go_at_call 152; (with_reducible refine (prefix_Right.calls t402 t404 true _ A8.out).mono ?_); rintro e w17 ⟨rfl, hb⟩; have n0_ := Aside0.mk (blk_below (g := gb398) (o := .cells #[.int .u32 0, .int .i64 0] 159 (0, 0)) (by (with_reducible repeat (first | refine blk_drewN ?_ _ | refine blk_drew ?_ | refine blk_alloc ?_ _)); refine blk_far ?_ NB398_406.out _; (with_reducible repeat (first | refine blk_drewN ?_ _ | refine blk_drew ?_ | refine blk_alloc ?_ _)); refine blk_far ?_ NB398_406.out _; (with_reducible repeat (first | refine blk_drewN ?_ _ | refine blk_drew ?_ | refine blk_alloc ?_ _)); exact BK398.out) hb); have n1_ := Aside0.mk (blk_below (g := gb406) (o := .cells #[.int .u32 t402, .int .i64 t404] 159 (0, 0)) (by (with_reducible repeat (first | refine blk_drewN ?_ _ | refine blk_drew ?_ | refine blk_alloc ?_ _)); refine blk_put (cs := #[.int .u32 t402, .int .i64 0]) ?_ 1 _ rfl; (with_reducible repeat (first | refine blk_drewN ?_ _ | refine blk_drew ?_ | refine blk_alloc ?_ _)); refine blk_put (cs := #[.int .u32 0, .int .i64 0]) ?_ 0 _ rfl; (with_reducible repeat (first | refine blk_drewN ?_ _ | refine blk_drew ?_ | refine blk_alloc ?_ _)); exact BK406.out) hb); have n2_ := Aside0.mk (below_step (by repeat first|(with_reducible first|exact HB.out|apply ba|apply bd|apply b1|refine bs ?_ GE398.out|refine bs ?_ GE406.out)|exact HB.out) hb); clear BK398; clear BK406; clear HB; have BK398 := n0_; have BK406 := n1_; have HB := n2_; clear n0_ n1_ n2_; (try clear hb); (try clear hb2); (try clear hk); (try clear hi); have hcz18_0 : w17.cell? ⟨gb406, 0, none⟩ = some (.int .u32 t402) := (blk_cell BK406.out 0).trans rfl; have hcz18_1 : w17.cell? ⟨gb406, 1, none⟩ = some (.int .i64 t404) := (blk_cell BK406.out 1).trans rfl; have hfz18_0 := blk_frozen BK406.out 0; have hfz18_1 := blk_frozen BK406.out 1; have hcz19_0 : w17.cell? ⟨gb398, 0, none⟩ = some (.int .u32 0) := (blk_cell BK398.out 0).trans rfl; have hcz19_1 : w17.cell? ⟨gb398, 1, none⟩ = some (.int .i64 0) := (blk_cell BK398.out 1).trans rfl; have hfz19_0 := blk_frozen BK398.out 0; have hfz19_1 := blk_frozen BK398.out 1))
     refine bodyPost_ret (results_ct rfl _ _ gb398 159 #[.int .u32 t402, .int .i64 t404] (0, 0) _ rfl (by (with_reducible repeat (first | refine blk_drewN ?_ _ | refine blk_drew ?_ | refine blk_alloc ?_ _)); refine blk_put (cs := #[.int .u32 t402, .int .i64 0]) ?_ 1 _ rfl; (with_reducible repeat (first | refine blk_drewN ?_ _ | refine blk_drew ?_ | refine blk_alloc ?_ _)); refine blk_put (cs := #[.int .u32 0, .int .i64 0]) ?_ 0 _ rfl; (with_reducible repeat (first | refine blk_drewN ?_ _ | refine blk_drew ?_ | refine blk_alloc ?_ _)); exact BK398.out) Tryz.underlying159 rfl (by kernel_rfl)) rfl ?_
     exact ⟨by first | rfl | (simp [errW_none, errW_some] <;> rfl) | (simp [*, errW_none, errW_some] <;> rfl), by repeat first|(with_reducible first|exact HB.out|apply ba|apply bd|apply b1|refine bs ?_ GE398.out|refine bs ?_ GE406.out)|exact HB.out⟩
    ·replace c9 := Bool.eq_false_iff.mpr c9
     subst c9
     rw [if_neg (show ¬ (false = true) by decide)] at H
     simp only [Option.some.injEq, Prod.mk.injEq] at H
     obtain ⟨rfl, rfl, rfl⟩ := H
     go_enter Tryz.func107, Tryz.ntmps107
     go_wp2_with (first | ((with_reducible refine gate_dst (N := 2) rfl ?_); refine box_event ?hg (N := 2) ?hd (cs := #[.int .u32 0, .int .i64 0]) (t := 159) ?hr ?_; (case hd => rfl); (case hg => rfl); (case hr => first | (go_simp; done) | (go_simp; rfl)); intro gb398 hg w20 hbox hb; have n0_ := Aside0.mk (below_step (gB HB.out) hb); have n1_ := Aside0.mk (hbox); have n2_ := Aside0.mk ((by rw [hg]; exact (below_size (gB HB.out)) : w.heap.size ≤ gb398)); have n3_ := Aside0.mk ((by rw [hg]; exact (below_size (gB HB.out)) : w.heap.size ≤ gb398)); clear HB; have HB := n0_; have BK398 := n1_; have GW398 := n2_; have GE398 := n3_; clear n0_ n1_ n2_ n3_; clear hb hbox hg) | ((with_reducible refine gate_callee (f := 109) rfl ?_); refine goesL_ (some 14) rfl rfl Tryz.func109 (by kernel_rfl) rfl #[.string a0, .string (⟨#[47]⟩ : ByteArray)] rfl (by (try simp only [mA_, mC_, mN_]); first|done|rfl|(simp only [lD_, lT_]; rfl)) ?_; (with_reducible refine (strings_Cut.calls a0 (⟨#[47]⟩ : ByteArray) t399 t400 true _ ?side1 A2.out).mono ?_); (case side1 => exact HLd.below (by repeat first|(with_reducible first|exact HB.out|apply ba|apply bd|apply b1|refine bs ?_ GE398.out)|exact HB.out)); rintro e w21 ⟨rfl, hb⟩; refine ⟨_, rfl, ?_⟩; have n0_ := Aside0.mk (blk_below (g := gb398) (o := .cells #[.int .u32 0, .int .i64 0] 159 (0, 0)) (gK BK398.out) hb); have n1_ := Aside0.mk (below_step (by repeat first|(with_reducible first|exact HB.out|apply ba|apply bd|apply b1|refine bs ?_ GE398.out)|exact HB.out) hb); clear BK398; clear HB; have BK398 := n0_; have HB := n1_; clear n0_ n1_; (try clear hb); (try clear hb2); (try clear hk); (try clear hi)) | ((with_reducible refine gate_callee (f := 110) rfl ?_); refine goesL_ (some 20) rfl rfl Tryz.func110 (by kernel_rfl) rfl #[.string t399] rfl (by (try simp only [mA_, mC_, mN_]); first|done|rfl|(simp only [lD_, lT_]; rfl)) ?_; (with_reducible refine (prefix_ParseAddr.calls k t399 t402 t403 _ ?side1 A3.out).mono ?_); (case side1 => exact HLd.below (by repeat first|(with_reducible first|exact HB.out|apply ba|apply bd|apply b1|refine bs ?_ GE398.out)|exact HB.out)); rintro e w22 ⟨rfl, hb⟩; refine ⟨_, rfl, ?_⟩; have n0_ := Aside0.mk (blk_below (g := gb398) (o := .cells #[.int .u32 0, .int .i64 0] 159 (0, 0)) (gK BK398.out) hb); have n1_ := Aside0.mk (below_step (by repeat first|(with_reducible first|exact HB.out|apply ba|apply bd|apply b1|refine bs ?_ GE398.out)|exact HB.out) hb); clear BK398; clear HB; have BK398 := n0_; have HB := n1_; clear n0_ n1_; (try clear hb); (try clear hb2); (try clear hk); (try clear hi)) | ((with_reducible refine gate_callee (f := 151) rfl ?_); refine goesL_ (some 25) rfl rfl Tryz.func151 (by kernel_rfl) rfl #[.string t400, .int .i64 32] rfl (by (try simp only [mA_, mC_, mN_]); first|done|rfl|(simp only [lD_, lT_]; rfl)) ?_; (with_reducible refine (prefix_number.calls t400 32 t404 true _ ?side1 A4.out).mono ?_); (case side1 => exact HLd.below (by repeat first|(with_reducible first|exact HB.out|apply ba|apply bd|apply b1|refine bs ?_ GE398.out)|exact HB.out)); rintro e w23 ⟨rfl, hb⟩; refine ⟨_, rfl, ?_⟩; have n0_ := Aside0.mk (blk_below (g := gb398) (o := .cells #[.int .u32 0, .int .i64 0] 159 (0, 0)) (gK BK398.out) hb); have n1_ := Aside0.mk (below_step (by repeat first|(with_reducible first|exact HB.out|apply ba|apply bd|apply b1|refine bs ?_ GE398.out)|exact HB.out) hb); clear BK398; clear HB; have BK398 := n0_; have HB := n1_; clear n0_ n1_; (try clear hb); (try clear hb2); (try clear hk); (try clear hi)) | ((with_reducible refine gate_dst (N := 11) rfl ?_); refine box_event ?hg (N := 11) ?hd (cs := #[.int .u32 0, .int .i64 0]) (t := 159) ?hr ?_; (case hd => rfl); (case hg => rfl); (case hr => first | (go_simp; done) | (go_simp; rfl)); intro gb406 hg w24 hbox hb; have n0_ := Aside0.mk (blk_below (g := gb398) (o := .cells #[.int .u32 0, .int .i64 0] 159 (0, 0)) (gK BK398.out) hb); have n1_ := Aside0.mk (below_step (by repeat first|(with_reducible first|exact HB.out|apply ba|apply bd|apply b1|refine bs ?_ GE398.out)|exact HB.out) hb); have n2_ := Aside0.mk (hbox); have n3_ := Aside0.mk ((by rw [hg]; exact (below_size (by repeat first|(with_reducible first|exact HB.out|apply ba|apply bd|apply b1|refine bs ?_ GE398.out)|exact HB.out)) : w.heap.size ≤ gb406)); have n4_ := Aside0.mk ((by rw [hg]; exact (below_size (by repeat first|(with_reducible first|exact HB.out|apply ba|apply bd|apply b1|refine bs ?_ GE398.out)|exact HB.out)) : w.heap.size ≤ gb406)); have n5_ := Aside0.mk ((by rw [hg]; exact Nat.ne_of_lt (blk_lt (g := gb398) (o := .cells #[.int .u32 0, .int .i64 0] 159 (0, 0)) (gK BK398.out)) : gb398 ≠ gb406)); have n6_ := Aside0.mk ((by rw [hg]; exact Nat.ne_of_gt (blk_lt (g := gb398) (o := .cells #[.int .u32 0, .int .i64 0] 159 (0, 0)) (gK BK398.out)) : gb406 ≠ gb398)); clear BK398; clear HB; have BK398 := n0_; have HB := n1_; have BK406 := n2_; have GW406 := n3_; have GE406 := n4_; have NB398_406 := n5_; have NB406_398 := n6_; clear n0_ n1_ n2_ n3_ n4_ n5_ n6_; clear hb hbox hg; have hnb25 := NB406_398.out; have hnc25 := NB398_406.out; have hcz26_0 : w24.cell? ⟨gb406, 0, none⟩ = some (.int .u32 0) := (blk_cell BK406.out 0).trans rfl; have hcz26_1 : w24.cell? ⟨gb406, 1, none⟩ = some (.int .i64 0) := (blk_cell BK406.out 1).trans rfl; have hfz26_0 := blk_frozen BK406.out 0; have hfz26_1 := blk_frozen BK406.out 1) | (go_at_call 152; (with_reducible refine (prefix_Right.calls t402 t404 false _ A8.out).mono ?_); rintro e w27 ⟨rfl, hb⟩; have n0_ := Aside0.mk (blk_below (g := gb398) (o := .cells #[.int .u32 0, .int .i64 0] 159 (0, 0)) (by (with_reducible repeat (first | refine blk_drewN ?_ _ | refine blk_drew ?_ | refine blk_alloc ?_ _)); refine blk_far ?_ NB398_406.out _; (with_reducible repeat (first | refine blk_drewN ?_ _ | refine blk_drew ?_ | refine blk_alloc ?_ _)); refine blk_far ?_ NB398_406.out _; (with_reducible repeat (first | refine blk_drewN ?_ _ | refine blk_drew ?_ | refine blk_alloc ?_ _)); exact BK398.out) hb); have n1_ := Aside0.mk (blk_below (g := gb406) (o := .cells #[.int .u32 t402, .int .i64 t404] 159 (0, 0)) (by (with_reducible repeat (first | refine blk_drewN ?_ _ | refine blk_drew ?_ | refine blk_alloc ?_ _)); refine blk_put (cs := #[.int .u32 t402, .int .i64 0]) ?_ 1 _ rfl; (with_reducible repeat (first | refine blk_drewN ?_ _ | refine blk_drew ?_ | refine blk_alloc ?_ _)); refine blk_put (cs := #[.int .u32 0, .int .i64 0]) ?_ 0 _ rfl; (with_reducible repeat (first | refine blk_drewN ?_ _ | refine blk_drew ?_ | refine blk_alloc ?_ _)); exact BK406.out) hb); have n2_ := Aside0.mk (below_step (by repeat first|(with_reducible first|exact HB.out|apply ba|apply bd|apply b1|refine bs ?_ GE398.out|refine bs ?_ GE406.out)|exact HB.out) hb); clear BK398; clear BK406; clear HB; have BK398 := n0_; have BK406 := n1_; have HB := n2_; clear n0_ n1_ n2_; (try clear hb); (try clear hb2); (try clear hk); (try clear hi); have hcz28_0 : w27.cell? ⟨gb398, 0, none⟩ = some (.int .u32 0) := (blk_cell BK398.out 0).trans rfl; have hcz28_1 : w27.cell? ⟨gb398, 1, none⟩ = some (.int .i64 0) := (blk_cell BK398.out 1).trans rfl; have hfz28_0 := blk_frozen BK398.out 0; have hfz28_1 := blk_frozen BK398.out 1))
     refine bodyPost_ret (results_ct rfl _ _ gb398 159 #[.int .u32 0, .int .i64 0] (0, 0) _ rfl (by (with_reducible repeat (first | refine blk_drewN ?_ _ | refine blk_drew ?_ | refine blk_alloc ?_ _)); refine blk_put (cs := #[.int .u32 0, .int .i64 0]) ?_ 1 _ rfl; (with_reducible repeat (first | refine blk_drewN ?_ _ | refine blk_drew ?_ | refine blk_alloc ?_ _)); refine blk_put (cs := #[.int .u32 0, .int .i64 0]) ?_ 0 _ rfl; (with_reducible repeat (first | refine blk_drewN ?_ _ | refine blk_drew ?_ | refine blk_alloc ?_ _)); exact BK398.out) Tryz.underlying159 rfl (by kernel_rfl)) rfl ?_
     exact ⟨by first | rfl | (simp [errW_none, errW_some] <;> rfl) | (simp [*, errW_none, errW_some] <;> rfl), by repeat first|(with_reducible first|exact HB.out|apply ba|apply bd|apply b1|refine bs ?_ GE398.out|refine bs ?_ GE406.out)|exact HB.out⟩
   ·replace c7 := Bool.eq_false_iff.mpr c7
    subst c7
    rw [if_neg (show ¬ (false = true) by decide)] at H
    simp only [Option.some.injEq, Prod.mk.injEq] at H
    obtain ⟨rfl, rfl, rfl⟩ := H
    go_enter Tryz.func107, Tryz.ntmps107
    go_wp2_with (first | ((with_reducible refine gate_dst (N := 2) rfl ?_); refine box_event ?hg (N := 2) ?hd (cs := #[.int .u32 0, .int .i64 0]) (t := 159) ?hr ?_; (case hd => rfl); (case hg => rfl); (case hr => first | (go_simp; done) | (go_simp; rfl)); intro gb398 hg w29 hbox hb; have n0_ := Aside0.mk (below_step (gB HB.out) hb); have n1_ := Aside0.mk (hbox); have n2_ := Aside0.mk ((by rw [hg]; exact (below_size (gB HB.out)) : w.heap.size ≤ gb398)); have n3_ := Aside0.mk ((by rw [hg]; exact (below_size (gB HB.out)) : w.heap.size ≤ gb398)); clear HB; have HB := n0_; have BK398 := n1_; have GW398 := n2_; have GE398 := n3_; clear n0_ n1_ n2_ n3_; clear hb hbox hg) | ((with_reducible refine gate_callee (f := 109) rfl ?_); refine goesL_ (some 14) rfl rfl Tryz.func109 (by kernel_rfl) rfl #[.string a0, .string (⟨#[47]⟩ : ByteArray)] rfl (by (try simp only [mA_, mC_, mN_]); first|done|rfl|(simp only [lD_, lT_]; rfl)) ?_; (with_reducible refine (strings_Cut.calls a0 (⟨#[47]⟩ : ByteArray) t399 t400 true _ ?side1 A2.out).mono ?_); (case side1 => exact HLd.below (by repeat first|(with_reducible first|exact HB.out|apply ba|apply bd|apply b1|refine bs ?_ GE398.out)|exact HB.out)); rintro e w30 ⟨rfl, hb⟩; refine ⟨_, rfl, ?_⟩; have n0_ := Aside0.mk (blk_below (g := gb398) (o := .cells #[.int .u32 0, .int .i64 0] 159 (0, 0)) (gK BK398.out) hb); have n1_ := Aside0.mk (below_step (by repeat first|(with_reducible first|exact HB.out|apply ba|apply bd|apply b1|refine bs ?_ GE398.out)|exact HB.out) hb); clear BK398; clear HB; have BK398 := n0_; have HB := n1_; clear n0_ n1_; (try clear hb); (try clear hb2); (try clear hk); (try clear hi)) | ((with_reducible refine gate_callee (f := 110) rfl ?_); refine goesL_ (some 20) rfl rfl Tryz.func110 (by kernel_rfl) rfl #[.string t399] rfl (by (try simp only [mA_, mC_, mN_]); first|done|rfl|(simp only [lD_, lT_]; rfl)) ?_; (with_reducible refine (prefix_ParseAddr.calls k t399 t402 t403 _ ?side1 A3.out).mono ?_); (case side1 => exact HLd.below (by repeat first|(with_reducible first|exact HB.out|apply ba|apply bd|apply b1|refine bs ?_ GE398.out)|exact HB.out)); rintro e w31 ⟨rfl, hb⟩; refine ⟨_, rfl, ?_⟩; have n0_ := Aside0.mk (blk_below (g := gb398) (o := .cells #[.int .u32 0, .int .i64 0] 159 (0, 0)) (gK BK398.out) hb); have n1_ := Aside0.mk (below_step (by repeat first|(with_reducible first|exact HB.out|apply ba|apply bd|apply b1|refine bs ?_ GE398.out)|exact HB.out) hb); clear BK398; clear HB; have BK398 := n0_; have HB := n1_; clear n0_ n1_; (try clear hb); (try clear hb2); (try clear hk); (try clear hi)) | ((with_reducible refine gate_callee (f := 151) rfl ?_); refine goesL_ (some 25) rfl rfl Tryz.func151 (by kernel_rfl) rfl #[.string t400, .int .i64 32] rfl (by (try simp only [mA_, mC_, mN_]); first|done|rfl|(simp only [lD_, lT_]; rfl)) ?_; (with_reducible refine (prefix_number.calls t400 32 t404 false _ ?side1 A4.out).mono ?_); (case side1 => exact HLd.below (by repeat first|(with_reducible first|exact HB.out|apply ba|apply bd|apply b1|refine bs ?_ GE398.out)|exact HB.out)); rintro e w32 ⟨rfl, hb⟩; refine ⟨_, rfl, ?_⟩; have n0_ := Aside0.mk (blk_below (g := gb398) (o := .cells #[.int .u32 0, .int .i64 0] 159 (0, 0)) (gK BK398.out) hb); have n1_ := Aside0.mk (below_step (by repeat first|(with_reducible first|exact HB.out|apply ba|apply bd|apply b1|refine bs ?_ GE398.out)|exact HB.out) hb); clear BK398; clear HB; have BK398 := n0_; have HB := n1_; clear n0_ n1_; (try clear hb); (try clear hb2); (try clear hk); (try clear hi)) | ((with_reducible refine gate_dst (N := 11) rfl ?_); refine box_event ?hg (N := 11) ?hd (cs := #[.int .u32 0, .int .i64 0]) (t := 159) ?hr ?_; (case hd => rfl); (case hg => rfl); (case hr => first | (go_simp; done) | (go_simp; rfl)); intro gb406 hg w33 hbox hb; have n0_ := Aside0.mk (blk_below (g := gb398) (o := .cells #[.int .u32 0, .int .i64 0] 159 (0, 0)) (gK BK398.out) hb); have n1_ := Aside0.mk (below_step (by repeat first|(with_reducible first|exact HB.out|apply ba|apply bd|apply b1|refine bs ?_ GE398.out)|exact HB.out) hb); have n2_ := Aside0.mk (hbox); have n3_ := Aside0.mk ((by rw [hg]; exact (below_size (by repeat first|(with_reducible first|exact HB.out|apply ba|apply bd|apply b1|refine bs ?_ GE398.out)|exact HB.out)) : w.heap.size ≤ gb406)); have n4_ := Aside0.mk ((by rw [hg]; exact (below_size (by repeat first|(with_reducible first|exact HB.out|apply ba|apply bd|apply b1|refine bs ?_ GE398.out)|exact HB.out)) : w.heap.size ≤ gb406)); have n5_ := Aside0.mk ((by rw [hg]; exact Nat.ne_of_lt (blk_lt (g := gb398) (o := .cells #[.int .u32 0, .int .i64 0] 159 (0, 0)) (gK BK398.out)) : gb398 ≠ gb406)); have n6_ := Aside0.mk ((by rw [hg]; exact Nat.ne_of_gt (blk_lt (g := gb398) (o := .cells #[.int .u32 0, .int .i64 0] 159 (0, 0)) (gK BK398.out)) : gb406 ≠ gb398)); clear BK398; clear HB; have BK398 := n0_; have HB := n1_; have BK406 := n2_; have GW406 := n3_; have GE406 := n4_; have NB398_406 := n5_; have NB406_398 := n6_; clear n0_ n1_ n2_ n3_ n4_ n5_ n6_; clear hb hbox hg; have hnb34 := NB406_398.out; have hnc34 := NB398_406.out; have hcz35_0 : w33.cell? ⟨gb406, 0, none⟩ = some (.int .u32 0) := (blk_cell BK406.out 0).trans rfl; have hcz35_1 : w33.cell? ⟨gb406, 1, none⟩ = some (.int .i64 0) := (blk_cell BK406.out 1).trans rfl; have hfz35_0 := blk_frozen BK406.out 0; have hfz35_1 := blk_frozen BK406.out 1; have hcz36_0 : w33.cell? ⟨gb398, 0, none⟩ = some (.int .u32 0) := (blk_cell BK398.out 0).trans rfl; have hcz36_1 : w33.cell? ⟨gb398, 1, none⟩ = some (.int .i64 0) := (blk_cell BK398.out 1).trans rfl; have hfz36_0 := blk_frozen BK398.out 0; have hfz36_1 := blk_frozen BK398.out 1))
    refine bodyPost_ret (results_ct rfl _ _ gb398 159 #[.int .u32 0, .int .i64 0] (0, 0) _ rfl (by (with_reducible repeat (first | refine blk_drewN ?_ _ | refine blk_drew ?_ | refine blk_alloc ?_ _)); refine blk_put (cs := #[.int .u32 0, .int .i64 0]) ?_ 1 _ rfl; (with_reducible repeat (first | refine blk_drewN ?_ _ | refine blk_drew ?_ | refine blk_alloc ?_ _)); refine blk_put (cs := #[.int .u32 0, .int .i64 0]) ?_ 0 _ rfl; (with_reducible repeat (first | refine blk_drewN ?_ _ | refine blk_drew ?_ | refine blk_alloc ?_ _)); refine blk_far ?_ NB398_406.out _; (with_reducible repeat (first | refine blk_drewN ?_ _ | refine blk_drew ?_ | refine blk_alloc ?_ _)); refine blk_far ?_ NB398_406.out _; (with_reducible repeat (first | refine blk_drewN ?_ _ | refine blk_drew ?_ | refine blk_alloc ?_ _)); exact BK398.out) Tryz.underlying159 rfl (by kernel_rfl)) rfl ?_
    exact ⟨by first | rfl | (simp [errW_none, errW_some] <;> rfl) | (simp [*, errW_none, errW_some] <;> rfl), by repeat first|(with_reducible first|exact HB.out|apply ba|apply bd|apply b1|refine bs ?_ GE398.out|refine bs ?_ GE406.out)|exact HB.out⟩
  ·rw [if_neg c6] at H
   have c6b0 : (t403 == 0) = false := beq_eq_false_iff_ne.mpr c6
   have c6b1 : (t403 != 0) = true := bne_iff_ne.mpr c6
   simp only [Option.some.injEq, Prod.mk.injEq] at H
   obtain ⟨rfl, rfl, rfl⟩ := H
   go_enter Tryz.func107, Tryz.ntmps107
   go_wp2_with (first | ((with_reducible refine gate_dst (N := 2) rfl ?_); refine box_event ?hg (N := 2) ?hd (cs := #[.int .u32 0, .int .i64 0]) (t := 159) ?hr ?_; (case hd => rfl); (case hg => rfl); (case hr => first | (go_simp; done) | (go_simp; rfl)); intro gb398 hg w37 hbox hb; have n0_ := Aside0.mk (below_step (gB HB.out) hb); have n1_ := Aside0.mk (hbox); have n2_ := Aside0.mk ((by rw [hg]; exact (below_size (gB HB.out)) : w.heap.size ≤ gb398)); have n3_ := Aside0.mk ((by rw [hg]; exact (below_size (gB HB.out)) : w.heap.size ≤ gb398)); clear HB; have HB := n0_; have BK398 := n1_; have GW398 := n2_; have GE398 := n3_; clear n0_ n1_ n2_ n3_; clear hb hbox hg) | ((with_reducible refine gate_callee (f := 109) rfl ?_); refine goesL_ (some 14) rfl rfl Tryz.func109 (by kernel_rfl) rfl #[.string a0, .string (⟨#[47]⟩ : ByteArray)] rfl (by (try simp only [mA_, mC_, mN_]); first|done|rfl|(simp only [lD_, lT_]; rfl)) ?_; (with_reducible refine (strings_Cut.calls a0 (⟨#[47]⟩ : ByteArray) t399 t400 true _ ?side1 A2.out).mono ?_); (case side1 => exact HLd.below (by repeat first|(with_reducible first|exact HB.out|apply ba|apply bd|apply b1|refine bs ?_ GE398.out)|exact HB.out)); rintro e w38 ⟨rfl, hb⟩; refine ⟨_, rfl, ?_⟩; have n0_ := Aside0.mk (blk_below (g := gb398) (o := .cells #[.int .u32 0, .int .i64 0] 159 (0, 0)) (gK BK398.out) hb); have n1_ := Aside0.mk (below_step (by repeat first|(with_reducible first|exact HB.out|apply ba|apply bd|apply b1|refine bs ?_ GE398.out)|exact HB.out) hb); clear BK398; clear HB; have BK398 := n0_; have HB := n1_; clear n0_ n1_; (try clear hb); (try clear hb2); (try clear hk); (try clear hi)) | ((with_reducible refine gate_callee (f := 110) rfl ?_); refine goesL_ (some 20) rfl rfl Tryz.func110 (by kernel_rfl) rfl #[.string t399] rfl (by (try simp only [mA_, mC_, mN_]); first|done|rfl|(simp only [lD_, lT_]; rfl)) ?_; (with_reducible refine (prefix_ParseAddr.calls k t399 t402 t403 _ ?side1 A3.out).mono ?_); (case side1 => exact HLd.below (by repeat first|(with_reducible first|exact HB.out|apply ba|apply bd|apply b1|refine bs ?_ GE398.out)|exact HB.out)); rintro e w39 ⟨rfl, hb⟩; refine ⟨_, rfl, ?_⟩; have n0_ := Aside0.mk (blk_below (g := gb398) (o := .cells #[.int .u32 0, .int .i64 0] 159 (0, 0)) (gK BK398.out) hb); have n1_ := Aside0.mk (below_step (by repeat first|(with_reducible first|exact HB.out|apply ba|apply bd|apply b1|refine bs ?_ GE398.out)|exact HB.out) hb); clear BK398; clear HB; have BK398 := n0_; have HB := n1_; clear n0_ n1_; (try clear hb); (try clear hb2); (try clear hk); (try clear hi)) | ((with_reducible refine gate_callee (f := 151) rfl ?_); refine goesL_ (some 25) rfl rfl Tryz.func151 (by kernel_rfl) rfl #[.string t400, .int .i64 32] rfl (by (try simp only [mA_, mC_, mN_]); first|done|rfl|(simp only [lD_, lT_]; rfl)) ?_; (with_reducible refine (prefix_number.calls t400 32 t404 t405 _ ?side1 A4.out).mono ?_); (case side1 => exact HLd.below (by repeat first|(with_reducible first|exact HB.out|apply ba|apply bd|apply b1|refine bs ?_ GE398.out)|exact HB.out)); rintro e w40 ⟨rfl, hb⟩; refine ⟨_, rfl, ?_⟩; have n0_ := Aside0.mk (blk_below (g := gb398) (o := .cells #[.int .u32 0, .int .i64 0] 159 (0, 0)) (gK BK398.out) hb); have n1_ := Aside0.mk (below_step (by repeat first|(with_reducible first|exact HB.out|apply ba|apply bd|apply b1|refine bs ?_ GE398.out)|exact HB.out) hb); clear BK398; clear HB; have BK398 := n0_; have HB := n1_; clear n0_ n1_; (try clear hb); (try clear hb2); (try clear hk); (try clear hi)) | ((with_reducible refine gate_dst (N := 11) rfl ?_); refine box_event ?hg (N := 11) ?hd (cs := #[.int .u32 0, .int .i64 0]) (t := 159) ?hr ?_; (case hd => rfl); (case hg => rfl); (case hr => first | (go_simp; done) | (go_simp; rfl)); intro gb406 hg w41 hbox hb; have n0_ := Aside0.mk (blk_below (g := gb398) (o := .cells #[.int .u32 0, .int .i64 0] 159 (0, 0)) (gK BK398.out) hb); have n1_ := Aside0.mk (below_step (by repeat first|(with_reducible first|exact HB.out|apply ba|apply bd|apply b1|refine bs ?_ GE398.out)|exact HB.out) hb); have n2_ := Aside0.mk (hbox); have n3_ := Aside0.mk ((by rw [hg]; exact (below_size (by repeat first|(with_reducible first|exact HB.out|apply ba|apply bd|apply b1|refine bs ?_ GE398.out)|exact HB.out)) : w.heap.size ≤ gb406)); have n4_ := Aside0.mk ((by rw [hg]; exact (below_size (by repeat first|(with_reducible first|exact HB.out|apply ba|apply bd|apply b1|refine bs ?_ GE398.out)|exact HB.out)) : w.heap.size ≤ gb406)); have n5_ := Aside0.mk ((by rw [hg]; exact Nat.ne_of_lt (blk_lt (g := gb398) (o := .cells #[.int .u32 0, .int .i64 0] 159 (0, 0)) (gK BK398.out)) : gb398 ≠ gb406)); have n6_ := Aside0.mk ((by rw [hg]; exact Nat.ne_of_gt (blk_lt (g := gb398) (o := .cells #[.int .u32 0, .int .i64 0] 159 (0, 0)) (gK BK398.out)) : gb406 ≠ gb398)); clear BK398; clear HB; have BK398 := n0_; have HB := n1_; have BK406 := n2_; have GW406 := n3_; have GE406 := n4_; have NB398_406 := n5_; have NB406_398 := n6_; clear n0_ n1_ n2_ n3_ n4_ n5_ n6_; clear hb hbox hg; have hnb42 := NB406_398.out; have hnc42 := NB398_406.out; have hcz43_0 : w41.cell? ⟨gb406, 0, none⟩ = some (.int .u32 0) := (blk_cell BK406.out 0).trans rfl; have hcz43_1 : w41.cell? ⟨gb406, 1, none⟩ = some (.int .i64 0) := (blk_cell BK406.out 1).trans rfl; have hfz43_0 := blk_frozen BK406.out 0; have hfz43_1 := blk_frozen BK406.out 1; have hcz44_0 : w41.cell? ⟨gb398, 0, none⟩ = some (.int .u32 0) := (blk_cell BK398.out 0).trans rfl; have hcz44_1 : w41.cell? ⟨gb398, 1, none⟩ = some (.int .i64 0) := (blk_cell BK398.out 1).trans rfl; have hfz44_0 := blk_frozen BK398.out 0; have hfz44_1 := blk_frozen BK398.out 1))
   refine bodyPost_ret (results_ct rfl _ _ gb398 159 #[.int .u32 0, .int .i64 0] (0, 0) _ rfl (by (with_reducible repeat (first | refine blk_drewN ?_ _ | refine blk_drew ?_ | refine blk_alloc ?_ _)); refine blk_put (cs := #[.int .u32 0, .int .i64 0]) ?_ 1 _ rfl; (with_reducible repeat (first | refine blk_drewN ?_ _ | refine blk_drew ?_ | refine blk_alloc ?_ _)); refine blk_put (cs := #[.int .u32 0, .int .i64 0]) ?_ 0 _ rfl; (with_reducible repeat (first | refine blk_drewN ?_ _ | refine blk_drew ?_ | refine blk_alloc ?_ _)); refine blk_far ?_ NB398_406.out _; (with_reducible repeat (first | refine blk_drewN ?_ _ | refine blk_drew ?_ | refine blk_alloc ?_ _)); refine blk_far ?_ NB398_406.out _; (with_reducible repeat (first | refine blk_drewN ?_ _ | refine blk_drew ?_ | refine blk_alloc ?_ _)); exact BK398.out) Tryz.underlying159 rfl (by kernel_rfl)) rfl ?_
   exact ⟨by first | rfl | (simp [errW_none, errW_some] <;> rfl) | (simp [*, errW_none, errW_some] <;> rfl), by repeat first|(with_reducible first|exact HB.out|apply ba|apply bd|apply b1|refine bs ?_ GE398.out|refine bs ?_ GE406.out)|exact HB.out⟩
 ·replace c5 := Bool.eq_false_iff.mpr c5
  subst c5
  rw [if_neg (show ¬ (false = true) by decide)] at H
  simp only [Option.some.injEq, Prod.mk.injEq] at H
  obtain ⟨rfl, rfl, rfl⟩ := H
  go_enter Tryz.func107, Tryz.ntmps107
  go_wp2_with (first | ((with_reducible refine gate_dst (N := 2) rfl ?_); refine box_event ?hg (N := 2) ?hd (cs := #[.int .u32 0, .int .i64 0]) (t := 159) ?hr ?_; (case hd => rfl); (case hg => rfl); (case hr => first | (go_simp; done) | (go_simp; rfl)); intro gb398 hg w45 hbox hb; have n0_ := Aside0.mk (below_step (gB HB.out) hb); have n1_ := Aside0.mk (hbox); have n2_ := Aside0.mk ((by rw [hg]; exact (below_size (gB HB.out)) : w.heap.size ≤ gb398)); have n3_ := Aside0.mk ((by rw [hg]; exact (below_size (gB HB.out)) : w.heap.size ≤ gb398)); clear HB; have HB := n0_; have BK398 := n1_; have GW398 := n2_; have GE398 := n3_; clear n0_ n1_ n2_ n3_; clear hb hbox hg) | ((with_reducible refine gate_callee (f := 109) rfl ?_); refine goesL_ (some 14) rfl rfl Tryz.func109 (by kernel_rfl) rfl #[.string a0, .string (⟨#[47]⟩ : ByteArray)] rfl (by (try simp only [mA_, mC_, mN_]); first|done|rfl|(simp only [lD_, lT_]; rfl)) ?_; (with_reducible refine (strings_Cut.calls a0 (⟨#[47]⟩ : ByteArray) t399 t400 false _ ?side1 A2.out).mono ?_); (case side1 => exact HLd.below (by repeat first|(with_reducible first|exact HB.out|apply ba|apply bd|apply b1|refine bs ?_ GE398.out)|exact HB.out)); rintro e w46 ⟨rfl, hb⟩; refine ⟨_, rfl, ?_⟩; have n0_ := Aside0.mk (blk_below (g := gb398) (o := .cells #[.int .u32 0, .int .i64 0] 159 (0, 0)) (gK BK398.out) hb); have n1_ := Aside0.mk (below_step (by repeat first|(with_reducible first|exact HB.out|apply ba|apply bd|apply b1|refine bs ?_ GE398.out)|exact HB.out) hb); clear BK398; clear HB; have BK398 := n0_; have HB := n1_; clear n0_ n1_; (try clear hb); (try clear hb2); (try clear hk); (try clear hi)) | ((with_reducible refine gate_callee (f := 110) rfl ?_); refine goesL_ (some 20) rfl rfl Tryz.func110 (by kernel_rfl) rfl #[.string t399] rfl (by (try simp only [mA_, mC_, mN_]); first|done|rfl|(simp only [lD_, lT_]; rfl)) ?_; (with_reducible refine (prefix_ParseAddr.calls k t399 t402 t403 _ ?side1 A3.out).mono ?_); (case side1 => exact HLd.below (by repeat first|(with_reducible first|exact HB.out|apply ba|apply bd|apply b1|refine bs ?_ GE398.out)|exact HB.out)); rintro e w47 ⟨rfl, hb⟩; refine ⟨_, rfl, ?_⟩; have n0_ := Aside0.mk (blk_below (g := gb398) (o := .cells #[.int .u32 0, .int .i64 0] 159 (0, 0)) (gK BK398.out) hb); have n1_ := Aside0.mk (below_step (by repeat first|(with_reducible first|exact HB.out|apply ba|apply bd|apply b1|refine bs ?_ GE398.out)|exact HB.out) hb); clear BK398; clear HB; have BK398 := n0_; have HB := n1_; clear n0_ n1_; (try clear hb); (try clear hb2); (try clear hk); (try clear hi)) | ((with_reducible refine gate_callee (f := 151) rfl ?_); refine goesL_ (some 25) rfl rfl Tryz.func151 (by kernel_rfl) rfl #[.string t400, .int .i64 32] rfl (by (try simp only [mA_, mC_, mN_]); first|done|rfl|(simp only [lD_, lT_]; rfl)) ?_; (with_reducible refine (prefix_number.calls t400 32 t404 t405 _ ?side1 A4.out).mono ?_); (case side1 => exact HLd.below (by repeat first|(with_reducible first|exact HB.out|apply ba|apply bd|apply b1|refine bs ?_ GE398.out)|exact HB.out)); rintro e w48 ⟨rfl, hb⟩; refine ⟨_, rfl, ?_⟩; have n0_ := Aside0.mk (blk_below (g := gb398) (o := .cells #[.int .u32 0, .int .i64 0] 159 (0, 0)) (gK BK398.out) hb); have n1_ := Aside0.mk (below_step (by repeat first|(with_reducible first|exact HB.out|apply ba|apply bd|apply b1|refine bs ?_ GE398.out)|exact HB.out) hb); clear BK398; clear HB; have BK398 := n0_; have HB := n1_; clear n0_ n1_; (try clear hb); (try clear hb2); (try clear hk); (try clear hi)) | ((with_reducible refine gate_dst (N := 11) rfl ?_); refine box_event ?hg (N := 11) ?hd (cs := #[.int .u32 0, .int .i64 0]) (t := 159) ?hr ?_; (case hd => rfl); (case hg => rfl); (case hr => first | (go_simp; done) | (go_simp; rfl)); intro gb406 hg w49 hbox hb; have n0_ := Aside0.mk (blk_below (g := gb398) (o := .cells #[.int .u32 0, .int .i64 0] 159 (0, 0)) (gK BK398.out) hb); have n1_ := Aside0.mk (below_step (by repeat first|(with_reducible first|exact HB.out|apply ba|apply bd|apply b1|refine bs ?_ GE398.out)|exact HB.out) hb); have n2_ := Aside0.mk (hbox); have n3_ := Aside0.mk ((by rw [hg]; exact (below_size (by repeat first|(with_reducible first|exact HB.out|apply ba|apply bd|apply b1|refine bs ?_ GE398.out)|exact HB.out)) : w.heap.size ≤ gb406)); have n4_ := Aside0.mk ((by rw [hg]; exact (below_size (by repeat first|(with_reducible first|exact HB.out|apply ba|apply bd|apply b1|refine bs ?_ GE398.out)|exact HB.out)) : w.heap.size ≤ gb406)); have n5_ := Aside0.mk ((by rw [hg]; exact Nat.ne_of_lt (blk_lt (g := gb398) (o := .cells #[.int .u32 0, .int .i64 0] 159 (0, 0)) (gK BK398.out)) : gb398 ≠ gb406)); have n6_ := Aside0.mk ((by rw [hg]; exact Nat.ne_of_gt (blk_lt (g := gb398) (o := .cells #[.int .u32 0, .int .i64 0] 159 (0, 0)) (gK BK398.out)) : gb406 ≠ gb398)); clear BK398; clear HB; have BK398 := n0_; have HB := n1_; have BK406 := n2_; have GW406 := n3_; have GE406 := n4_; have NB398_406 := n5_; have NB406_398 := n6_; clear n0_ n1_ n2_ n3_ n4_ n5_ n6_; clear hb hbox hg; have hnb50 := NB406_398.out; have hnc50 := NB398_406.out; have hcz51_0 : w49.cell? ⟨gb406, 0, none⟩ = some (.int .u32 0) := (blk_cell BK406.out 0).trans rfl; have hcz51_1 : w49.cell? ⟨gb406, 1, none⟩ = some (.int .i64 0) := (blk_cell BK406.out 1).trans rfl; have hfz51_0 := blk_frozen BK406.out 0; have hfz51_1 := blk_frozen BK406.out 1; have hcz52_0 : w49.cell? ⟨gb398, 0, none⟩ = some (.int .u32 0) := (blk_cell BK398.out 0).trans rfl; have hcz52_1 : w49.cell? ⟨gb398, 1, none⟩ = some (.int .i64 0) := (blk_cell BK398.out 1).trans rfl; have hfz52_0 := blk_frozen BK398.out 0; have hfz52_1 := blk_frozen BK398.out 1))
  refine bodyPost_ret (results_ct rfl _ _ gb398 159 #[.int .u32 0, .int .i64 0] (0, 0) _ rfl (by (with_reducible repeat (first | refine blk_drewN ?_ _ | refine blk_drew ?_ | refine blk_alloc ?_ _)); refine blk_put (cs := #[.int .u32 0, .int .i64 0]) ?_ 1 _ rfl; (with_reducible repeat (first | refine blk_drewN ?_ _ | refine blk_drew ?_ | refine blk_alloc ?_ _)); refine blk_put (cs := #[.int .u32 0, .int .i64 0]) ?_ 0 _ rfl; (with_reducible repeat (first | refine blk_drewN ?_ _ | refine blk_drew ?_ | refine blk_alloc ?_ _)); refine blk_far ?_ NB398_406.out _; (with_reducible repeat (first | refine blk_drewN ?_ _ | refine blk_drew ?_ | refine blk_alloc ?_ _)); refine blk_far ?_ NB398_406.out _; (with_reducible repeat (first | refine blk_drewN ?_ _ | refine blk_drew ?_ | refine blk_alloc ?_ _)); exact BK398.out) Tryz.underlying159 rfl (by kernel_rfl)) rfl ?_
  exact ⟨by first | rfl | (simp [errW_none, errW_some] <;> rfl) | (simp [*, errW_none, errW_some] <;> rfl), by repeat first|(with_reducible first|exact HB.out|apply ba|apply bd|apply b1|refine bs ?_ GE398.out|refine bs ?_ GE406.out)|exact HB.out⟩
def prefix_Range.f (a0_0 : Int) (a0_1 : Int) : Option (Int × Int × Int) := (prefix_Right.f a0_0 a0_1).bind fun t410 => (if t410 = true then ((prefix_mask.f a0_1).bind fun t411 => (some (a0_0, Go.bits .or .u32 a0_0 t411, 0))) else (some (0, 0, 21)))
def prefix_Range.T3 : Bool × List (List Nat × List Nat) := (true, [([], []), ([0], [0]), ([], []), ([2], [2]), ([], []), ([4], [4]), ([5], [5]), ([3, 6], [3, 6]), ([1, 7], [1, 7]), ([8, 6, 0, 1, 2, 3, 4, 5, 6, 7, 8], [8]), ([9, 0, 1, 2, 3, 4, 5, 6, 7, 8, 9], [])])
def prefix_Range.B3 : List Nat := [0, 1, 0, 4, 0, 16, 48, 124, 255, 511, 1023]
theorem prefix_Range.tab3 : rtab .any (opsOf Tryz.f108 3) = prefix_Range.T3 := by kernel_rfl
theorem prefix_Range.bits3 : waitsOk prefix_Range.T3.2 prefix_Range.B3 = true := by kernel_rfl
set_option maxHeartbeats 8000000 in
set_option maxRecDepth 100000 in
theorem prefix_Range.calls (a0_0 : Int) (a0_1 : Int) (r1 : Int) (r2 : Int) (r3 : Int) (w : World) (h : prefix_Range.f a0_0 a0_1 = some (r1, r2, r3)) :
  Calls Tryz.prog 108 #[.agg #[.int .u32 a0_0, .int .i64 a0_1]] w fun e w' => e = .returned (.tuple #[.agg #[.int .u32 r1, .int .u32 r2], .int .i64 r3]) ∧ Below w.heap.size w w' := by
 have hu159 := Tryz.underlying159
 have hu25 := Tryz.underlying25
 have HB := Aside0.mk (Below.refl w.heap.size w)
 have H : ((prefix_Right.f a0_0 a0_1).bind fun t410 => (if t410 = true then ((prefix_mask.f a0_1).bind fun t411 => (some (a0_0, Go.bits .or .u32 a0_0 t411, 0))) else (some (0, 0, 21)))) = some (r1, r2, r3) := h
 clear h
 replace H := Option.bind_eq_some_iff.mp H
 obtain ⟨t410, A20, H⟩ := H
 try dsimp only at H
 have A2 := Aside0.mk A20
 clear A20
 by_cases c3 : t410 = true
 ·subst c3
  rw [if_pos rfl] at H
  replace H := Option.bind_eq_some_iff.mp H
  obtain ⟨t411, A40, H⟩ := H
  try dsimp only at H
  have A4 := Aside0.mk A40
  clear A40
  simp only [Option.some.injEq, Prod.mk.injEq] at H
  obtain ⟨rfl, rfl, rfl⟩ := H
  go_enter Tryz.func108, Tryz.ntmps108
  try go_wp2_with (first | ((with_reducible refine gate_dst (N := 1) rfl ?_); refine box_event ?hg (N := 1) ?hd (cs := #[.int .u32 a0_0, .int .i64 a0_1]) (t := 159) ?hr ?_; (case hd => rfl); (case hg => rfl); (case hr => first | (go_simp; done) | (go_simp; rfl)); intro gb408 hg w5 hbox hb; have n0_ := Aside0.mk (below_step (gB HB.out) hb); have n1_ := Aside0.mk (hbox); have n2_ := Aside0.mk ((by rw [hg]; exact (below_size (gB HB.out)) : w.heap.size ≤ gb408)); have n3_ := Aside0.mk ((by rw [hg]; exact (below_size (gB HB.out)) : w.heap.size ≤ gb408)); clear HB; have HB := n0_; have BK408 := n1_; have GW408 := n2_; have GE408 := n3_; clear n0_ n1_ n2_ n3_; clear hb hbox hg) | ((with_reducible refine gate_dst (N := 2) rfl ?_); refine box_event ?hg (N := 2) ?hd (cs := #[.int .u32 0, .int .u32 0]) (t := 25) ?hr ?_; (case hd => rfl); (case hg => rfl); (case hr => first | (go_simp; done) | (go_simp; rfl)); intro gb409 hg w6 hbox hb; have n0_ := Aside0.mk (blk_below (g := gb408) (o := .cells #[.int .u32 a0_0, .int .i64 a0_1] 159 (0, 0)) (gK BK408.out) hb); have n1_ := Aside0.mk (below_step (by repeat first|(with_reducible first|exact HB.out|apply ba|apply bd|apply b1|refine bs ?_ GE408.out)|exact HB.out) hb); have n2_ := Aside0.mk (hbox); have n3_ := Aside0.mk ((by rw [hg]; exact (below_size (by repeat first|(with_reducible first|exact HB.out|apply ba|apply bd|apply b1|refine bs ?_ GE408.out)|exact HB.out)) : w.heap.size ≤ gb409)); have n4_ := Aside0.mk ((by rw [hg]; exact (below_size (by repeat first|(with_reducible first|exact HB.out|apply ba|apply bd|apply b1|refine bs ?_ GE408.out)|exact HB.out)) : w.heap.size ≤ gb409)); have n5_ := Aside0.mk ((by rw [hg]; exact Nat.ne_of_lt (blk_lt (g := gb408) (o := .cells #[.int .u32 a0_0, .int .i64 a0_1] 159 (0, 0)) (gK BK408.out)) : gb408 ≠ gb409)); have n6_ := Aside0.mk ((by rw [hg]; exact Nat.ne_of_gt (blk_lt (g := gb408) (o := .cells #[.int .u32 a0_0, .int .i64 a0_1] 159 (0, 0)) (gK BK408.out)) : gb409 ≠ gb408)); clear BK408; clear HB; have BK408 := n0_; have HB := n1_; have BK409 := n2_; have GW409 := n3_; have GE409 := n4_; have NB408_409 := n5_; have NB409_408 := n6_; clear n0_ n1_ n2_ n3_ n4_ n5_ n6_; clear hb hbox hg; have hnb7 := NB408_409.out; have hnc7 := NB409_408.out; have hcz8_0 : w6.cell? ⟨gb408, 0, none⟩ = some (.int .u32 a0_0) := (blk_cell BK408.out 0).trans rfl; have hcz8_1 : w6.cell? ⟨gb408, 1, none⟩ = some (.int .i64 a0_1) := (blk_cell BK408.out 1).trans rfl; have hfz8_0 := blk_frozen BK408.out 0; have hfz8_1 := blk_frozen BK408.out 1) | ((with_reducible refine gate_callee (f := 152) rfl ?_); refine goesL_ (some 5) rfl rfl Tryz.func152 (by kernel_rfl) rfl #[.agg #[.int .u32 a0_0, .int .i64 a0_1]] rfl (by (try simp only [mA_, mC_, mN_]); first|done|rfl|(simp only [lD_, lT_]; rfl)) ?_; (with_reducible refine (prefix_Right.calls a0_0 a0_1 true _ A2.out).mono ?_); rintro e w9 ⟨rfl, hb⟩; refine ⟨_, rfl, ?_⟩; have n0_ := Aside0.mk (blk_below (g := gb408) (o := .cells #[.int .u32 a0_0, .int .i64 a0_1] 159 (0, 0)) (gK BK408.out) hb); have n1_ := Aside0.mk (blk_below (g := gb409) (o := .cells #[.int .u32 0, .int .u32 0] 25 (0, 0)) (gK BK409.out) hb); have n2_ := Aside0.mk (below_step (by repeat first|(with_reducible first|exact HB.out|apply ba|apply bd|apply b1|refine bs ?_ GE408.out|refine bs ?_ GE409.out)|exact HB.out) hb); clear BK408; clear BK409; clear HB; have BK408 := n0_; have BK409 := n1_; have HB := n2_; clear n0_ n1_ n2_; (try clear hb); (try clear hb2); (try clear hk); (try clear hi)))
  have n0_ := Aside0.mk (blk_drew BK408.out)
  have n1_ := Aside0.mk (blk_drew BK409.out)
  have n2_ := Aside0.mk (below_drew1 HB.out)
  clear BK408
  clear BK409
  clear HB
  have BK408 := n0_
  have BK409 := n1_
  have HB := n2_
  clear n0_ n1_ n2_
  refine start_ (n := 11) (S := fun w' => w'.cell? ⟨gb408, 0, none⟩ = some (.int .u32 a0_0) ∧ w'.cell? ⟨gb408, 1, none⟩ = some (.int .i64 a0_1)) (ds := []) #[false, false, false, false, false, false, false, false, false, false, false] (by kernel_rfl) rfl rfl ⟨(blk_cell BK408.out 0).trans rfl, (blk_cell BK408.out 1).trans rfl⟩ (fun hHeld => ?_); refine with_tabW prefix_Range.tab3 prefix_Range.bits3 (fun HT_ HW_ => ?_)
  generalize w9.drew = w10 at BK408 BK409 HB hHeld ⊢
  refine pure_ (i := 0) (N := some 8) (v := ?_) (a' := ?_) #[true, false, false, false, false, false, false, false, false, false, false] rfl rfl (any_of HT_.out (by kernel_rfl)) (fun _ _ _ h => h) (Or.inl ⟨by rfl, ?_⟩) ?_ ?_
  rotate_left
  ·intro w'
   go_simp
   with_reducible rfl
  rotate_left
  ·simp only [Act.put, sI_, z0_, z1_, i64_w, i32_w]
   rfl
  refine pure_ (i := 2) (N := some 10) (v := ?_) (a' := ?_) #[true, false, true, false, false, false, false, false, false, false, false] rfl rfl (any_of HT_.out (by kernel_rfl)) (fun _ _ _ h => h) (Or.inl ⟨by rfl, ?_⟩) ?_ ?_
  rotate_left
  ·intro w'
   go_simp
   with_reducible rfl
  rotate_left
  ·simp only [Act.put, sI_, z0_, z1_, i64_w, i32_w]
   rfl
  refine pure_ (i := 4) (N := some 12) (v := ?_) (a' := ?_) #[true, false, true, false, true, false, false, false, false, false, false] rfl rfl (any_of HT_.out (by kernel_rfl)) (fun _ _ _ h => h) (Or.inl ⟨by rfl, ?_⟩) ?_ ?_
  rotate_left
  ·intro w'
   go_simp
   with_reducible rfl
  rotate_left
  ·simp only [Act.put, sI_, z0_, z1_, i64_w, i32_w]
   rfl
  refine take_ (i := 1) (N := some 9) (v := ?_) (a' := ?_) #[true, true, true, false, true, false, false, false, false, false, false] rfl rfl (take_ofW HT_.out HW_.out (by kernel_rfl)) (fun _ _ _ h => h) (Or.inl ⟨by rfl, ?_⟩) hHeld ?_ ?_
  rotate_left
  ·rintro w' ⟨s0, s1⟩
   go_simp
   with_reducible rfl
  rotate_left
  ·simp only [Act.put, sI_, z0_, z1_, i64_w, i32_w]
   rfl
  refine take_ (i := 3) (N := some 11) (v := ?_) (a' := ?_) #[true, true, true, true, true, false, false, false, false, false, false] rfl rfl (take_ofW HT_.out HW_.out (by kernel_rfl)) (fun _ _ _ h => h) (Or.inl ⟨by rfl, ?_⟩) hHeld ?_ ?_
  rotate_left
  ·rintro w' ⟨s0, s1⟩
   go_simp
   with_reducible rfl
  rotate_left
  ·simp only [Act.put, sI_, z0_, z1_, i64_w, i32_w]
   rfl
  refine take_ (i := 5) (N := some 13) (v := ?_) (a' := ?_) #[true, true, true, true, true, true, false, false, false, false, false] rfl rfl (take_ofW HT_.out HW_.out (by kernel_rfl)) (fun _ _ _ h => h) (Or.inl ⟨by rfl, ?_⟩) hHeld ?_ ?_
  rotate_left
  ·rintro w' ⟨s0, s1⟩
   go_simp
   with_reducible rfl
  rotate_left
  ·simp only [Act.put, sI_, z0_, z1_, i64_w, i32_w]
   rfl
  refine one_ (i := 6) (N := some 14) #[true, true, true, true, true, true, true, false, false, false, false] rfl rfl (one_of HT_.out (by kernel_rfl)) (by decide) (fun K hK => ?_)
  refine goes_ Tryz.func153 (by kernel_rfl) rfl #[.int .i64 a0_1] (by rfl) rfl rfl (by (try simp only [mA_, mC_, mN_]); first|done|rfl|(simp only [lD_, lT_]; rfl)) ?_
  with_reducible refine (prefix_mask.calls a0_1 t411 _ A4.out).mono ?_
  rintro e w' ⟨rfl, ⟨nd, rfl⟩⟩
  refine ⟨_, rfl, ?_⟩
  refine hK.out _ _ ⟨(blk_cell BK408.out 0).trans rfl, (blk_cell BK408.out 1).trans rfl⟩ (fun hHeld => ?_)
  clear hK K
  refine norm_ (a' := ?_) ?_ ?_
  rotate_left
  ·show Act.put _ (some 14) _ = _
   simp only [Act.put, sI_, z0_, z1_, i64_w, i32_w]
   rfl
  refine pure_ (i := 7) (N := some 15) (v := ?_) (a' := ?_) #[true, true, true, true, true, true, true, true, false, false, false] rfl rfl (any_of HT_.out (by kernel_rfl)) (fun _ _ _ h => h) (Or.inl ⟨by rfl, ?_⟩) ?_ ?_
  rotate_left
  ·intro w'
   go_simp
   with_reducible rfl
  rotate_left
  ·simp only [Act.put, sI_, z0_, z1_, i64_w, i32_w]
   rfl
  refine pure_ (i := 8) (N := some 16) (v := ?_) (a' := ?_) #[true, true, true, true, true, true, true, true, true, false, false] rfl rfl (any_of HT_.out (by kernel_rfl)) (fun _ _ _ h => h) (Or.inl ⟨by rfl, ?_⟩) ?_ ?_
  rotate_left
  ·intro w'
   go_simp
   with_reducible rfl
  rotate_left
  ·simp only [Act.put, sI_, z0_, z1_, i64_w, i32_w]
   rfl
  refine one_ (i := 9) (N := none) #[true, true, true, true, true, true, true, true, true, true, false] rfl rfl (one_of HT_.out (by kernel_rfl)) (by decide) (fun K hK => ?_)
  have hs11 : w10.cell? ⟨gb409, 0, none⟩ = some (.int .u32 0) := (blk_cell BK409.out 0).trans rfl
  have hfs11 := blk_frozen BK409.out 0
  have hns11_0 := NB408_409.out
  have hms11_0 := NB409_408.out
  have hs12 : w10.cell? ⟨gb409, 1, none⟩ = some (.int .u32 0) := (blk_cell BK409.out 1).trans rfl
  have hfs12 := blk_frozen BK409.out 1
  have hns12_0 := NB408_409.out
  have hms12_0 := NB409_408.out
  refine skip_ (w1 := ?_) (by rfl) rfl ?_ ?_
  rotate_left
  ·go_simp
   rfl
  refine hK.out _ _ ⟨((cell_far (p := ⟨gb409, _, none⟩) NB408_409.out _).trans (((cell_far (p := ⟨gb409, _, none⟩) NB408_409.out _).trans (hHeld.1)))), ((cell_far (p := ⟨gb409, _, none⟩) NB408_409.out _).trans (((cell_far (p := ⟨gb409, _, none⟩) NB408_409.out _).trans (hHeld.2))))⟩ (fun hHeld => ?_)
  clear hK K
  refine pure_ (i := 10) (N := some 3) (v := ?_) (a' := ?_) #[true, true, true, true, true, true, true, true, true, true, true] rfl rfl (any_of HT_.out (by kernel_rfl)) (fun _ _ _ h => h) (Or.inl ⟨by rfl, ?_⟩) ?_ ?_
  rotate_left
  ·intro w'
   go_simp
   with_reducible rfl
  rotate_left
  ·simp only [Act.put, sI_, z0_, z1_, i64_w, i32_w]
   rfl
  refine done_ (done_of HT_.out (by kernel_rfl)) ?_
  try go_wp2
  refine bodyPost_ret (results_ct rfl _ _ gb409 25 #[.int .u32 a0_0, .int .u32 (Go.bits .or .u32 a0_0 t411)] (0, 0) _ rfl (by (with_reducible repeat (first | refine blk_drewN ?_ _ | refine blk_drew ?_ | refine blk_alloc ?_ _)); refine blk_put (cs := #[.int .u32 a0_0, .int .u32 0]) ?_ 1 _ rfl; (with_reducible repeat (first | refine blk_drewN ?_ _ | refine blk_drew ?_ | refine blk_alloc ?_ _)); refine blk_put (cs := #[.int .u32 0, .int .u32 0]) ?_ 0 _ rfl; (with_reducible repeat (first | refine blk_drewN ?_ _ | refine blk_drew ?_ | refine blk_alloc ?_ _)); exact BK409.out) Tryz.underlying25 rfl (by kernel_rfl)) rfl ?_
  exact ⟨by first | rfl | (simp [errW_none, errW_some] <;> rfl) | (simp [*, errW_none, errW_some] <;> rfl), by repeat first|(with_reducible first|exact HB.out|apply ba|apply bd|apply b1|refine bs ?_ GE408.out|refine bs ?_ GE409.out)|exact HB.out⟩
 ·replace c3 := Bool.eq_false_iff.mpr c3
  subst c3
  rw [if_neg (show ¬ (false = true) by decide)] at H
  simp only [Option.some.injEq, Prod.mk.injEq] at H
  obtain ⟨rfl, rfl, rfl⟩ := H
  go_enter Tryz.func108, Tryz.ntmps108
  go_wp2_with (first | ((with_reducible refine gate_dst (N := 1) rfl ?_); refine box_event ?hg (N := 1) ?hd (cs := #[.int .u32 a0_0, .int .i64 a0_1]) (t := 159) ?hr ?_; (case hd => rfl); (case hg => rfl); (case hr => first | (go_simp; done) | (go_simp; rfl)); intro gb408 hg w13 hbox hb; have n0_ := Aside0.mk (below_step (gB HB.out) hb); have n1_ := Aside0.mk (hbox); have n2_ := Aside0.mk ((by rw [hg]; exact (below_size (gB HB.out)) : w.heap.size ≤ gb408)); have n3_ := Aside0.mk ((by rw [hg]; exact (below_size (gB HB.out)) : w.heap.size ≤ gb408)); clear HB; have HB := n0_; have BK408 := n1_; have GW408 := n2_; have GE408 := n3_; clear n0_ n1_ n2_ n3_; clear hb hbox hg) | ((with_reducible refine gate_dst (N := 2) rfl ?_); refine box_event ?hg (N := 2) ?hd (cs := #[.int .u32 0, .int .u32 0]) (t := 25) ?hr ?_; (case hd => rfl); (case hg => rfl); (case hr => first | (go_simp; done) | (go_simp; rfl)); intro gb409 hg w14 hbox hb; have n0_ := Aside0.mk (blk_below (g := gb408) (o := .cells #[.int .u32 a0_0, .int .i64 a0_1] 159 (0, 0)) (gK BK408.out) hb); have n1_ := Aside0.mk (below_step (by repeat first|(with_reducible first|exact HB.out|apply ba|apply bd|apply b1|refine bs ?_ GE408.out)|exact HB.out) hb); have n2_ := Aside0.mk (hbox); have n3_ := Aside0.mk ((by rw [hg]; exact (below_size (by repeat first|(with_reducible first|exact HB.out|apply ba|apply bd|apply b1|refine bs ?_ GE408.out)|exact HB.out)) : w.heap.size ≤ gb409)); have n4_ := Aside0.mk ((by rw [hg]; exact (below_size (by repeat first|(with_reducible first|exact HB.out|apply ba|apply bd|apply b1|refine bs ?_ GE408.out)|exact HB.out)) : w.heap.size ≤ gb409)); have n5_ := Aside0.mk ((by rw [hg]; exact Nat.ne_of_lt (blk_lt (g := gb408) (o := .cells #[.int .u32 a0_0, .int .i64 a0_1] 159 (0, 0)) (gK BK408.out)) : gb408 ≠ gb409)); have n6_ := Aside0.mk ((by rw [hg]; exact Nat.ne_of_gt (blk_lt (g := gb408) (o := .cells #[.int .u32 a0_0, .int .i64 a0_1] 159 (0, 0)) (gK BK408.out)) : gb409 ≠ gb408)); clear BK408; clear HB; have BK408 := n0_; have HB := n1_; have BK409 := n2_; have GW409 := n3_; have GE409 := n4_; have NB408_409 := n5_; have NB409_408 := n6_; clear n0_ n1_ n2_ n3_ n4_ n5_ n6_; clear hb hbox hg; have hnb15 := NB408_409.out; have hnc15 := NB409_408.out; have hcz16_0 : w14.cell? ⟨gb408, 0, none⟩ = some (.int .u32 a0_0) := (blk_cell BK408.out 0).trans rfl; have hcz16_1 : w14.cell? ⟨gb408, 1, none⟩ = some (.int .i64 a0_1) := (blk_cell BK408.out 1).trans rfl; have hfz16_0 := blk_frozen BK408.out 0; have hfz16_1 := blk_frozen BK408.out 1) | ((with_reducible refine gate_callee (f := 152) rfl ?_); refine goesL_ (some 5) rfl rfl Tryz.func152 (by kernel_rfl) rfl #[.agg #[.int .u32 a0_0, .int .i64 a0_1]] rfl (by (try simp only [mA_, mC_, mN_]); first|done|rfl|(simp only [lD_, lT_]; rfl)) ?_; (with_reducible refine (prefix_Right.calls a0_0 a0_1 false _ A2.out).mono ?_); rintro e w17 ⟨rfl, hb⟩; refine ⟨_, rfl, ?_⟩; have n0_ := Aside0.mk (blk_below (g := gb408) (o := .cells #[.int .u32 a0_0, .int .i64 a0_1] 159 (0, 0)) (gK BK408.out) hb); have n1_ := Aside0.mk (blk_below (g := gb409) (o := .cells #[.int .u32 0, .int .u32 0] 25 (0, 0)) (gK BK409.out) hb); have n2_ := Aside0.mk (below_step (by repeat first|(with_reducible first|exact HB.out|apply ba|apply bd|apply b1|refine bs ?_ GE408.out|refine bs ?_ GE409.out)|exact HB.out) hb); clear BK408; clear BK409; clear HB; have BK408 := n0_; have BK409 := n1_; have HB := n2_; clear n0_ n1_ n2_; (try clear hb); (try clear hb2); (try clear hk); (try clear hi); have hcz18_0 : w17.cell? ⟨gb409, 0, none⟩ = some (.int .u32 0) := (blk_cell BK409.out 0).trans rfl; have hcz18_1 : w17.cell? ⟨gb409, 1, none⟩ = some (.int .u32 0) := (blk_cell BK409.out 1).trans rfl; have hfz18_0 := blk_frozen BK409.out 0; have hfz18_1 := blk_frozen BK409.out 1))
  refine bodyPost_ret (results_ct rfl _ _ gb409 25 #[.int .u32 0, .int .u32 0] (0, 0) _ rfl (by (with_reducible repeat (first | refine blk_drewN ?_ _ | refine blk_drew ?_ | refine blk_alloc ?_ _)); refine blk_put (cs := #[.int .u32 0, .int .u32 0]) ?_ 1 _ rfl; (with_reducible repeat (first | refine blk_drewN ?_ _ | refine blk_drew ?_ | refine blk_alloc ?_ _)); refine blk_put (cs := #[.int .u32 0, .int .u32 0]) ?_ 0 _ rfl; (with_reducible repeat (first | refine blk_drewN ?_ _ | refine blk_drew ?_ | refine blk_alloc ?_ _)); exact BK409.out) Tryz.underlying25 rfl (by kernel_rfl)) rfl ?_
  exact ⟨by first | rfl | (simp [errW_none, errW_some] <;> rfl) | (simp [*, errW_none, errW_some] <;> rfl), by repeat first|(with_reducible first|exact HB.out|apply ba|apply bd|apply b1|refine bs ?_ GE408.out|refine bs ?_ GE409.out)|exact HB.out⟩
def prefix_ParseRange.f (k : Nat) (a0 : ByteArray) : Option (Int × Int × Int) := (prefix_Parse.f k a0).bind fun bt413 => (if bt413.2.2 = 0 then ((prefix_Range.f bt413.1 bt413.2.1).bind fun bt417 => (some (bt417.1, bt417.2.1, bt417.2.2))) else ((strings_Cut.f a0 (⟨#[45]⟩ : ByteArray)).bind fun bt420 => ((prefix_ParseAddr.f k bt420.1).bind fun bt423 => ((prefix_ParseAddr.f k bt420.2.1).bind fun bt425 => (if bt420.2.2 = true then (if bt423.2 = 0 then (if bt425.2 = 0 then (if bt423.1 > bt425.1 then (some (0, 0, 21)) else (some (bt423.1, bt425.1, 0))) else (some (0, 0, 21))) else (some (0, 0, 21))) else (some (0, 0, 21)))))))
set_option maxHeartbeats 8000000 in
set_option maxRecDepth 100000 in
theorem prefix_ParseRange.calls (k : Nat) (a0 : ByteArray) (r1 : Int) (r2 : Int) (r3 : Int) (w : World) (HLd : Laid w) (h : prefix_ParseRange.f k a0 = some (r1, r2, r3)) :
  Calls Tryz.prog 58 #[.string a0] w fun e w' => e = .returned (.tuple #[.agg #[.int .u32 r1, .int .u32 r2], .int .i64 r3]) ∧ Below w.heap.size w w' := by
 have hu25 := Tryz.underlying25
 have hu159 := Tryz.underlying159
 have HB := Aside0.mk (Below.refl w.heap.size w)
 have H : ((prefix_Parse.f k a0).bind fun bt413 => (if bt413.2.2 = 0 then ((prefix_Range.f bt413.1 bt413.2.1).bind fun bt417 => (some (bt417.1, bt417.2.1, bt417.2.2))) else ((strings_Cut.f a0 (⟨#[45]⟩ : ByteArray)).bind fun bt420 => ((prefix_ParseAddr.f k bt420.1).bind fun bt423 => ((prefix_ParseAddr.f k bt420.2.1).bind fun bt425 => (if bt420.2.2 = true then (if bt423.2 = 0 then (if bt425.2 = 0 then (if bt423.1 > bt425.1 then (some (0, 0, 21)) else (some (bt423.1, bt425.1, 0))) else (some (0, 0, 21))) else (some (0, 0, 21))) else (some (0, 0, 21)))))))) = some (r1, r2, r3) := h
 clear h
 replace H := Option.bind_eq_some_iff.mp H
 obtain ⟨⟨t413, t414, t415⟩, A20, H⟩ := H
 try dsimp only at H
 have A2 := Aside0.mk A20
 clear A20
 by_cases c3 : t415 = 0
 ·rw [if_pos c3] at H
  have c3b0 : (t415 == 0) = true := beq_iff_eq.mpr c3
  have c3b1 : (t415 != 0) = false := bne_eq_false_iff_eq.mpr c3
  clear c3
  replace H := Option.bind_eq_some_iff.mp H
  obtain ⟨⟨t417, t418, t419⟩, A40, H⟩ := H
  try dsimp only at H
  have A4 := Aside0.mk A40
  clear A40
  simp only [Option.some.injEq, Prod.mk.injEq] at H
  obtain ⟨rfl, rfl, rfl⟩ := H
  go_enter Tryz.func58, Tryz.ntmps58
  go_wp2_with (first | ((with_reducible refine gate_dst (N := 2) rfl ?_); refine box_event ?hg (N := 2) ?hd (cs := #[.int .u32 0, .int .u32 0]) (t := 25) ?hr ?_; (case hd => rfl); (case hg => rfl); (case hr => first | (go_simp; done) | (go_simp; rfl)); intro gb412 hg w5 hbox hb; have n0_ := Aside0.mk (below_step (gB HB.out) hb); have n1_ := Aside0.mk (hbox); have n2_ := Aside0.mk ((by rw [hg]; exact (below_size (gB HB.out)) : w.heap.size ≤ gb412)); have n3_ := Aside0.mk ((by rw [hg]; exact (below_size (gB HB.out)) : w.heap.size ≤ gb412)); clear HB; have HB := n0_; have BK412 := n1_; have GW412 := n2_; have GE412 := n3_; clear n0_ n1_ n2_ n3_; clear hb hbox hg) | ((with_reducible refine gate_callee (f := 107) rfl ?_); refine goesL_ (some 15) rfl rfl Tryz.func107 (by kernel_rfl) rfl #[.string a0] rfl (by (try simp only [mA_, mC_, mN_]); first|done|rfl|(simp only [lD_, lT_]; rfl)) ?_; (with_reducible refine (prefix_Parse.calls k a0 t413 t414 t415 _ ?side1 A2.out).mono ?_); (case side1 => exact HLd.below (by repeat first|(with_reducible first|exact HB.out|apply ba|apply bd|apply b1|refine bs ?_ GE412.out)|exact HB.out)); rintro e w6 ⟨rfl, hb⟩; refine ⟨_, rfl, ?_⟩; have n0_ := Aside0.mk (blk_below (g := gb412) (o := .cells #[.int .u32 0, .int .u32 0] 25 (0, 0)) (gK BK412.out) hb); have n1_ := Aside0.mk (below_step (by repeat first|(with_reducible first|exact HB.out|apply ba|apply bd|apply b1|refine bs ?_ GE412.out)|exact HB.out) hb); clear BK412; clear HB; have BK412 := n0_; have HB := n1_; clear n0_ n1_; (try clear hb); (try clear hb2); (try clear hk); (try clear hi)) | ((with_reducible refine gate_dst (N := 4) rfl ?_); refine box_event ?hg (N := 4) ?hd (cs := #[.int .u32 0, .int .i64 0]) (t := 159) ?hr ?_; (case hd => rfl); (case hg => rfl); (case hr => first | (go_simp; done) | (go_simp; rfl)); intro gb416 hg w7 hbox hb; have n0_ := Aside0.mk (blk_below (g := gb412) (o := .cells #[.int .u32 0, .int .u32 0] 25 (0, 0)) (gK BK412.out) hb); have n1_ := Aside0.mk (below_step (by repeat first|(with_reducible first|exact HB.out|apply ba|apply bd|apply b1|refine bs ?_ GE412.out)|exact HB.out) hb); have n2_ := Aside0.mk (hbox); have n3_ := Aside0.mk ((by rw [hg]; exact (below_size (by repeat first|(with_reducible first|exact HB.out|apply ba|apply bd|apply b1|refine bs ?_ GE412.out)|exact HB.out)) : w.heap.size ≤ gb416)); have n4_ := Aside0.mk ((by rw [hg]; exact (below_size (by repeat first|(with_reducible first|exact HB.out|apply ba|apply bd|apply b1|refine bs ?_ GE412.out)|exact HB.out)) : w.heap.size ≤ gb416)); have n5_ := Aside0.mk ((by rw [hg]; exact Nat.ne_of_lt (blk_lt (g := gb412) (o := .cells #[.int .u32 0, .int .u32 0] 25 (0, 0)) (gK BK412.out)) : gb412 ≠ gb416)); have n6_ := Aside0.mk ((by rw [hg]; exact Nat.ne_of_gt (blk_lt (g := gb412) (o := .cells #[.int .u32 0, .int .u32 0] 25 (0, 0)) (gK BK412.out)) : gb416 ≠ gb412)); clear BK412; clear HB; have BK412 := n0_; have HB := n1_; have BK416 := n2_; have GW416 := n3_; have GE416 := n4_; have NB412_416 := n5_; have NB416_412 := n6_; clear n0_ n1_ n2_ n3_ n4_ n5_ n6_; clear hb hbox hg; have hnb8 := NB416_412.out; have hnc8 := NB412_416.out; have hcz9_0 : w7.cell? ⟨gb416, 0, none⟩ = some (.int .u32 0) := (blk_cell BK416.out 0).trans rfl; have hcz9_1 : w7.cell? ⟨gb416, 1, none⟩ = some (.int .i64 0) := (blk_cell BK416.out 1).trans rfl; have hfz9_0 := blk_frozen BK416.out 0; have hfz9_1 := blk_frozen BK416.out 1) | ((with_reducible refine gate_callee (f := 108) rfl ?_); refine goesL_ (some 21) rfl rfl Tryz.func108 (by kernel_rfl) rfl #[.agg #[.int .u32 t413, .int .i64 t414]] rfl (by (try simp only [mA_, mC_, mN_]); first|done|rfl|(simp only [lD_, lT_]; rfl)) ?_; (with_reducible refine (prefix_Range.calls t413 t414 t417 t418 t419 _ A4.out).mono ?_); rintro e w10 ⟨rfl, hb⟩; refine ⟨_, rfl, ?_⟩; have n0_ := Aside0.mk (blk_below (g := gb412) (o := .cells #[.int .u32 0, .int .u32 0] 25 (0, 0)) (by (with_reducible repeat (first | refine blk_drewN ?_ _ | refine blk_drew ?_ | refine blk_alloc ?_ _)); refine blk_far ?_ NB412_416.out _; (with_reducible repeat (first | refine blk_drewN ?_ _ | refine blk_drew ?_ | refine blk_alloc ?_ _)); refine blk_far ?_ NB412_416.out _; (with_reducible repeat (first | refine blk_drewN ?_ _ | refine blk_drew ?_ | refine blk_alloc ?_ _)); exact BK412.out) hb); have n1_ := Aside0.mk (blk_below (g := gb416) (o := .cells #[.int .u32 t413, .int .i64 t414] 159 (0, 0)) (by (with_reducible repeat (first | refine blk_drewN ?_ _ | refine blk_drew ?_ | refine blk_alloc ?_ _)); refine blk_put (cs := #[.int .u32 t413, .int .i64 0]) ?_ 1 _ rfl; (with_reducible repeat (first | refine blk_drewN ?_ _ | refine blk_drew ?_ | refine blk_alloc ?_ _)); refine blk_put (cs := #[.int .u32 0, .int .i64 0]) ?_ 0 _ rfl; (with_reducible repeat (first | refine blk_drewN ?_ _ | refine blk_drew ?_ | refine blk_alloc ?_ _)); exact BK416.out) hb); have n2_ := Aside0.mk (below_step (by repeat first|(with_reducible first|exact HB.out|apply ba|apply bd|apply b1|refine bs ?_ GE412.out|refine bs ?_ GE416.out)|exact HB.out) hb); clear BK412; clear BK416; clear HB; have BK412 := n0_; have BK416 := n1_; have HB := n2_; clear n0_ n1_ n2_; (try clear hb); (try clear hb2); (try clear hk); (try clear hi); have hcz11_0 : w10.cell? ⟨gb412, 0, none⟩ = some (.int .u32 0) := (blk_cell BK412.out 0).trans rfl; have hcz11_1 : w10.cell? ⟨gb412, 1, none⟩ = some (.int .u32 0) := (blk_cell BK412.out 1).trans rfl; have hfz11_0 := blk_frozen BK412.out 0; have hfz11_1 := blk_frozen BK412.out 1))
  refine bodyPost_ret (results_ct rfl _ _ gb412 25 #[.int .u32 t417, .int .u32 t418] (0, 0) _ rfl (by (with_reducible repeat (first | refine blk_drewN ?_ _ | refine blk_drew ?_ | refine blk_alloc ?_ _)); refine blk_put (cs := #[.int .u32 t417, .int .u32 0]) ?_ 1 _ rfl; (with_reducible repeat (first | refine blk_drewN ?_ _ | refine blk_drew ?_ | refine blk_alloc ?_ _)); refine blk_put (cs := #[.int .u32 0, .int .u32 0]) ?_ 0 _ rfl; (with_reducible repeat (first | refine blk_drewN ?_ _ | refine blk_drew ?_ | refine blk_alloc ?_ _)); exact BK412.out) Tryz.underlying25 rfl (by kernel_rfl)) rfl ?_
  exact ⟨by first | rfl | (simp [errW_none, errW_some] <;> rfl) | (simp [*, errW_none, errW_some] <;> rfl), by repeat first|(with_reducible first|exact HB.out|apply ba|apply bd|apply b1|refine bs ?_ GE412.out|refine bs ?_ GE416.out)|exact HB.out⟩
 ·rw [if_neg c3] at H
  have c3b0 : (t415 == 0) = false := beq_eq_false_iff_ne.mpr c3
  have c3b1 : (t415 != 0) = true := bne_iff_ne.mpr c3
  replace H := Option.bind_eq_some_iff.mp H
  obtain ⟨⟨t420, t421, t422⟩, A120, H⟩ := H
  try dsimp only at H
  have A12 := Aside0.mk A120
  clear A120
  replace H := Option.bind_eq_some_iff.mp H
  obtain ⟨⟨t423, t424⟩, A130, H⟩ := H
  try dsimp only at H
  have A13 := Aside0.mk A130
  clear A130
  replace H := Option.bind_eq_some_iff.mp H
  obtain ⟨⟨t425, t426⟩, A140, H⟩ := H
  try dsimp only at H
  have A14 := Aside0.mk A140
  clear A140
  by_cases c15 : t422 = true
  ·subst c15
   rw [if_pos rfl] at H
   by_cases c16 : t424 = 0
   ·rw [if_pos c16] at H
    have c16b0 : (t424 == 0) = true := beq_iff_eq.mpr c16
    have c16b1 : (t424 != 0) = false := bne_eq_false_iff_eq.mpr c16
    clear c16
    by_cases c17 : t426 = 0
    ·rw [if_pos c17] at H
     have c17b0 : (t426 == 0) = true := beq_iff_eq.mpr c17
     have c17b1 : (t426 != 0) = false := bne_eq_false_iff_eq.mpr c17
     clear c17
     by_cases c18 : t423 > t425
     ·rw [if_pos c18] at H
      have c18b0 : decide (t425 < t423) = true := decide_eq_true c18
      clear c18
      simp only [Option.some.injEq, Prod.mk.injEq] at H
      obtain ⟨rfl, rfl, rfl⟩ := H
      go_enter Tryz.func58, Tryz.ntmps58
      go_wp2_with (first | ((with_reducible refine gate_dst (N := 2) rfl ?_); refine box_event ?hg (N := 2) ?hd (cs := #[.int .u32 0, .int .u32 0]) (t := 25) ?hr ?_; (case hd => rfl); (case hg => rfl); (case hr => first | (go_simp; done) | (go_simp; rfl)); intro gb412 hg w19 hbox hb; have n0_ := Aside0.mk (below_step (gB HB.out) hb); have n1_ := Aside0.mk (hbox); have n2_ := Aside0.mk ((by rw [hg]; exact (below_size (gB HB.out)) : w.heap.size ≤ gb412)); have n3_ := Aside0.mk ((by rw [hg]; exact (below_size (gB HB.out)) : w.heap.size ≤ gb412)); clear HB; have HB := n0_; have BK412 := n1_; have GW412 := n2_; have GE412 := n3_; clear n0_ n1_ n2_ n3_; clear hb hbox hg) | ((with_reducible refine gate_callee (f := 107) rfl ?_); refine goesL_ (some 15) rfl rfl Tryz.func107 (by kernel_rfl) rfl #[.string a0] rfl (by (try simp only [mA_, mC_, mN_]); first|done|rfl|(simp only [lD_, lT_]; rfl)) ?_; (with_reducible refine (prefix_Parse.calls k a0 t413 t414 t415 _ ?side1 A2.out).mono ?_); (case side1 => exact HLd.below (by repeat first|(with_reducible first|exact HB.out|apply ba|apply bd|apply b1|refine bs ?_ GE412.out)|exact HB.out)); rintro e w20 ⟨rfl, hb⟩; refine ⟨_, rfl, ?_⟩; have n0_ := Aside0.mk (blk_below (g := gb412) (o := .cells #[.int .u32 0, .int .u32 0] 25 (0, 0)) (gK BK412.out) hb); have n1_ := Aside0.mk (below_step (by repeat first|(with_reducible first|exact HB.out|apply ba|apply bd|apply b1|refine bs ?_ GE412.out)|exact HB.out) hb); clear BK412; clear HB; have BK412 := n0_; have HB := n1_; clear n0_ n1_; (try clear hb); (try clear hb2); (try clear hk); (try clear hi)) | ((with_reducible refine gate_dst (N := 4) rfl ?_); refine box_event ?hg (N := 4) ?hd (cs := #[.int .u32 0, .int .i64 0]) (t := 159) ?hr ?_; (case hd => rfl); (case hg => rfl); (case hr => first | (go_simp; done) | (go_simp; rfl)); intro gb416 hg w21 hbox hb; have n0_ := Aside0.mk (blk_below (g := gb412) (o := .cells #[.int .u32 0, .int .u32 0] 25 (0, 0)) (gK BK412.out) hb); have n1_ := Aside0.mk (below_step (by repeat first|(with_reducible first|exact HB.out|apply ba|apply bd|apply b1|refine bs ?_ GE412.out)|exact HB.out) hb); have n2_ := Aside0.mk (hbox); have n3_ := Aside0.mk ((by rw [hg]; exact (below_size (by repeat first|(with_reducible first|exact HB.out|apply ba|apply bd|apply b1|refine bs ?_ GE412.out)|exact HB.out)) : w.heap.size ≤ gb416)); have n4_ := Aside0.mk ((by rw [hg]; exact (below_size (by repeat first|(with_reducible first|exact HB.out|apply ba|apply bd|apply b1|refine bs ?_ GE412.out)|exact HB.out)) : w.heap.size ≤ gb416)); have n5_ := Aside0.mk ((by rw [hg]; exact Nat.ne_of_lt (blk_lt (g := gb412) (o := .cells #[.int .u32 0, .int .u32 0] 25 (0, 0)) (gK BK412.out)) : gb412 ≠ gb416)); have n6_ := Aside0.mk ((by rw [hg]; exact Nat.ne_of_gt (blk_lt (g := gb412) (o := .cells #[.int .u32 0, .int .u32 0] 25 (0, 0)) (gK BK412.out)) : gb416 ≠ gb412)); clear BK412; clear HB; have BK412 := n0_; have HB := n1_; have BK416 := n2_; have GW416 := n3_; have GE416 := n4_; have NB412_416 := n5_; have NB416_412 := n6_; clear n0_ n1_ n2_ n3_ n4_ n5_ n6_; clear hb hbox hg; have hnb22 := NB416_412.out; have hnc22 := NB412_416.out; have hcz23_0 : w21.cell? ⟨gb416, 0, none⟩ = some (.int .u32 0) := (blk_cell BK416.out 0).trans rfl; have hcz23_1 : w21.cell? ⟨gb416, 1, none⟩ = some (.int .i64 0) := (blk_cell BK416.out 1).trans rfl; have hfz23_0 := blk_frozen BK416.out 0; have hfz23_1 := blk_frozen BK416.out 1) | ((with_reducible refine gate_callee (f := 109) rfl ?_); refine goesL_ (some 26) rfl rfl Tryz.func109 (by kernel_rfl) rfl #[.string a0, .string (⟨#[45]⟩ : ByteArray)] rfl (by (try simp only [mA_, mC_, mN_]); first|done|rfl|(simp only [lD_, lT_]; rfl)) ?_; (with_reducible refine (strings_Cut.calls a0 (⟨#[45]⟩ : ByteArray) t420 t421 true _ ?side1 A12.out).mono ?_); (case side1 => exact HLd.below (by repeat first|(with_reducible first|exact HB.out|apply ba|apply bd|apply b1|refine bs ?_ GE412.out|refine bs ?_ GE416.out)|exact HB.out)); rintro e w24 ⟨rfl, hb⟩; refine ⟨_, rfl, ?_⟩; have n0_ := Aside0.mk (blk_below (g := gb412) (o := .cells #[.int .u32 0, .int .u32 0] 25 (0, 0)) (by (with_reducible repeat (first | refine blk_drewN ?_ _ | refine blk_drew ?_ | refine blk_alloc ?_ _)); refine blk_far ?_ NB412_416.out _; (with_reducible repeat (first | refine blk_drewN ?_ _ | refine blk_drew ?_ | refine blk_alloc ?_ _)); refine blk_far ?_ NB412_416.out _; (with_reducible repeat (first | refine blk_drewN ?_ _ | refine blk_drew ?_ | refine blk_alloc ?_ _)); exact BK412.out) hb); have n1_ := Aside0.mk (blk_below (g := gb416) (o := .cells #[.int .u32 t413, .int .i64 t414] 159 (0, 0)) (by (with_reducible repeat (first | refine blk_drewN ?_ _ | refine blk_drew ?_ | refine blk_alloc ?_ _)); refine blk_put (cs := #[.int .u32 t413, .int .i64 0]) ?_ 1 _ rfl; (with_reducible repeat (first | refine blk_drewN ?_ _ | refine blk_drew ?_ | refine blk_alloc ?_ _)); refine blk_put (cs := #[.int .u32 0, .int .i64 0]) ?_ 0 _ rfl; (with_reducible repeat (first | refine blk_drewN ?_ _ | refine blk_drew ?_ | refine blk_alloc ?_ _)); exact BK416.out) hb); have n2_ := Aside0.mk (below_step (by repeat first|(with_reducible first|exact HB.out|apply ba|apply bd|apply b1|refine bs ?_ GE412.out|refine bs ?_ GE416.out)|exact HB.out) hb); clear BK412; clear BK416; clear HB; have BK412 := n0_; have BK416 := n1_; have HB := n2_; clear n0_ n1_ n2_; (try clear hb); (try clear hb2); (try clear hk); (try clear hi)) | ((with_reducible refine gate_callee (f := 110) rfl ?_); refine goesL_ (some 32) rfl rfl Tryz.func110 (by kernel_rfl) rfl #[.string t420] rfl (by (try simp only [mA_, mC_, mN_]); first|done|rfl|(simp only [lD_, lT_]; rfl)) ?_; (with_reducible refine (prefix_ParseAddr.calls k t420 t423 t424 _ ?side1 A13.out).mono ?_); (case side1 => exact HLd.below (by repeat first|(with_reducible first|exact HB.out|apply ba|apply bd|apply b1|refine bs ?_ GE412.out|refine bs ?_ GE416.out)|exact HB.out)); rintro e w25 ⟨rfl, hb⟩; refine ⟨_, rfl, ?_⟩; have n0_ := Aside0.mk (blk_below (g := gb412) (o := .cells #[.int .u32 0, .int .u32 0] 25 (0, 0)) (gK BK412.out) hb); have n1_ := Aside0.mk (blk_below (g := gb416) (o := .cells #[.int .u32 t413, .int .i64 t414] 159 (0, 0)) (gK BK416.out) hb); have n2_ := Aside0.mk (below_step (by repeat first|(with_reducible first|exact HB.out|apply ba|apply bd|apply b1|refine bs ?_ GE412.out|refine bs ?_ GE416.out)|exact HB.out) hb); clear BK412; clear BK416; clear HB; have BK412 := n0_; have BK416 := n1_; have HB := n2_; clear n0_ n1_ n2_; (try clear hb); (try clear hb2); (try clear hk); (try clear hi)) | ((with_reducible refine gate_callee (f := 110) rfl ?_); refine goesL_ (some 37) rfl rfl Tryz.func110 (by kernel_rfl) rfl #[.string t421] rfl (by (try simp only [mA_, mC_, mN_]); first|done|rfl|(simp only [lD_, lT_]; rfl)) ?_; (with_reducible refine (prefix_ParseAddr.calls k t421 t425 t426 _ ?side1 A14.out).mono ?_); (case side1 => exact HLd.below (by repeat first|(with_reducible first|exact HB.out|apply ba|apply bd|apply b1|refine bs ?_ GE412.out|refine bs ?_ GE416.out)|exact HB.out)); rintro e w26 ⟨rfl, hb⟩; refine ⟨_, rfl, ?_⟩; have n0_ := Aside0.mk (blk_below (g := gb412) (o := .cells #[.int .u32 0, .int .u32 0] 25 (0, 0)) (gK BK412.out) hb); have n1_ := Aside0.mk (blk_below (g := gb416) (o := .cells #[.int .u32 t413, .int .i64 t414] 159 (0, 0)) (gK BK416.out) hb); have n2_ := Aside0.mk (below_step (by repeat first|(with_reducible first|exact HB.out|apply ba|apply bd|apply b1|refine bs ?_ GE412.out|refine bs ?_ GE416.out)|exact HB.out) hb); clear BK412; clear BK416; clear HB; have BK412 := n0_; have BK416 := n1_; have HB := n2_; clear n0_ n1_ n2_; (try clear hb); (try clear hb2); (try clear hk); (try clear hi); have hcz27_0 : w26.cell? ⟨gb412, 0, none⟩ = some (.int .u32 0) := (blk_cell BK412.out 0).trans rfl; have hcz27_1 : w26.cell? ⟨gb412, 1, none⟩ = some (.int .u32 0) := (blk_cell BK412.out 1).trans rfl; have hfz27_0 := blk_frozen BK412.out 0; have hfz27_1 := blk_frozen BK412.out 1))
      refine bodyPost_ret (results_ct rfl _ _ gb412 25 #[.int .u32 0, .int .u32 0] (0, 0) _ rfl (by (with_reducible repeat (first | refine blk_drewN ?_ _ | refine blk_drew ?_ | refine blk_alloc ?_ _)); refine blk_put (cs := #[.int .u32 0, .int .u32 0]) ?_ 1 _ rfl; (with_reducible repeat (first | refine blk_drewN ?_ _ | refine blk_drew ?_ | refine blk_alloc ?_ _)); refine blk_put (cs := #[.int .u32 0, .int .u32 0]) ?_ 0 _ rfl; (with_reducible repeat (first | refine blk_drewN ?_ _ | refine blk_drew ?_ | refine blk_alloc ?_ _)); exact BK412.out) Tryz.underlying25 rfl (by kernel_rfl)) rfl ?_
      exact ⟨by first | rfl | (simp [errW_none, errW_some] <;> rfl) | (simp [*, errW_none, errW_some] <;> rfl), by repeat first|(with_reducible first|exact HB.out|apply ba|apply bd|apply b1|refine bs ?_ GE412.out|refine bs ?_ GE416.out)|exact HB.out⟩
     ·rw [if_neg c18] at H
      have c18b0 : decide (t425 < t423) = false := decide_eq_false c18
      clear c18
      simp only [Option.some.injEq, Prod.mk.injEq] at H
      obtain ⟨rfl, rfl, rfl⟩ := H
      go_enter Tryz.func58, Tryz.ntmps58
      go_wp2_with (first | ((with_reducible refine gate_dst (N := 2) rfl ?_); refine box_event ?hg (N := 2) ?hd (cs := #[.int .u32 0, .int .u32 0]) (t := 25) ?hr ?_; (case hd => rfl); (case hg => rfl); (case hr => first | (go_simp; done) | (go_simp; rfl)); intro gb412 hg w28 hbox hb; have n0_ := Aside0.mk (below_step (gB HB.out) hb); have n1_ := Aside0.mk (hbox); have n2_ := Aside0.mk ((by rw [hg]; exact (below_size (gB HB.out)) : w.heap.size ≤ gb412)); have n3_ := Aside0.mk ((by rw [hg]; exact (below_size (gB HB.out)) : w.heap.size ≤ gb412)); clear HB; have HB := n0_; have BK412 := n1_; have GW412 := n2_; have GE412 := n3_; clear n0_ n1_ n2_ n3_; clear hb hbox hg) | ((with_reducible refine gate_callee (f := 107) rfl ?_); refine goesL_ (some 15) rfl rfl Tryz.func107 (by kernel_rfl) rfl #[.string a0] rfl (by (try simp only [mA_, mC_, mN_]); first|done|rfl|(simp only [lD_, lT_]; rfl)) ?_; (with_reducible refine (prefix_Parse.calls k a0 t413 t414 t415 _ ?side1 A2.out).mono ?_); (case side1 => exact HLd.below (by repeat first|(with_reducible first|exact HB.out|apply ba|apply bd|apply b1|refine bs ?_ GE412.out)|exact HB.out)); rintro e w29 ⟨rfl, hb⟩; refine ⟨_, rfl, ?_⟩; have n0_ := Aside0.mk (blk_below (g := gb412) (o := .cells #[.int .u32 0, .int .u32 0] 25 (0, 0)) (gK BK412.out) hb); have n1_ := Aside0.mk (below_step (by repeat first|(with_reducible first|exact HB.out|apply ba|apply bd|apply b1|refine bs ?_ GE412.out)|exact HB.out) hb); clear BK412; clear HB; have BK412 := n0_; have HB := n1_; clear n0_ n1_; (try clear hb); (try clear hb2); (try clear hk); (try clear hi)) | ((with_reducible refine gate_dst (N := 4) rfl ?_); refine box_event ?hg (N := 4) ?hd (cs := #[.int .u32 0, .int .i64 0]) (t := 159) ?hr ?_; (case hd => rfl); (case hg => rfl); (case hr => first | (go_simp; done) | (go_simp; rfl)); intro gb416 hg w30 hbox hb; have n0_ := Aside0.mk (blk_below (g := gb412) (o := .cells #[.int .u32 0, .int .u32 0] 25 (0, 0)) (gK BK412.out) hb); have n1_ := Aside0.mk (below_step (by repeat first|(with_reducible first|exact HB.out|apply ba|apply bd|apply b1|refine bs ?_ GE412.out)|exact HB.out) hb); have n2_ := Aside0.mk (hbox); have n3_ := Aside0.mk ((by rw [hg]; exact (below_size (by repeat first|(with_reducible first|exact HB.out|apply ba|apply bd|apply b1|refine bs ?_ GE412.out)|exact HB.out)) : w.heap.size ≤ gb416)); have n4_ := Aside0.mk ((by rw [hg]; exact (below_size (by repeat first|(with_reducible first|exact HB.out|apply ba|apply bd|apply b1|refine bs ?_ GE412.out)|exact HB.out)) : w.heap.size ≤ gb416)); have n5_ := Aside0.mk ((by rw [hg]; exact Nat.ne_of_lt (blk_lt (g := gb412) (o := .cells #[.int .u32 0, .int .u32 0] 25 (0, 0)) (gK BK412.out)) : gb412 ≠ gb416)); have n6_ := Aside0.mk ((by rw [hg]; exact Nat.ne_of_gt (blk_lt (g := gb412) (o := .cells #[.int .u32 0, .int .u32 0] 25 (0, 0)) (gK BK412.out)) : gb416 ≠ gb412)); clear BK412; clear HB; have BK412 := n0_; have HB := n1_; have BK416 := n2_; have GW416 := n3_; have GE416 := n4_; have NB412_416 := n5_; have NB416_412 := n6_; clear n0_ n1_ n2_ n3_ n4_ n5_ n6_; clear hb hbox hg; have hnb31 := NB416_412.out; have hnc31 := NB412_416.out; have hcz32_0 : w30.cell? ⟨gb416, 0, none⟩ = some (.int .u32 0) := (blk_cell BK416.out 0).trans rfl; have hcz32_1 : w30.cell? ⟨gb416, 1, none⟩ = some (.int .i64 0) := (blk_cell BK416.out 1).trans rfl; have hfz32_0 := blk_frozen BK416.out 0; have hfz32_1 := blk_frozen BK416.out 1) | ((with_reducible refine gate_callee (f := 109) rfl ?_); refine goesL_ (some 26) rfl rfl Tryz.func109 (by kernel_rfl) rfl #[.string a0, .string (⟨#[45]⟩ : ByteArray)] rfl (by (try simp only [mA_, mC_, mN_]); first|done|rfl|(simp only [lD_, lT_]; rfl)) ?_; (with_reducible refine (strings_Cut.calls a0 (⟨#[45]⟩ : ByteArray) t420 t421 true _ ?side1 A12.out).mono ?_); (case side1 => exact HLd.below (by repeat first|(with_reducible first|exact HB.out|apply ba|apply bd|apply b1|refine bs ?_ GE412.out|refine bs ?_ GE416.out)|exact HB.out)); rintro e w33 ⟨rfl, hb⟩; refine ⟨_, rfl, ?_⟩; have n0_ := Aside0.mk (blk_below (g := gb412) (o := .cells #[.int .u32 0, .int .u32 0] 25 (0, 0)) (by (with_reducible repeat (first | refine blk_drewN ?_ _ | refine blk_drew ?_ | refine blk_alloc ?_ _)); refine blk_far ?_ NB412_416.out _; (with_reducible repeat (first | refine blk_drewN ?_ _ | refine blk_drew ?_ | refine blk_alloc ?_ _)); refine blk_far ?_ NB412_416.out _; (with_reducible repeat (first | refine blk_drewN ?_ _ | refine blk_drew ?_ | refine blk_alloc ?_ _)); exact BK412.out) hb); have n1_ := Aside0.mk (blk_below (g := gb416) (o := .cells #[.int .u32 t413, .int .i64 t414] 159 (0, 0)) (by (with_reducible repeat (first | refine blk_drewN ?_ _ | refine blk_drew ?_ | refine blk_alloc ?_ _)); refine blk_put (cs := #[.int .u32 t413, .int .i64 0]) ?_ 1 _ rfl; (with_reducible repeat (first | refine blk_drewN ?_ _ | refine blk_drew ?_ | refine blk_alloc ?_ _)); refine blk_put (cs := #[.int .u32 0, .int .i64 0]) ?_ 0 _ rfl; (with_reducible repeat (first | refine blk_drewN ?_ _ | refine blk_drew ?_ | refine blk_alloc ?_ _)); exact BK416.out) hb); have n2_ := Aside0.mk (below_step (by repeat first|(with_reducible first|exact HB.out|apply ba|apply bd|apply b1|refine bs ?_ GE412.out|refine bs ?_ GE416.out)|exact HB.out) hb); clear BK412; clear BK416; clear HB; have BK412 := n0_; have BK416 := n1_; have HB := n2_; clear n0_ n1_ n2_; (try clear hb); (try clear hb2); (try clear hk); (try clear hi)) | ((with_reducible refine gate_callee (f := 110) rfl ?_); refine goesL_ (some 32) rfl rfl Tryz.func110 (by kernel_rfl) rfl #[.string t420] rfl (by (try simp only [mA_, mC_, mN_]); first|done|rfl|(simp only [lD_, lT_]; rfl)) ?_; (with_reducible refine (prefix_ParseAddr.calls k t420 t423 t424 _ ?side1 A13.out).mono ?_); (case side1 => exact HLd.below (by repeat first|(with_reducible first|exact HB.out|apply ba|apply bd|apply b1|refine bs ?_ GE412.out|refine bs ?_ GE416.out)|exact HB.out)); rintro e w34 ⟨rfl, hb⟩; refine ⟨_, rfl, ?_⟩; have n0_ := Aside0.mk (blk_below (g := gb412) (o := .cells #[.int .u32 0, .int .u32 0] 25 (0, 0)) (gK BK412.out) hb); have n1_ := Aside0.mk (blk_below (g := gb416) (o := .cells #[.int .u32 t413, .int .i64 t414] 159 (0, 0)) (gK BK416.out) hb); have n2_ := Aside0.mk (below_step (by repeat first|(with_reducible first|exact HB.out|apply ba|apply bd|apply b1|refine bs ?_ GE412.out|refine bs ?_ GE416.out)|exact HB.out) hb); clear BK412; clear BK416; clear HB; have BK412 := n0_; have BK416 := n1_; have HB := n2_; clear n0_ n1_ n2_; (try clear hb); (try clear hb2); (try clear hk); (try clear hi)) | ((with_reducible refine gate_callee (f := 110) rfl ?_); refine goesL_ (some 37) rfl rfl Tryz.func110 (by kernel_rfl) rfl #[.string t421] rfl (by (try simp only [mA_, mC_, mN_]); first|done|rfl|(simp only [lD_, lT_]; rfl)) ?_; (with_reducible refine (prefix_ParseAddr.calls k t421 t425 t426 _ ?side1 A14.out).mono ?_); (case side1 => exact HLd.below (by repeat first|(with_reducible first|exact HB.out|apply ba|apply bd|apply b1|refine bs ?_ GE412.out|refine bs ?_ GE416.out)|exact HB.out)); rintro e w35 ⟨rfl, hb⟩; refine ⟨_, rfl, ?_⟩; have n0_ := Aside0.mk (blk_below (g := gb412) (o := .cells #[.int .u32 0, .int .u32 0] 25 (0, 0)) (gK BK412.out) hb); have n1_ := Aside0.mk (blk_below (g := gb416) (o := .cells #[.int .u32 t413, .int .i64 t414] 159 (0, 0)) (gK BK416.out) hb); have n2_ := Aside0.mk (below_step (by repeat first|(with_reducible first|exact HB.out|apply ba|apply bd|apply b1|refine bs ?_ GE412.out|refine bs ?_ GE416.out)|exact HB.out) hb); clear BK412; clear BK416; clear HB; have BK412 := n0_; have BK416 := n1_; have HB := n2_; clear n0_ n1_ n2_; (try clear hb); (try clear hb2); (try clear hk); (try clear hi); have hcz36_0 : w35.cell? ⟨gb412, 0, none⟩ = some (.int .u32 0) := (blk_cell BK412.out 0).trans rfl; have hcz36_1 : w35.cell? ⟨gb412, 1, none⟩ = some (.int .u32 0) := (blk_cell BK412.out 1).trans rfl; have hfz36_0 := blk_frozen BK412.out 0; have hfz36_1 := blk_frozen BK412.out 1))
      refine bodyPost_ret (results_ct rfl _ _ gb412 25 #[.int .u32 t423, .int .u32 t425] (0, 0) _ rfl (by (with_reducible repeat (first | refine blk_drewN ?_ _ | refine blk_drew ?_ | refine blk_alloc ?_ _)); refine blk_put (cs := #[.int .u32 t423, .int .u32 0]) ?_ 1 _ rfl; (with_reducible repeat (first | refine blk_drewN ?_ _ | refine blk_drew ?_ | refine blk_alloc ?_ _)); refine blk_put (cs := #[.int .u32 0, .int .u32 0]) ?_ 0 _ rfl; (with_reducible repeat (first | refine blk_drewN ?_ _ | refine blk_drew ?_ | refine blk_alloc ?_ _)); exact BK412.out) Tryz.underlying25 rfl (by kernel_rfl)) rfl ?_
      exact ⟨by first | rfl | (simp [errW_none, errW_some] <;> rfl) | (simp [*, errW_none, errW_some] <;> rfl), by repeat first|(with_reducible first|exact HB.out|apply ba|apply bd|apply b1|refine bs ?_ GE412.out|refine bs ?_ GE416.out)|exact HB.out⟩
    ·rw [if_neg c17] at H
     have c17b0 : (t426 == 0) = false := beq_eq_false_iff_ne.mpr c17
     have c17b1 : (t426 != 0) = true := bne_iff_ne.mpr c17
     simp only [Option.some.injEq, Prod.mk.injEq] at H
     obtain ⟨rfl, rfl, rfl⟩ := H
     go_enter Tryz.func58, Tryz.ntmps58
     go_wp2_with (first | ((with_reducible refine gate_dst (N := 2) rfl ?_); refine box_event ?hg (N := 2) ?hd (cs := #[.int .u32 0, .int .u32 0]) (t := 25) ?hr ?_; (case hd => rfl); (case hg => rfl); (case hr => first | (go_simp; done) | (go_simp; rfl)); intro gb412 hg w37 hbox hb; have n0_ := Aside0.mk (below_step (gB HB.out) hb); have n1_ := Aside0.mk (hbox); have n2_ := Aside0.mk ((by rw [hg]; exact (below_size (gB HB.out)) : w.heap.size ≤ gb412)); have n3_ := Aside0.mk ((by rw [hg]; exact (below_size (gB HB.out)) : w.heap.size ≤ gb412)); clear HB; have HB := n0_; have BK412 := n1_; have GW412 := n2_; have GE412 := n3_; clear n0_ n1_ n2_ n3_; clear hb hbox hg) | ((with_reducible refine gate_callee (f := 107) rfl ?_); refine goesL_ (some 15) rfl rfl Tryz.func107 (by kernel_rfl) rfl #[.string a0] rfl (by (try simp only [mA_, mC_, mN_]); first|done|rfl|(simp only [lD_, lT_]; rfl)) ?_; (with_reducible refine (prefix_Parse.calls k a0 t413 t414 t415 _ ?side1 A2.out).mono ?_); (case side1 => exact HLd.below (by repeat first|(with_reducible first|exact HB.out|apply ba|apply bd|apply b1|refine bs ?_ GE412.out)|exact HB.out)); rintro e w38 ⟨rfl, hb⟩; refine ⟨_, rfl, ?_⟩; have n0_ := Aside0.mk (blk_below (g := gb412) (o := .cells #[.int .u32 0, .int .u32 0] 25 (0, 0)) (gK BK412.out) hb); have n1_ := Aside0.mk (below_step (by repeat first|(with_reducible first|exact HB.out|apply ba|apply bd|apply b1|refine bs ?_ GE412.out)|exact HB.out) hb); clear BK412; clear HB; have BK412 := n0_; have HB := n1_; clear n0_ n1_; (try clear hb); (try clear hb2); (try clear hk); (try clear hi)) | ((with_reducible refine gate_dst (N := 4) rfl ?_); refine box_event ?hg (N := 4) ?hd (cs := #[.int .u32 0, .int .i64 0]) (t := 159) ?hr ?_; (case hd => rfl); (case hg => rfl); (case hr => first | (go_simp; done) | (go_simp; rfl)); intro gb416 hg w39 hbox hb; have n0_ := Aside0.mk (blk_below (g := gb412) (o := .cells #[.int .u32 0, .int .u32 0] 25 (0, 0)) (gK BK412.out) hb); have n1_ := Aside0.mk (below_step (by repeat first|(with_reducible first|exact HB.out|apply ba|apply bd|apply b1|refine bs ?_ GE412.out)|exact HB.out) hb); have n2_ := Aside0.mk (hbox); have n3_ := Aside0.mk ((by rw [hg]; exact (below_size (by repeat first|(with_reducible first|exact HB.out|apply ba|apply bd|apply b1|refine bs ?_ GE412.out)|exact HB.out)) : w.heap.size ≤ gb416)); have n4_ := Aside0.mk ((by rw [hg]; exact (below_size (by repeat first|(with_reducible first|exact HB.out|apply ba|apply bd|apply b1|refine bs ?_ GE412.out)|exact HB.out)) : w.heap.size ≤ gb416)); have n5_ := Aside0.mk ((by rw [hg]; exact Nat.ne_of_lt (blk_lt (g := gb412) (o := .cells #[.int .u32 0, .int .u32 0] 25 (0, 0)) (gK BK412.out)) : gb412 ≠ gb416)); have n6_ := Aside0.mk ((by rw [hg]; exact Nat.ne_of_gt (blk_lt (g := gb412) (o := .cells #[.int .u32 0, .int .u32 0] 25 (0, 0)) (gK BK412.out)) : gb416 ≠ gb412)); clear BK412; clear HB; have BK412 := n0_; have HB := n1_; have BK416 := n2_; have GW416 := n3_; have GE416 := n4_; have NB412_416 := n5_; have NB416_412 := n6_; clear n0_ n1_ n2_ n3_ n4_ n5_ n6_; clear hb hbox hg; have hnb40 := NB416_412.out; have hnc40 := NB412_416.out; have hcz41_0 : w39.cell? ⟨gb416, 0, none⟩ = some (.int .u32 0) := (blk_cell BK416.out 0).trans rfl; have hcz41_1 : w39.cell? ⟨gb416, 1, none⟩ = some (.int .i64 0) := (blk_cell BK416.out 1).trans rfl; have hfz41_0 := blk_frozen BK416.out 0; have hfz41_1 := blk_frozen BK416.out 1) | ((with_reducible refine gate_callee (f := 109) rfl ?_); refine goesL_ (some 26) rfl rfl Tryz.func109 (by kernel_rfl) rfl #[.string a0, .string (⟨#[45]⟩ : ByteArray)] rfl (by (try simp only [mA_, mC_, mN_]); first|done|rfl|(simp only [lD_, lT_]; rfl)) ?_; (with_reducible refine (strings_Cut.calls a0 (⟨#[45]⟩ : ByteArray) t420 t421 true _ ?side1 A12.out).mono ?_); (case side1 => exact HLd.below (by repeat first|(with_reducible first|exact HB.out|apply ba|apply bd|apply b1|refine bs ?_ GE412.out|refine bs ?_ GE416.out)|exact HB.out)); rintro e w42 ⟨rfl, hb⟩; refine ⟨_, rfl, ?_⟩; have n0_ := Aside0.mk (blk_below (g := gb412) (o := .cells #[.int .u32 0, .int .u32 0] 25 (0, 0)) (by (with_reducible repeat (first | refine blk_drewN ?_ _ | refine blk_drew ?_ | refine blk_alloc ?_ _)); refine blk_far ?_ NB412_416.out _; (with_reducible repeat (first | refine blk_drewN ?_ _ | refine blk_drew ?_ | refine blk_alloc ?_ _)); refine blk_far ?_ NB412_416.out _; (with_reducible repeat (first | refine blk_drewN ?_ _ | refine blk_drew ?_ | refine blk_alloc ?_ _)); exact BK412.out) hb); have n1_ := Aside0.mk (blk_below (g := gb416) (o := .cells #[.int .u32 t413, .int .i64 t414] 159 (0, 0)) (by (with_reducible repeat (first | refine blk_drewN ?_ _ | refine blk_drew ?_ | refine blk_alloc ?_ _)); refine blk_put (cs := #[.int .u32 t413, .int .i64 0]) ?_ 1 _ rfl; (with_reducible repeat (first | refine blk_drewN ?_ _ | refine blk_drew ?_ | refine blk_alloc ?_ _)); refine blk_put (cs := #[.int .u32 0, .int .i64 0]) ?_ 0 _ rfl; (with_reducible repeat (first | refine blk_drewN ?_ _ | refine blk_drew ?_ | refine blk_alloc ?_ _)); exact BK416.out) hb); have n2_ := Aside0.mk (below_step (by repeat first|(with_reducible first|exact HB.out|apply ba|apply bd|apply b1|refine bs ?_ GE412.out|refine bs ?_ GE416.out)|exact HB.out) hb); clear BK412; clear BK416; clear HB; have BK412 := n0_; have BK416 := n1_; have HB := n2_; clear n0_ n1_ n2_; (try clear hb); (try clear hb2); (try clear hk); (try clear hi)) | ((with_reducible refine gate_callee (f := 110) rfl ?_); refine goesL_ (some 32) rfl rfl Tryz.func110 (by kernel_rfl) rfl #[.string t420] rfl (by (try simp only [mA_, mC_, mN_]); first|done|rfl|(simp only [lD_, lT_]; rfl)) ?_; (with_reducible refine (prefix_ParseAddr.calls k t420 t423 t424 _ ?side1 A13.out).mono ?_); (case side1 => exact HLd.below (by repeat first|(with_reducible first|exact HB.out|apply ba|apply bd|apply b1|refine bs ?_ GE412.out|refine bs ?_ GE416.out)|exact HB.out)); rintro e w43 ⟨rfl, hb⟩; refine ⟨_, rfl, ?_⟩; have n0_ := Aside0.mk (blk_below (g := gb412) (o := .cells #[.int .u32 0, .int .u32 0] 25 (0, 0)) (gK BK412.out) hb); have n1_ := Aside0.mk (blk_below (g := gb416) (o := .cells #[.int .u32 t413, .int .i64 t414] 159 (0, 0)) (gK BK416.out) hb); have n2_ := Aside0.mk (below_step (by repeat first|(with_reducible first|exact HB.out|apply ba|apply bd|apply b1|refine bs ?_ GE412.out|refine bs ?_ GE416.out)|exact HB.out) hb); clear BK412; clear BK416; clear HB; have BK412 := n0_; have BK416 := n1_; have HB := n2_; clear n0_ n1_ n2_; (try clear hb); (try clear hb2); (try clear hk); (try clear hi)) | ((with_reducible refine gate_callee (f := 110) rfl ?_); refine goesL_ (some 37) rfl rfl Tryz.func110 (by kernel_rfl) rfl #[.string t421] rfl (by (try simp only [mA_, mC_, mN_]); first|done|rfl|(simp only [lD_, lT_]; rfl)) ?_; (with_reducible refine (prefix_ParseAddr.calls k t421 t425 t426 _ ?side1 A14.out).mono ?_); (case side1 => exact HLd.below (by repeat first|(with_reducible first|exact HB.out|apply ba|apply bd|apply b1|refine bs ?_ GE412.out|refine bs ?_ GE416.out)|exact HB.out)); rintro e w44 ⟨rfl, hb⟩; refine ⟨_, rfl, ?_⟩; have n0_ := Aside0.mk (blk_below (g := gb412) (o := .cells #[.int .u32 0, .int .u32 0] 25 (0, 0)) (gK BK412.out) hb); have n1_ := Aside0.mk (blk_below (g := gb416) (o := .cells #[.int .u32 t413, .int .i64 t414] 159 (0, 0)) (gK BK416.out) hb); have n2_ := Aside0.mk (below_step (by repeat first|(with_reducible first|exact HB.out|apply ba|apply bd|apply b1|refine bs ?_ GE412.out|refine bs ?_ GE416.out)|exact HB.out) hb); clear BK412; clear BK416; clear HB; have BK412 := n0_; have BK416 := n1_; have HB := n2_; clear n0_ n1_ n2_; (try clear hb); (try clear hb2); (try clear hk); (try clear hi); have hcz45_0 : w44.cell? ⟨gb412, 0, none⟩ = some (.int .u32 0) := (blk_cell BK412.out 0).trans rfl; have hcz45_1 : w44.cell? ⟨gb412, 1, none⟩ = some (.int .u32 0) := (blk_cell BK412.out 1).trans rfl; have hfz45_0 := blk_frozen BK412.out 0; have hfz45_1 := blk_frozen BK412.out 1))
     refine bodyPost_ret (results_ct rfl _ _ gb412 25 #[.int .u32 0, .int .u32 0] (0, 0) _ rfl (by (with_reducible repeat (first | refine blk_drewN ?_ _ | refine blk_drew ?_ | refine blk_alloc ?_ _)); refine blk_put (cs := #[.int .u32 0, .int .u32 0]) ?_ 1 _ rfl; (with_reducible repeat (first | refine blk_drewN ?_ _ | refine blk_drew ?_ | refine blk_alloc ?_ _)); refine blk_put (cs := #[.int .u32 0, .int .u32 0]) ?_ 0 _ rfl; (with_reducible repeat (first | refine blk_drewN ?_ _ | refine blk_drew ?_ | refine blk_alloc ?_ _)); exact BK412.out) Tryz.underlying25 rfl (by kernel_rfl)) rfl ?_
     exact ⟨by first | rfl | (simp [errW_none, errW_some] <;> rfl) | (simp [*, errW_none, errW_some] <;> rfl), by repeat first|(with_reducible first|exact HB.out|apply ba|apply bd|apply b1|refine bs ?_ GE412.out|refine bs ?_ GE416.out)|exact HB.out⟩
   ·rw [if_neg c16] at H
    have c16b0 : (t424 == 0) = false := beq_eq_false_iff_ne.mpr c16
    have c16b1 : (t424 != 0) = true := bne_iff_ne.mpr c16
    simp only [Option.some.injEq, Prod.mk.injEq] at H
    obtain ⟨rfl, rfl, rfl⟩ := H
    go_enter Tryz.func58, Tryz.ntmps58
    go_wp2_with (first | ((with_reducible refine gate_dst (N := 2) rfl ?_); refine box_event ?hg (N := 2) ?hd (cs := #[.int .u32 0, .int .u32 0]) (t := 25) ?hr ?_; (case hd => rfl); (case hg => rfl); (case hr => first | (go_simp; done) | (go_simp; rfl)); intro gb412 hg w46 hbox hb; have n0_ := Aside0.mk (below_step (gB HB.out) hb); have n1_ := Aside0.mk (hbox); have n2_ := Aside0.mk ((by rw [hg]; exact (below_size (gB HB.out)) : w.heap.size ≤ gb412)); have n3_ := Aside0.mk ((by rw [hg]; exact (below_size (gB HB.out)) : w.heap.size ≤ gb412)); clear HB; have HB := n0_; have BK412 := n1_; have GW412 := n2_; have GE412 := n3_; clear n0_ n1_ n2_ n3_; clear hb hbox hg) | ((with_reducible refine gate_callee (f := 107) rfl ?_); refine goesL_ (some 15) rfl rfl Tryz.func107 (by kernel_rfl) rfl #[.string a0] rfl (by (try simp only [mA_, mC_, mN_]); first|done|rfl|(simp only [lD_, lT_]; rfl)) ?_; (with_reducible refine (prefix_Parse.calls k a0 t413 t414 t415 _ ?side1 A2.out).mono ?_); (case side1 => exact HLd.below (by repeat first|(with_reducible first|exact HB.out|apply ba|apply bd|apply b1|refine bs ?_ GE412.out)|exact HB.out)); rintro e w47 ⟨rfl, hb⟩; refine ⟨_, rfl, ?_⟩; have n0_ := Aside0.mk (blk_below (g := gb412) (o := .cells #[.int .u32 0, .int .u32 0] 25 (0, 0)) (gK BK412.out) hb); have n1_ := Aside0.mk (below_step (by repeat first|(with_reducible first|exact HB.out|apply ba|apply bd|apply b1|refine bs ?_ GE412.out)|exact HB.out) hb); clear BK412; clear HB; have BK412 := n0_; have HB := n1_; clear n0_ n1_; (try clear hb); (try clear hb2); (try clear hk); (try clear hi)) | ((with_reducible refine gate_dst (N := 4) rfl ?_); refine box_event ?hg (N := 4) ?hd (cs := #[.int .u32 0, .int .i64 0]) (t := 159) ?hr ?_; (case hd => rfl); (case hg => rfl); (case hr => first | (go_simp; done) | (go_simp; rfl)); intro gb416 hg w48 hbox hb; have n0_ := Aside0.mk (blk_below (g := gb412) (o := .cells #[.int .u32 0, .int .u32 0] 25 (0, 0)) (gK BK412.out) hb); have n1_ := Aside0.mk (below_step (by repeat first|(with_reducible first|exact HB.out|apply ba|apply bd|apply b1|refine bs ?_ GE412.out)|exact HB.out) hb); have n2_ := Aside0.mk (hbox); have n3_ := Aside0.mk ((by rw [hg]; exact (below_size (by repeat first|(with_reducible first|exact HB.out|apply ba|apply bd|apply b1|refine bs ?_ GE412.out)|exact HB.out)) : w.heap.size ≤ gb416)); have n4_ := Aside0.mk ((by rw [hg]; exact (below_size (by repeat first|(with_reducible first|exact HB.out|apply ba|apply bd|apply b1|refine bs ?_ GE412.out)|exact HB.out)) : w.heap.size ≤ gb416)); have n5_ := Aside0.mk ((by rw [hg]; exact Nat.ne_of_lt (blk_lt (g := gb412) (o := .cells #[.int .u32 0, .int .u32 0] 25 (0, 0)) (gK BK412.out)) : gb412 ≠ gb416)); have n6_ := Aside0.mk ((by rw [hg]; exact Nat.ne_of_gt (blk_lt (g := gb412) (o := .cells #[.int .u32 0, .int .u32 0] 25 (0, 0)) (gK BK412.out)) : gb416 ≠ gb412)); clear BK412; clear HB; have BK412 := n0_; have HB := n1_; have BK416 := n2_; have GW416 := n3_; have GE416 := n4_; have NB412_416 := n5_; have NB416_412 := n6_; clear n0_ n1_ n2_ n3_ n4_ n5_ n6_; clear hb hbox hg; have hnb49 := NB416_412.out; have hnc49 := NB412_416.out; have hcz50_0 : w48.cell? ⟨gb416, 0, none⟩ = some (.int .u32 0) := (blk_cell BK416.out 0).trans rfl; have hcz50_1 : w48.cell? ⟨gb416, 1, none⟩ = some (.int .i64 0) := (blk_cell BK416.out 1).trans rfl; have hfz50_0 := blk_frozen BK416.out 0; have hfz50_1 := blk_frozen BK416.out 1) | ((with_reducible refine gate_callee (f := 109) rfl ?_); refine goesL_ (some 26) rfl rfl Tryz.func109 (by kernel_rfl) rfl #[.string a0, .string (⟨#[45]⟩ : ByteArray)] rfl (by (try simp only [mA_, mC_, mN_]); first|done|rfl|(simp only [lD_, lT_]; rfl)) ?_; (with_reducible refine (strings_Cut.calls a0 (⟨#[45]⟩ : ByteArray) t420 t421 true _ ?side1 A12.out).mono ?_); (case side1 => exact HLd.below (by repeat first|(with_reducible first|exact HB.out|apply ba|apply bd|apply b1|refine bs ?_ GE412.out|refine bs ?_ GE416.out)|exact HB.out)); rintro e w51 ⟨rfl, hb⟩; refine ⟨_, rfl, ?_⟩; have n0_ := Aside0.mk (blk_below (g := gb412) (o := .cells #[.int .u32 0, .int .u32 0] 25 (0, 0)) (by (with_reducible repeat (first | refine blk_drewN ?_ _ | refine blk_drew ?_ | refine blk_alloc ?_ _)); refine blk_far ?_ NB412_416.out _; (with_reducible repeat (first | refine blk_drewN ?_ _ | refine blk_drew ?_ | refine blk_alloc ?_ _)); refine blk_far ?_ NB412_416.out _; (with_reducible repeat (first | refine blk_drewN ?_ _ | refine blk_drew ?_ | refine blk_alloc ?_ _)); exact BK412.out) hb); have n1_ := Aside0.mk (blk_below (g := gb416) (o := .cells #[.int .u32 t413, .int .i64 t414] 159 (0, 0)) (by (with_reducible repeat (first | refine blk_drewN ?_ _ | refine blk_drew ?_ | refine blk_alloc ?_ _)); refine blk_put (cs := #[.int .u32 t413, .int .i64 0]) ?_ 1 _ rfl; (with_reducible repeat (first | refine blk_drewN ?_ _ | refine blk_drew ?_ | refine blk_alloc ?_ _)); refine blk_put (cs := #[.int .u32 0, .int .i64 0]) ?_ 0 _ rfl; (with_reducible repeat (first | refine blk_drewN ?_ _ | refine blk_drew ?_ | refine blk_alloc ?_ _)); exact BK416.out) hb); have n2_ := Aside0.mk (below_step (by repeat first|(with_reducible first|exact HB.out|apply ba|apply bd|apply b1|refine bs ?_ GE412.out|refine bs ?_ GE416.out)|exact HB.out) hb); clear BK412; clear BK416; clear HB; have BK412 := n0_; have BK416 := n1_; have HB := n2_; clear n0_ n1_ n2_; (try clear hb); (try clear hb2); (try clear hk); (try clear hi)) | ((with_reducible refine gate_callee (f := 110) rfl ?_); refine goesL_ (some 32) rfl rfl Tryz.func110 (by kernel_rfl) rfl #[.string t420] rfl (by (try simp only [mA_, mC_, mN_]); first|done|rfl|(simp only [lD_, lT_]; rfl)) ?_; (with_reducible refine (prefix_ParseAddr.calls k t420 t423 t424 _ ?side1 A13.out).mono ?_); (case side1 => exact HLd.below (by repeat first|(with_reducible first|exact HB.out|apply ba|apply bd|apply b1|refine bs ?_ GE412.out|refine bs ?_ GE416.out)|exact HB.out)); rintro e w52 ⟨rfl, hb⟩; refine ⟨_, rfl, ?_⟩; have n0_ := Aside0.mk (blk_below (g := gb412) (o := .cells #[.int .u32 0, .int .u32 0] 25 (0, 0)) (gK BK412.out) hb); have n1_ := Aside0.mk (blk_below (g := gb416) (o := .cells #[.int .u32 t413, .int .i64 t414] 159 (0, 0)) (gK BK416.out) hb); have n2_ := Aside0.mk (below_step (by repeat first|(with_reducible first|exact HB.out|apply ba|apply bd|apply b1|refine bs ?_ GE412.out|refine bs ?_ GE416.out)|exact HB.out) hb); clear BK412; clear BK416; clear HB; have BK412 := n0_; have BK416 := n1_; have HB := n2_; clear n0_ n1_ n2_; (try clear hb); (try clear hb2); (try clear hk); (try clear hi)) | ((with_reducible refine gate_callee (f := 110) rfl ?_); refine goesL_ (some 37) rfl rfl Tryz.func110 (by kernel_rfl) rfl #[.string t421] rfl (by (try simp only [mA_, mC_, mN_]); first|done|rfl|(simp only [lD_, lT_]; rfl)) ?_; (with_reducible refine (prefix_ParseAddr.calls k t421 t425 t426 _ ?side1 A14.out).mono ?_); (case side1 => exact HLd.below (by repeat first|(with_reducible first|exact HB.out|apply ba|apply bd|apply b1|refine bs ?_ GE412.out|refine bs ?_ GE416.out)|exact HB.out)); rintro e w53 ⟨rfl, hb⟩; refine ⟨_, rfl, ?_⟩; have n0_ := Aside0.mk (blk_below (g := gb412) (o := .cells #[.int .u32 0, .int .u32 0] 25 (0, 0)) (gK BK412.out) hb); have n1_ := Aside0.mk (blk_below (g := gb416) (o := .cells #[.int .u32 t413, .int .i64 t414] 159 (0, 0)) (gK BK416.out) hb); have n2_ := Aside0.mk (below_step (by repeat first|(with_reducible first|exact HB.out|apply ba|apply bd|apply b1|refine bs ?_ GE412.out|refine bs ?_ GE416.out)|exact HB.out) hb); clear BK412; clear BK416; clear HB; have BK412 := n0_; have BK416 := n1_; have HB := n2_; clear n0_ n1_ n2_; (try clear hb); (try clear hb2); (try clear hk); (try clear hi); have hcz54_0 : w53.cell? ⟨gb412, 0, none⟩ = some (.int .u32 0) := (blk_cell BK412.out 0).trans rfl; have hcz54_1 : w53.cell? ⟨gb412, 1, none⟩ = some (.int .u32 0) := (blk_cell BK412.out 1).trans rfl; have hfz54_0 := blk_frozen BK412.out 0; have hfz54_1 := blk_frozen BK412.out 1))
    refine bodyPost_ret (results_ct rfl _ _ gb412 25 #[.int .u32 0, .int .u32 0] (0, 0) _ rfl (by (with_reducible repeat (first | refine blk_drewN ?_ _ | refine blk_drew ?_ | refine blk_alloc ?_ _)); refine blk_put (cs := #[.int .u32 0, .int .u32 0]) ?_ 1 _ rfl; (with_reducible repeat (first | refine blk_drewN ?_ _ | refine blk_drew ?_ | refine blk_alloc ?_ _)); refine blk_put (cs := #[.int .u32 0, .int .u32 0]) ?_ 0 _ rfl; (with_reducible repeat (first | refine blk_drewN ?_ _ | refine blk_drew ?_ | refine blk_alloc ?_ _)); exact BK412.out) Tryz.underlying25 rfl (by kernel_rfl)) rfl ?_
    exact ⟨by first | rfl | (simp [errW_none, errW_some] <;> rfl) | (simp [*, errW_none, errW_some] <;> rfl), by repeat first|(with_reducible first|exact HB.out|apply ba|apply bd|apply b1|refine bs ?_ GE412.out|refine bs ?_ GE416.out)|exact HB.out⟩
  ·replace c15 := Bool.eq_false_iff.mpr c15
   subst c15
   rw [if_neg (show ¬ (false = true) by decide)] at H
   simp only [Option.some.injEq, Prod.mk.injEq] at H
   obtain ⟨rfl, rfl, rfl⟩ := H
   go_enter Tryz.func58, Tryz.ntmps58
   go_wp2_with (first | ((with_reducible refine gate_dst (N := 2) rfl ?_); refine box_event ?hg (N := 2) ?hd (cs := #[.int .u32 0, .int .u32 0]) (t := 25) ?hr ?_; (case hd => rfl); (case hg => rfl); (case hr => first | (go_simp; done) | (go_simp; rfl)); intro gb412 hg w55 hbox hb; have n0_ := Aside0.mk (below_step (gB HB.out) hb); have n1_ := Aside0.mk (hbox); have n2_ := Aside0.mk ((by rw [hg]; exact (below_size (gB HB.out)) : w.heap.size ≤ gb412)); have n3_ := Aside0.mk ((by rw [hg]; exact (below_size (gB HB.out)) : w.heap.size ≤ gb412)); clear HB; have HB := n0_; have BK412 := n1_; have GW412 := n2_; have GE412 := n3_; clear n0_ n1_ n2_ n3_; clear hb hbox hg) | ((with_reducible refine gate_callee (f := 107) rfl ?_); refine goesL_ (some 15) rfl rfl Tryz.func107 (by kernel_rfl) rfl #[.string a0] rfl (by (try simp only [mA_, mC_, mN_]); first|done|rfl|(simp only [lD_, lT_]; rfl)) ?_; (with_reducible refine (prefix_Parse.calls k a0 t413 t414 t415 _ ?side1 A2.out).mono ?_); (case side1 => exact HLd.below (by repeat first|(with_reducible first|exact HB.out|apply ba|apply bd|apply b1|refine bs ?_ GE412.out)|exact HB.out)); rintro e w56 ⟨rfl, hb⟩; refine ⟨_, rfl, ?_⟩; have n0_ := Aside0.mk (blk_below (g := gb412) (o := .cells #[.int .u32 0, .int .u32 0] 25 (0, 0)) (gK BK412.out) hb); have n1_ := Aside0.mk (below_step (by repeat first|(with_reducible first|exact HB.out|apply ba|apply bd|apply b1|refine bs ?_ GE412.out)|exact HB.out) hb); clear BK412; clear HB; have BK412 := n0_; have HB := n1_; clear n0_ n1_; (try clear hb); (try clear hb2); (try clear hk); (try clear hi)) | ((with_reducible refine gate_dst (N := 4) rfl ?_); refine box_event ?hg (N := 4) ?hd (cs := #[.int .u32 0, .int .i64 0]) (t := 159) ?hr ?_; (case hd => rfl); (case hg => rfl); (case hr => first | (go_simp; done) | (go_simp; rfl)); intro gb416 hg w57 hbox hb; have n0_ := Aside0.mk (blk_below (g := gb412) (o := .cells #[.int .u32 0, .int .u32 0] 25 (0, 0)) (gK BK412.out) hb); have n1_ := Aside0.mk (below_step (by repeat first|(with_reducible first|exact HB.out|apply ba|apply bd|apply b1|refine bs ?_ GE412.out)|exact HB.out) hb); have n2_ := Aside0.mk (hbox); have n3_ := Aside0.mk ((by rw [hg]; exact (below_size (by repeat first|(with_reducible first|exact HB.out|apply ba|apply bd|apply b1|refine bs ?_ GE412.out)|exact HB.out)) : w.heap.size ≤ gb416)); have n4_ := Aside0.mk ((by rw [hg]; exact (below_size (by repeat first|(with_reducible first|exact HB.out|apply ba|apply bd|apply b1|refine bs ?_ GE412.out)|exact HB.out)) : w.heap.size ≤ gb416)); have n5_ := Aside0.mk ((by rw [hg]; exact Nat.ne_of_lt (blk_lt (g := gb412) (o := .cells #[.int .u32 0, .int .u32 0] 25 (0, 0)) (gK BK412.out)) : gb412 ≠ gb416)); have n6_ := Aside0.mk ((by rw [hg]; exact Nat.ne_of_gt (blk_lt (g := gb412) (o := .cells #[.int .u32 0, .int .u32 0] 25 (0, 0)) (gK BK412.out)) : gb416 ≠ gb412)); clear BK412; clear HB; have BK412 := n0_; have HB := n1_; have BK416 := n2_; have GW416 := n3_; have GE416 := n4_; have NB412_416 := n5_; have NB416_412 := n6_; clear n0_ n1_ n2_ n3_ n4_ n5_ n6_; clear hb hbox hg; have hnb58 := NB416_412.out; have hnc58 := NB412_416.out; have hcz59_0 : w57.cell? ⟨gb416, 0, none⟩ = some (.int .u32 0) := (blk_cell BK416.out 0).trans rfl; have hcz59_1 : w57.cell? ⟨gb416, 1, none⟩ = some (.int .i64 0) := (blk_cell BK416.out 1).trans rfl; have hfz59_0 := blk_frozen BK416.out 0; have hfz59_1 := blk_frozen BK416.out 1) | ((with_reducible refine gate_callee (f := 109) rfl ?_); refine goesL_ (some 26) rfl rfl Tryz.func109 (by kernel_rfl) rfl #[.string a0, .string (⟨#[45]⟩ : ByteArray)] rfl (by (try simp only [mA_, mC_, mN_]); first|done|rfl|(simp only [lD_, lT_]; rfl)) ?_; (with_reducible refine (strings_Cut.calls a0 (⟨#[45]⟩ : ByteArray) t420 t421 false _ ?side1 A12.out).mono ?_); (case side1 => exact HLd.below (by repeat first|(with_reducible first|exact HB.out|apply ba|apply bd|apply b1|refine bs ?_ GE412.out|refine bs ?_ GE416.out)|exact HB.out)); rintro e w60 ⟨rfl, hb⟩; refine ⟨_, rfl, ?_⟩; have n0_ := Aside0.mk (blk_below (g := gb412) (o := .cells #[.int .u32 0, .int .u32 0] 25 (0, 0)) (by (with_reducible repeat (first | refine blk_drewN ?_ _ | refine blk_drew ?_ | refine blk_alloc ?_ _)); refine blk_far ?_ NB412_416.out _; (with_reducible repeat (first | refine blk_drewN ?_ _ | refine blk_drew ?_ | refine blk_alloc ?_ _)); refine blk_far ?_ NB412_416.out _; (with_reducible repeat (first | refine blk_drewN ?_ _ | refine blk_drew ?_ | refine blk_alloc ?_ _)); exact BK412.out) hb); have n1_ := Aside0.mk (blk_below (g := gb416) (o := .cells #[.int .u32 t413, .int .i64 t414] 159 (0, 0)) (by (with_reducible repeat (first | refine blk_drewN ?_ _ | refine blk_drew ?_ | refine blk_alloc ?_ _)); refine blk_put (cs := #[.int .u32 t413, .int .i64 0]) ?_ 1 _ rfl; (with_reducible repeat (first | refine blk_drewN ?_ _ | refine blk_drew ?_ | refine blk_alloc ?_ _)); refine blk_put (cs := #[.int .u32 0, .int .i64 0]) ?_ 0 _ rfl; (with_reducible repeat (first | refine blk_drewN ?_ _ | refine blk_drew ?_ | refine blk_alloc ?_ _)); exact BK416.out) hb); have n2_ := Aside0.mk (below_step (by repeat first|(with_reducible first|exact HB.out|apply ba|apply bd|apply b1|refine bs ?_ GE412.out|refine bs ?_ GE416.out)|exact HB.out) hb); clear BK412; clear BK416; clear HB; have BK412 := n0_; have BK416 := n1_; have HB := n2_; clear n0_ n1_ n2_; (try clear hb); (try clear hb2); (try clear hk); (try clear hi)) | ((with_reducible refine gate_callee (f := 110) rfl ?_); refine goesL_ (some 32) rfl rfl Tryz.func110 (by kernel_rfl) rfl #[.string t420] rfl (by (try simp only [mA_, mC_, mN_]); first|done|rfl|(simp only [lD_, lT_]; rfl)) ?_; (with_reducible refine (prefix_ParseAddr.calls k t420 t423 t424 _ ?side1 A13.out).mono ?_); (case side1 => exact HLd.below (by repeat first|(with_reducible first|exact HB.out|apply ba|apply bd|apply b1|refine bs ?_ GE412.out|refine bs ?_ GE416.out)|exact HB.out)); rintro e w61 ⟨rfl, hb⟩; refine ⟨_, rfl, ?_⟩; have n0_ := Aside0.mk (blk_below (g := gb412) (o := .cells #[.int .u32 0, .int .u32 0] 25 (0, 0)) (gK BK412.out) hb); have n1_ := Aside0.mk (blk_below (g := gb416) (o := .cells #[.int .u32 t413, .int .i64 t414] 159 (0, 0)) (gK BK416.out) hb); have n2_ := Aside0.mk (below_step (by repeat first|(with_reducible first|exact HB.out|apply ba|apply bd|apply b1|refine bs ?_ GE412.out|refine bs ?_ GE416.out)|exact HB.out) hb); clear BK412; clear BK416; clear HB; have BK412 := n0_; have BK416 := n1_; have HB := n2_; clear n0_ n1_ n2_; (try clear hb); (try clear hb2); (try clear hk); (try clear hi)) | ((with_reducible refine gate_callee (f := 110) rfl ?_); refine goesL_ (some 37) rfl rfl Tryz.func110 (by kernel_rfl) rfl #[.string t421] rfl (by (try simp only [mA_, mC_, mN_]); first|done|rfl|(simp only [lD_, lT_]; rfl)) ?_; (with_reducible refine (prefix_ParseAddr.calls k t421 t425 t426 _ ?side1 A14.out).mono ?_); (case side1 => exact HLd.below (by repeat first|(with_reducible first|exact HB.out|apply ba|apply bd|apply b1|refine bs ?_ GE412.out|refine bs ?_ GE416.out)|exact HB.out)); rintro e w62 ⟨rfl, hb⟩; refine ⟨_, rfl, ?_⟩; have n0_ := Aside0.mk (blk_below (g := gb412) (o := .cells #[.int .u32 0, .int .u32 0] 25 (0, 0)) (gK BK412.out) hb); have n1_ := Aside0.mk (blk_below (g := gb416) (o := .cells #[.int .u32 t413, .int .i64 t414] 159 (0, 0)) (gK BK416.out) hb); have n2_ := Aside0.mk (below_step (by repeat first|(with_reducible first|exact HB.out|apply ba|apply bd|apply b1|refine bs ?_ GE412.out|refine bs ?_ GE416.out)|exact HB.out) hb); clear BK412; clear BK416; clear HB; have BK412 := n0_; have BK416 := n1_; have HB := n2_; clear n0_ n1_ n2_; (try clear hb); (try clear hb2); (try clear hk); (try clear hi); have hcz63_0 : w62.cell? ⟨gb412, 0, none⟩ = some (.int .u32 0) := (blk_cell BK412.out 0).trans rfl; have hcz63_1 : w62.cell? ⟨gb412, 1, none⟩ = some (.int .u32 0) := (blk_cell BK412.out 1).trans rfl; have hfz63_0 := blk_frozen BK412.out 0; have hfz63_1 := blk_frozen BK412.out 1))
   refine bodyPost_ret (results_ct rfl _ _ gb412 25 #[.int .u32 0, .int .u32 0] (0, 0) _ rfl (by (with_reducible repeat (first | refine blk_drewN ?_ _ | refine blk_drew ?_ | refine blk_alloc ?_ _)); refine blk_put (cs := #[.int .u32 0, .int .u32 0]) ?_ 1 _ rfl; (with_reducible repeat (first | refine blk_drewN ?_ _ | refine blk_drew ?_ | refine blk_alloc ?_ _)); refine blk_put (cs := #[.int .u32 0, .int .u32 0]) ?_ 0 _ rfl; (with_reducible repeat (first | refine blk_drewN ?_ _ | refine blk_drew ?_ | refine blk_alloc ?_ _)); exact BK412.out) Tryz.underlying25 rfl (by kernel_rfl)) rfl ?_
   exact ⟨by first | rfl | (simp [errW_none, errW_some] <;> rfl) | (simp [*, errW_none, errW_some] <;> rfl), by repeat first|(with_reducible first|exact HB.out|apply ba|apply bd|apply b1|refine bs ?_ GE412.out|refine bs ?_ GE416.out)|exact HB.out⟩
end Go.Proofs.YtfjamikpahmfhaaGreatDoor.P
end
section
namespace Go.Proofs.YtfjamikpahmfhaaGreatDoor.P
open Go.RowKit Go.Proofs.YtfjamikpahmfhaaGreatDoorW.PrintWords Go.Proofs.YtfjamikpahmfhaaGreatDoorW.PrintLast Go.Proofs.YtfjamikpahmfhaaGreatDoorW.PrintMore
theorem join_calls (A : Option Addr) (c : Nat) (xs : List ByteArray) (sep : ByteArray) (w : World) (hr : Kd.C Kd.string w A xs.length xs) (hc : xs.length ≤ c)
    (h1 : xs.length ≤ 140737488355328) (h2 : (Lib.join (xs.map fun x => x.data.toList) sep.data.toList).length ≤ 140737488355328) :
    Calls Tryz.prog 50 #[.slice A xs.length c, .string sep] w fun e w' => e = .returned (.string ⟨(Lib.join (xs.map fun x => x.data.toList) sep.data.toList).toArray⟩) ∧ Below w.heap.size w w' := by
  rcases Nat.eq_zero_or_pos xs.length with h0 | h0
  · obtain rfl := List.eq_nil_of_length_eq_zero h0
    refine (Tryz.strings_Join_none A c sep w).mono fun e w' hh => ?_
    obtain ⟨he, hw⟩ := hh
    exact ⟨he, by rw [hw]; exact Below.refl _ _⟩
  · obtain ⟨ad, rfl, hcell⟩ := hr.2.2 h0
    have hat : ∀ (j : Nat) (x : ByteArray), xs[j]? = some x → w.cell? (ad.add j) = some (.string x) := by
      intro j x hj
      obtain ⟨cs, hl, hk, hcs⟩ := hcell j x hj
      have : cs = [.string x] := hk
      subst this
      have h3 := hcs 0 (.string x) rfl
      have e1 : Kd.string.sz = 1 := rfl
      rw [e1, Nat.mul_one, Nat.add_zero] at h3
      exact h3
    obtain ⟨bk, o, spot⟩ := ad
    have hs : spot = none := by
      have h3 := hat 0 _ (List.getElem?_eq_getElem h0)
      have e2 : (⟨bk, o, spot⟩ : Addr).add 0 = ⟨bk, o, spot⟩ := rfl
      rw [e2] at h3
      cases spot with
      | none => rfl
      | some s =>
        simp only [World.cell?] at h3
        split at h3
        · simp at h3
        · cases h3
    subst hs
    have hb := World.block_lt_of_cell? w _ (hat 0 _ (List.getElem?_eq_getElem h0))
    refine Tryz.strings_Join bk o c xs sep w (fun j x hj => ?_) hb h1 hc h2
    have := hat j x hj
    rw [show (⟨bk, o, none⟩ : Addr).add j = ⟨bk, o + j, none⟩ by unfold Addr.add; split <;> simp_all] at this
    exact this
end Go.Proofs.YtfjamikpahmfhaaGreatDoor.P
end
section
namespace Go.Proofs.YtfjamikpahmfhaaGreatDoor.P
open Go.RowKit Go.Proofs.YtfjamikpahmfhaaGreatDoorW.PrintWords Go.Proofs.YtfjamikpahmfhaaGreatDoorW.PrintLast Go.Proofs.YtfjamikpahmfhaaGreatDoorW.PrintMore
set_option linter.unusedVariables false
theorem infoS : (Tryz.prog.info? 9).map (fun i => (i.zero, i.size, i.bytes)) = some (some (.string ⟨#[]⟩), 1, 16) := by kernel_rfl
def octets (a : Int) : List Int := [a / 16777216, a / 65536 % 256, a / 256 % 256, a % 256]
def numeral (c : Int) : ByteArray := ⟨(Lib.itoa c).toArray⟩
def prefix_Addr.f (a0 : Int) : Option ByteArray :=
  if 0 ≤ a0 ∧ a0 ≤ 4294967295 then some ⟨(Lib.join (((octets a0).map numeral).map (·.data.toList)) [46]).toArray⟩ else none
set_option maxHeartbeats 800000 in
set_option maxRecDepth 100000 in
theorem prefix_Addr.calls (a0 : Int) (r : ByteArray) (w : World) (HLd : Laid w) (h : prefix_Addr.f a0 = some r) :
    Calls Tryz.prog 101 #[.int .u32 a0] w fun e w' => e = .returned (.string r) ∧ Below w.heap.size w w' := by
  unfold prefix_Addr.f at h
  split at h
  case isFalse => cases h
  rename_i hb
  obtain ⟨b0, b1⟩ := hb
  have hr := Lib.hid (Option.some.inj h)
  clear h
  have hu58 := Tryz.underlying88
  go_enter Tryz.func101, Tryz.ntmps101
  go_wp2_with fail
  have HB := Aside0.mk ((Below.refl w.heap.size w).alloc (Nat.le_refl _) (Obj.cells #[Value.int IntKind.u8 (a0 / 16777216), Value.int IntKind.u8 (a0 / 65536 % 256), Value.int IntKind.u8 (a0 / 256 % 256), Value.int IntKind.u8 (a0 % 256)] 196))
  go_loopw [4, 20] (fun v i wr => ∃ k : Nat, k ≤ 4 ∧ i = .int .i64 k ∧ Aside0 (Kd.R Kd.string 9 wr w.heap.size (fun _ => True) v (((octets a0).map numeral).take k)) ∧ Aside0 (Below w.heap.size w wr))
    (fun _ i _ => 4 - (intOf i).toNat)
  case atStart => exact ⟨0, by omega, rfl, ⟨Kd.R_nil _ _ _ _ _⟩, HB⟩
  case round =>
    clear HB
    obtain ⟨k, hk, rfl, HO, HB⟩ := hrel
    by_cases hlt : k < 4
    · obtain ⟨c, hc0, hc1, hcv, hi⟩ : ∃ c : Int, 0 ≤ c ∧ c ≤ 255 ∧ Aside0 (((octets a0).map numeral).take (k + 1) = ((octets a0).map numeral).take k ++ [numeral c]) ∧ ∀ W : World, (Instr.index 196 (.agg #[Value.int IntKind.u8 (a0 / 16777216), Value.int IntKind.u8 (a0 / 65536 % 256), Value.int IntKind.u8 (a0 / 256 % 256), Value.int IntKind.u8 (a0 % 256)]) (.int .i64 (k : Int))).run Tryz.prog W = .ok (.int .u8 c) W := by
        match k, hlt with
        | 0, _ => exact ⟨a0 / 16777216, by omega, by omega, ⟨rfl⟩, fun _ => by kernel_rfl⟩
        | 1, _ => exact ⟨a0 / 65536 % 256, by omega, by omega, ⟨rfl⟩, fun _ => by kernel_rfl⟩
        | 2, _ => exact ⟨a0 / 256 % 256, by omega, by omega, ⟨rfl⟩, fun _ => by kernel_rfl⟩
        | 3, _ => exact ⟨a0 % 256, by omega, by omega, ⟨rfl⟩, fun _ => by kernel_rfl⟩
      have hl : ((((octets a0).map numeral).take k).length + 1) * 16 ≤ 140737488355328 := by
        rw [List.length_take]
        omega
      have HL := Lib.hid hl
      clear hl
      go_wp2_with (first | (go_at_call 48; refine (itoa_calls _ _ (HLd.below HB.out) (by omega) (by omega)).mono ?_; rintro e w1 ⟨rfl, hb1⟩; have HB1 := Aside0.mk (HB.out.trans (hb1.mono HB.out.size)); have HO1 := Aside0.mk (Kd.R_below HO.out hb1); clear hb1) | (at_builtin; refine Kd.R_append Kd.string (w0 := w) w.heap.size rfl (.tmp 23) (.tmp 27) 88 9 (.string ⟨#[]⟩) 16 rfl Tryz.underlying88 infoS rfl (by decide) (by omega) u4 _ (numeral c) [.string (numeral c)] (fun _ => True) (fun _ => False) rfl rfl rfl (fun _ hk => hk.elim) (fun _ _ => trivial) HO1.out HB1.out HB1.out.size HL.out ?_; intro v2 w2 ho hb hg hat; have HO2 := Aside0.mk ho; have HB2 := Aside0.mk hb; clear ho hb hg hat))
      go_roundw
      case rel => exact ⟨k + 1, by omega, by go_num, ⟨by rw [hcv.out]; exact HO2.out⟩, HB2⟩
      case measure => simp [intOf]; omega
    · obtain rfl : k = 4 := by omega
      have e4 : ((octets a0).map numeral).take 4 = (octets a0).map numeral := rfl
      have HO4 : Aside0 (Kd.R Kd.string 9 wr w.heap.size (fun _ => True) u4 ((octets a0).map numeral)) := HO
      obtain ⟨A, cc, hv, hcc, hC⟩ := Kd.R_reads HO4.out
      have hlen : ∀ c : Int, 0 ≤ c → c ≤ 255 → (numeral c).data.toList.length ≤ 21 := fun c h0 h1 => by
        have := Lib.itoa_length_le c (by omega) (by omega)
        simpa [numeral] using this
      have hj : (Lib.join (((octets a0).map numeral).map fun x => x.data.toList) [46]).length ≤ 140737488355328 := by
        have l1 := hlen (a0 / 16777216) (by omega) (by omega)
        have l2 := hlen (a0 / 65536 % 256) (by omega) (by omega)
        have l3 := hlen (a0 / 256 % 256) (by omega) (by omega)
        have l4 := hlen (a0 % 256) (by omega) (by omega)
        simp only [octets, List.map_cons, List.map_nil, Lib.join_cons, Lib.joinTail, List.flatten_cons, List.flatten_nil, List.length_append, List.length_cons, List.length_nil]
        omega
      have CJ := Lib.hid (join_calls A cc ((octets a0).map numeral) ⟨#[46]⟩ wr hC hcc (by simp [octets]) hj)
      clear hj hlen e4 hC
      subst hv
      go_wp2_with (go_at_call 50; refine CJ.out.mono ?_; rintro e w1 ⟨rfl, hb1⟩)
      go_ret
      exact ⟨congrArg (fun x => Ending.returned (.string x)) hr.out, HB.out.trans (hb1.mono HB.out.size)⟩
end Go.Proofs.YtfjamikpahmfhaaGreatDoor.P
end
section
open List renaming map_toArray → mA_, map_cons → mC_, map_nil → mN_, length_drop → lD_, length_take → lT_, setIfInBounds_toArray → sI_, set_cons_zero → z0_, set_cons_succ → z1_
namespace Go.Proofs.YtfjamikpahmfhaaGreatDoor.P
open Go.RowKit Go.Proofs.YtfjamikpahmfhaaGreatDoorW.PrintWords Go.Proofs.YtfjamikpahmfhaaGreatDoorW.PrintLast Go.Proofs.YtfjamikpahmfhaaGreatDoorW.PrintMore
attribute [local go_sem] max2_int min2_int max_two min_two max_three min_three max_four min_four
set_option linter.unusedVariables false
set_option linter.unusedSimpArgs false
def prefix_RangeText.f (a0_0 : Int) (a0_1 : Int) : Option (ByteArray) := (prefix_Addr.f a0_0).bind fun t428 => (if t428.size + 1 ≤ 9223372036854775807 then ((prefix_Addr.f a0_1).bind fun t429 => (if t428.size + 1 + t429.size ≤ 9223372036854775807 then (some ((t428 ++ (⟨#[45]⟩ : ByteArray)) ++ t429)) else (none))) else (none))
def prefix_RangeText.T1 : Bool × List (List Nat × List Nat) := (true, [([], []), ([0], [0]), ([1], [1]), ([2], [2]), ([], []), ([4], [4]), ([5, 2], [5]), ([3, 6], [3, 6]), ([7, 6, 0, 1, 2, 3, 4, 5, 6, 7], [7])])
def prefix_RangeText.B1 : List Nat := [0, 1, 3, 7, 0, 16, 55, 127, 255]
theorem prefix_RangeText.tab1 : rtab .any (opsOf Tryz.f49 1) = prefix_RangeText.T1 := by kernel_rfl
theorem prefix_RangeText.bits1 : waitsOk prefix_RangeText.T1.2 prefix_RangeText.B1 = true := by kernel_rfl
set_option maxHeartbeats 8000000 in
set_option maxRecDepth 100000 in
theorem prefix_RangeText.calls (a0_0 : Int) (a0_1 : Int) (r : ByteArray) (w : World) (HLd : Laid w) (h : prefix_RangeText.f a0_0 a0_1 = some r) :
  Calls Tryz.prog 49 #[.agg #[.int .u32 a0_0, .int .u32 a0_1]] w fun e w' => e = .returned (.string r) ∧ Below w.heap.size w w' := by
 have hu25 := Tryz.underlying25
 have HB := Aside0.mk (Below.refl w.heap.size w)
 have H : ((prefix_Addr.f a0_0).bind fun t428 => (if t428.size + 1 ≤ 9223372036854775807 then ((prefix_Addr.f a0_1).bind fun t429 => (if t428.size + 1 + t429.size ≤ 9223372036854775807 then (some ((t428 ++ (⟨#[45]⟩ : ByteArray)) ++ t429)) else (none))) else (none))) = some r := h
 clear h
 replace H := Option.bind_eq_some_iff.mp H
 obtain ⟨t428, A20, H⟩ := H
 try dsimp only at H
 have A2 := Aside0.mk A20
 clear A20
 by_cases c3 : t428.size + 1 ≤ 9223372036854775807
 ·rw [if_pos c3] at H
  have c3b0 := eq_true c3
  have c3b1 : decide (t428.size + 1 ≤ 9223372036854775807) = true := decide_eq_true c3
  try have c3b2 : (9223372036854775807 < t428.size + 1) = False := eq_false (Nat.not_lt.2 c3)
  replace H := Option.bind_eq_some_iff.mp H
  obtain ⟨t429, A40, H⟩ := H
  try dsimp only at H
  have A4 := Aside0.mk A40
  clear A40
  by_cases c5 : t428.size + 1 + t429.size ≤ 9223372036854775807
  ·rw [if_pos c5] at H
   have c5b0 := eq_true c5
   have c5b1 : decide (t428.size + 1 + t429.size ≤ 9223372036854775807) = true := decide_eq_true c5
   try have c5b2 : (9223372036854775807 < t428.size + 1 + t429.size) = False := eq_false (Nat.not_lt.2 c5)
   obtain rfl := Option.some.inj H
   go_enter Tryz.func49, Tryz.ntmps49
   try go_wp2_with (first | ((with_reducible refine gate_dst (N := 1) rfl ?_); refine box_event ?hg (N := 1) ?hd (cs := #[.int .u32 a0_0, .int .u32 a0_1]) (t := 25) ?hr ?_; (case hd => rfl); (case hg => rfl); (case hr => first | (go_simp; done) | (go_simp; rfl)); intro gb427 hg w6 hbox hb; have n0_ := Aside0.mk (below_step (gB HB.out) hb); have n1_ := Aside0.mk (hbox); have n2_ := Aside0.mk ((by rw [hg]; exact (below_size (gB HB.out)) : w.heap.size ≤ gb427)); have n3_ := Aside0.mk ((by rw [hg]; exact (below_size (gB HB.out)) : w.heap.size ≤ gb427)); clear HB; have HB := n0_; have BK427 := n1_; have GW427 := n2_; have GE427 := n3_; clear n0_ n1_ n2_ n3_; clear hb hbox hg))
   have n0_ := Aside0.mk (blk_drew BK427.out)
   have n1_ := Aside0.mk (below_drew1 HB.out)
   clear BK427
   clear HB
   have BK427 := n0_
   have HB := n1_
   clear n0_ n1_
   refine start_ (n := 9) (S := fun w' => w'.cell? ⟨gb427, 0, none⟩ = some (.int .u32 a0_0) ∧ w'.cell? ⟨gb427, 1, none⟩ = some (.int .u32 a0_1)) (ds := []) #[false, false, false, false, false, false, false, false, false] (by kernel_rfl) rfl rfl ⟨(blk_cell BK427.out 0).trans rfl, (blk_cell BK427.out 1).trans rfl⟩ (fun hHeld => ?_); refine with_tabW prefix_RangeText.tab1 prefix_RangeText.bits1 (fun HT_ HW_ => ?_)
   generalize w6.drew = w7 at BK427 HB hHeld ⊢
   refine pure_ (i := 0) (N := some 3) (v := ?_) (a' := ?_) #[true, false, false, false, false, false, false, false, false] rfl rfl (any_of HT_.out (by kernel_rfl)) (fun _ _ _ h => h) (Or.inl ⟨by rfl, ?_⟩) ?_ ?_
   rotate_left
   ·intro w'
    go_simp
    with_reducible rfl
   rotate_left
   ·simp only [Act.put, sI_, z0_, z1_, i64_w, i32_w]
    rfl
   refine pure_ (i := 4) (N := some 7) (v := ?_) (a' := ?_) #[true, false, false, false, true, false, false, false, false] rfl rfl (any_of HT_.out (by kernel_rfl)) (fun _ _ _ h => h) (Or.inl ⟨by rfl, ?_⟩) ?_ ?_
   rotate_left
   ·intro w'
    go_simp
    with_reducible rfl
   rotate_left
   ·simp only [Act.put, sI_, z0_, z1_, i64_w, i32_w]
    rfl
   refine take_ (i := 1) (N := some 4) (v := ?_) (a' := ?_) #[true, true, false, false, true, false, false, false, false] rfl rfl (take_ofW HT_.out HW_.out (by kernel_rfl)) (fun _ _ _ h => h) (Or.inl ⟨by rfl, ?_⟩) hHeld ?_ ?_
   rotate_left
   ·rintro w' ⟨s0, s1⟩
    go_simp
    with_reducible rfl
   rotate_left
   ·simp only [Act.put, sI_, z0_, z1_, i64_w, i32_w]
    rfl
   refine take_ (i := 5) (N := some 8) (v := ?_) (a' := ?_) #[true, true, false, false, true, true, false, false, false] rfl rfl (take_ofW HT_.out HW_.out (by kernel_rfl)) (fun _ _ _ h => h) (Or.inl ⟨by rfl, ?_⟩) hHeld ?_ ?_
   rotate_left
   ·rintro w' ⟨s0, s1⟩
    go_simp
    with_reducible rfl
   rotate_left
   ·simp only [Act.put, sI_, z0_, z1_, i64_w, i32_w]
    rfl
   refine one_ (i := 2) (N := some 5) #[true, true, true, false, true, true, false, false, false] rfl rfl (one_of HT_.out (by kernel_rfl)) (by decide) (fun K hK => ?_)
   refine goes_ Tryz.func101 (by kernel_rfl) rfl #[.int .u32 a0_0] (by rfl) rfl rfl (by (try simp only [mA_, mC_, mN_]); first|done|rfl|(simp only [lD_, lT_]; rfl)) ?_
   with_reducible refine (prefix_Addr.calls a0_0 t428 _ ?side1 A2.out).mono ?_
   (case side1 => exact HLd.below (by repeat first|(with_reducible first|exact HB.out|apply ba|apply bd|apply b1|refine bs ?_ GE427.out)|exact HB.out))
   rintro e w8 ⟨rfl, hb⟩
   refine ⟨_, rfl, ?_⟩
   have n0_ := Aside0.mk (blk_below (g := gb427) (o := .cells #[.int .u32 a0_0, .int .u32 a0_1] 25 (0, 0)) (gK BK427.out) hb)
   have n1_ := Aside0.mk (below_step (by repeat first|(with_reducible first|exact HB.out|apply ba|apply bd|apply b1|refine bs ?_ GE427.out)|exact HB.out) hb)
   clear BK427
   clear HB
   have BK427 := n0_
   have HB := n1_
   clear n0_ n1_
   (try clear hb)
   (try clear hb2)
   (try clear hk)
   (try clear hi)
   refine hK.out _ _ ⟨(blk_cell BK427.out 0).trans rfl, (blk_cell BK427.out 1).trans rfl⟩ (fun hHeld => ?_)
   clear hK K
   refine norm_ (a' := ?_) ?_ ?_
   rotate_left
   ·show Act.put _ (some 5) _ = _
    simp only [Act.put, sI_, z0_, z1_, i64_w, i32_w]
    rfl
   refine pure_ (i := 3) (N := some 6) (v := ?_) (a' := ?_) #[true, true, true, true, true, true, false, false, false] rfl rfl (any_of HT_.out (by kernel_rfl)) (fun _ _ _ h => h) (Or.inl ⟨by rfl, ?_⟩) ?_ ?_
   rotate_left
   ·intro w'
    go_simp
    with_reducible rfl
   rotate_left
   ·simp only [Act.put, sI_, z0_, z1_, i64_w, i32_w]
    rfl
   refine one_ (i := 6) (N := some 9) #[true, true, true, true, true, true, true, false, false] rfl rfl (one_of HT_.out (by kernel_rfl)) (by decide) (fun K hK => ?_)
   refine goes_ Tryz.func101 (by kernel_rfl) rfl #[.int .u32 a0_1] (by rfl) rfl rfl (by (try simp only [mA_, mC_, mN_]); first|done|rfl|(simp only [lD_, lT_]; rfl)) ?_
   with_reducible refine (prefix_Addr.calls a0_1 t429 _ ?side1 A4.out).mono ?_
   (case side1 => exact HLd.below (by repeat first|(with_reducible first|exact HB.out|apply ba|apply bd|apply b1|refine bs ?_ GE427.out)|exact HB.out))
   rintro e w9 ⟨rfl, hb⟩
   refine ⟨_, rfl, ?_⟩
   have n0_ := Aside0.mk (blk_below (g := gb427) (o := .cells #[.int .u32 a0_0, .int .u32 a0_1] 25 (0, 0)) (gK BK427.out) hb)
   have n1_ := Aside0.mk (below_step (by repeat first|(with_reducible first|exact HB.out|apply ba|apply bd|apply b1|refine bs ?_ GE427.out)|exact HB.out) hb)
   clear BK427
   clear HB
   have BK427 := n0_
   have HB := n1_
   clear n0_ n1_
   (try clear hb)
   (try clear hb2)
   (try clear hk)
   (try clear hi)
   refine hK.out _ _ ⟨(blk_cell BK427.out 0).trans rfl, (blk_cell BK427.out 1).trans rfl⟩ (fun hHeld => ?_)
   clear hK K
   refine norm_ (a' := ?_) ?_ ?_
   rotate_left
   ·show Act.put _ (some 9) _ = _
    simp only [Act.put, sI_, z0_, z1_, i64_w, i32_w]
    rfl
   refine pure_ (i := 7) (N := some 10) (v := ?_) (a' := ?_) #[true, true, true, true, true, true, true, true, false] rfl rfl (any_of HT_.out (by kernel_rfl)) (fun _ _ _ h => h) (Or.inl ⟨by rfl, ?_⟩) ?_ ?_
   rotate_left
   ·intro w'
    go_simp
    with_reducible rfl
   rotate_left
   ·simp only [Act.put, sI_, z0_, z1_, i64_w, i32_w]
    rfl
   refine pure_ (i := 8) (N := some 2) (v := ?_) (a' := ?_) #[true, true, true, true, true, true, true, true, true] rfl rfl (any_of HT_.out (by kernel_rfl)) (fun _ _ _ h => h) (Or.inl ⟨by rfl, ?_⟩) ?_ ?_
   rotate_left
   ·intro w'
    go_simp
    with_reducible rfl
   rotate_left
   ·simp only [Act.put, sI_, z0_, z1_, i64_w, i32_w]
    rfl
   refine done_ (done_of HT_.out (by kernel_rfl)) ?_
   try go_wp2
   go_ret
   exact ⟨by first | rfl | (simp [errW_none, errW_some] <;> rfl) | (simp [*, errW_none, errW_some] <;> rfl), by repeat first|(with_reducible first|exact HB.out|apply ba|apply bd|apply b1|refine bs ?_ GE427.out)|exact HB.out⟩
  ·rw [if_neg c5] at H
   exact absurd H (by simp)
 ·rw [if_neg c3] at H
  exact absurd H (by simp)
end Go.Proofs.YtfjamikpahmfhaaGreatDoor.P
end
section
set_option linter.unusedVariables false
set_option linter.unusedSimpArgs false
namespace Go.Proofs.YtfjamikpahmfhaaGreatDoor.P
open Go.RowKit Go.Proofs.YtfjamikpahmfhaaGreatDoor.T Go.Proofs.YtfjamikpahmfhaaGreatDoorW.PrintWords Go.Proofs.YtfjamikpahmfhaaGreatDoorW.PrintLast Go.Proofs.YtfjamikpahmfhaaGreatDoorW.PrintMore
theorem numeral_data (c : Int) (h : 0 ≤ c) : (numeral c).data.toList = Lib.decDigits c.toNat := by
  show Lib.itoa c = _
  unfold Lib.itoa
  rw [if_neg (by omega)]
theorem numeral_no (c : Int) (h : 0 ≤ c) (x : UInt8) (hx : x.toNat < 48) : x ∉ (numeral c).data.toList := by
  rw [numeral_data c h]
  intro hm
  have := decDigits_digits _ x hm
  omega
theorem numeral_size (c : Int) (h0 : 0 ≤ c) (h1 : c ≤ 9223372036854775807) : (numeral c).size ≤ 21 := by
  have := Lib.itoa_length_le c (by omega) h1
  simpa [numeral, ByteArray.size] using this
theorem atoiV_numeral (c : Int) (h0 : 0 ≤ c) (h1 : c ≤ 9223372036854775807) : atoiV (numeral c) = (c, true) := by
  have h2 := atoiAll_dec c.toNat (by omega)
  unfold atoiV
  rw [numeral_data c h0, h2]
  simp only [Prod.mk.injEq, and_true]
  omega
theorem number_numeral (c m : Int) (h0 : 0 ≤ c) (h1 : c ≤ 9223372036854775807) : prefix_number.f (numeral c) m = some (c, decide (c ≤ m)) := by
  have hs := numeral_size c h0 h1
  unfold prefix_number.f
  rw [if_pos (by omega), atoiV_numeral c h0 h1, byte_toList]
  have e : (Lib.itoa c == (numeral c).data.toList) = true := by
    rw [beq_iff_eq]
    rfl
  simp only [e, h0, decide_true, Bool.true_and, Bool.and_true]
def addrText (a : Int) : List UInt8 := Lib.join ((octets a).map fun c => (numeral c).data.toList) [46]
theorem octets_range (a : Int) (h0 : 0 ≤ a) (h1 : a ≤ 4294967295) : ∀ c ∈ octets a, 0 ≤ c ∧ c ≤ 255 := by
  intro c hc
  simp only [octets, List.mem_cons, List.not_mem_nil, or_false] at hc
  rcases hc with rfl | rfl | rfl | rfl <;> omega
theorem addr_f (a : Int) (h0 : 0 ≤ a) (h1 : a ≤ 4294967295) : prefix_Addr.f a = some ⟨(addrText a).toArray⟩ := by
  unfold prefix_Addr.f addrText
  rw [if_pos ⟨h0, h1⟩, List.map_map]
  rfl
theorem addrText_no (a : Int) (h0 : 0 ≤ a) (h1 : a ≤ 4294967295) (x : UInt8) (hx : x.toNat < 48) (hd : x ≠ 46) : x ∉ addrText a := by
  have hr := octets_range a h0 h1
  have hn : ∀ c ∈ octets a, x ∉ (numeral c).data.toList := fun c hc => numeral_no c (hr c hc).1 x hx
  unfold addrText
  simp only [octets, List.mem_cons, List.not_mem_nil, or_false] at hn
  have n1 := hn _ (.inl rfl)
  have n2 := hn _ (.inr (.inl rfl))
  have n3 := hn _ (.inr (.inr (.inl rfl)))
  have n4 := hn _ (.inr (.inr (.inr rfl)))
  simp only [octets, List.map_cons, List.map_nil, Lib.join_cons, Lib.joinTail, List.flatten_cons, List.flatten_nil, List.mem_append, List.mem_cons, List.not_mem_nil, or_false, not_or]
  exact ⟨n1, ⟨hd, n2⟩, ⟨hd, n3⟩, hd, n4⟩
theorem addrText_length (a : Int) (h0 : 0 ≤ a) (h1 : a ≤ 4294967295) : (addrText a).length ≤ 87 := by
  have hr := octets_range a h0 h1
  have hn : ∀ c ∈ octets a, (numeral c).data.toList.length ≤ 21 := fun c hc => by
    rw [Array.length_toList]
    exact numeral_size c (hr c hc).1 (Int.le_trans (hr c hc).2 (by decide))
  unfold addrText
  simp only [octets, List.mem_cons, List.not_mem_nil, or_false] at hn
  have n1 := hn _ (.inl rfl)
  have n2 := hn _ (.inr (.inl rfl))
  have n3 := hn _ (.inr (.inr (.inl rfl)))
  have n4 := hn _ (.inr (.inr (.inr rfl)))
  simp only [octets, List.map_cons, List.map_nil, Lib.join_cons, Lib.joinTail, List.flatten_cons, List.flatten_nil, List.length_append, List.length_cons, List.length_nil]
  omega
theorem split_f (c : UInt8) (s : ByteArray) (hs : s.size < 4294967281) : strings_Split.f s ⟨#[c]⟩ = some (fieldsB c s) := by
  unfold strings_Split.f
  rw [if_pos ⟨hs, Nat.le_refl 1⟩, splitB_fields]
theorem split_addr (a : Int) (h0 : 0 ≤ a) (h1 : a ≤ 4294967295) : strings_Split.f ⟨(addrText a).toArray⟩ ⟨#[46]⟩ = some ((octets a).map numeral) := by
  have hl := addrText_length a h0 h1
  rw [split_f 46 _ (by simp only [ByteArray.size, List.size_toArray]; omega)]
  unfold fieldsB addrText
  have hr := octets_range a h0 h1
  rw [fieldsOf_join 46 _ (by simp [octets]) (fun p hp => by
    obtain ⟨c, hc, rfl⟩ := List.mem_map.1 hp
    exact numeral_no c (hr c hc).1 46 (by decide)), List.map_map]
  rfl
set_option maxRecDepth 10000 in
theorem or_byte (x c : Nat) (hx : x * 256 + c < 4294967296) (hc : c < 256) : Go.bits .or .u32 (((x : Int) * 256) % 4294967296) ((c : Int) % 4294967296) = ((x * 256 + c : Nat) : Int) := by
  rw [show ((x : Int) * 256) % 4294967296 = ((x * 256 : Nat) : Int) by omega, show ((c : Int) % 4294967296) = (c : Int) by omega, u32_or_nat (x * 256) c (by omega) (by omega)]
  have h := Nat.two_pow_add_eq_or_of_lt (b := c) (i := 8) (by omega) x
  have e : x * 256 ||| c = 2 ^ 8 * x ||| c := by rw [Nat.mul_comm]
  rw [e, ← h]
  omega
theorem parse_step (k : Nat) (x i : Nat) (l : List ByteArray) (c : Nat) (hl : l.length = 4) (hi : i < 4) (hc : c < 256) (hx : x * 256 + c < 4294967296) (hat : l[i]? = some (numeral c)) :
    prefix_ParseAddr.l0 (k + 1) (x : Int) l 4 (i : Int) = prefix_ParseAddr.l0 k ((x * 256 + c : Nat) : Int) l 4 ((i + 1 : Nat) : Int) := by
  have hrd : rdOf ByteArray.empty l (i : Int) = numeral c := by
    unfold rdOf
    rw [Int.toNat_natCast, List.getD_eq_getElem?_getD, hat]
    rfl
  rw [prefix_ParseAddr.l0, if_pos (by omega), if_pos (by omega), if_pos (by omega), hrd, number_numeral _ _ (by omega) (by omega)]
  simp only [Option.bind_some]
  rw [if_pos (by simp; omega), or_byte x c hx hc, show wrap64 ((i : Int) + 1) = ((i + 1 : Nat) : Int) by unfold wrap64; omega]
theorem parseAddr_addr (a : Int) (h0 : 0 ≤ a) (h1 : a ≤ 4294967295) (k : Nat) (hk : 5 ≤ k) : prefix_ParseAddr.f k ⟨(addrText a).toArray⟩ = some (a, 0) := by
  obtain ⟨k, rfl⟩ : ∃ m, k = m + 5 := ⟨k - 5, by omega⟩
  obtain ⟨A, rfl⟩ := Int.eq_ofNat_of_zero_le h0
  unfold prefix_ParseAddr.f
  rw [split_addr _ h0 h1]
  simp only [Option.bind_some]
  have hl : ((octets (A : Int)).map numeral).length = 4 := by simp [octets]
  rw [hl, if_pos (by decide)]
  have o : octets (A : Int) = [((A / 16777216 : Nat) : Int), ((A / 65536 % 256 : Nat) : Int), ((A / 256 % 256 : Nat) : Int), ((A % 256 : Nat) : Int)] := by simp [octets]
  rw [o] at hl ⊢
  show prefix_ParseAddr.l0 (k + 5) ((0 : Nat) : Int) _ 4 ((0 : Nat) : Int) = _
  refine (parse_step (k + 4) 0 0 _ (A / 16777216) hl (by omega) (by omega) (by omega) rfl).trans ?_
  refine (parse_step (k + 3) _ 1 _ (A / 65536 % 256) hl (by omega) (by omega) (by omega) rfl).trans ?_
  refine (parse_step (k + 2) _ 2 _ (A / 256 % 256) hl (by omega) (by omega) (by omega) rfl).trans ?_
  refine (parse_step (k + 1) _ 3 _ (A % 256) hl (by omega) (by omega) (by omega) rfl).trans ?_
  rw [prefix_ParseAddr.l0, if_neg (by omega)]
  congr 2
  omega
theorem fieldsOf_le (c : UInt8) (l : List UInt8) : ∀ p ∈ fieldsOf c l, p.length ≤ l.length := by
  induction l with
  | nil =>
    intro p hp
    simp [fieldsOf] at hp
    simp [hp]
  | cons x l ih =>
    intro p hp
    rw [fieldsOf] at hp
    split at hp
    · rcases List.mem_cons.1 hp with rfl | h
      · simp
      · have := ih p h
        simp only [List.length_cons]
        omega
    · rcases List.mem_cons.1 hp with rfl | h
      · have h2 := ih ((fieldsOf c l).headD []) (by rw [fieldsOf_head c l]; exact List.mem_cons_self)
        simp only [List.length_cons]
        omega
      · have := ih p (List.mem_of_mem_tail h)
        simp only [List.length_cons]
        omega
theorem fieldsB_le (c : UInt8) (s : ByteArray) : ∀ p ∈ fieldsB c s, p.size ≤ s.size := by
  intro p hp
  obtain ⟨l, hl, rfl⟩ := List.mem_map.1 hp
  have := fieldsOf_le c _ l hl
  rw [Array.length_toList] at this
  exact this
theorem number_total (s : ByteArray) (m : Int) (hs : s.size ≤ 281474976710656) : ∃ v b, prefix_number.f s m = some (v, b) := by
  unfold prefix_number.f
  rw [if_pos hs]
  exact ⟨_, _, rfl⟩
theorem parse_loop_total (l : List ByteArray) (hl : l.length = 4) (hs : ∀ p ∈ l, p.size ≤ 281474976710656) :
    ∀ (d k i : Nat) (x : Int), 4 - i = d → i ≤ 4 → d < k → ∃ a e, prefix_ParseAddr.l0 k x l 4 (i : Int) = some (a, e) := by
  intro d
  induction d with
  | zero =>
    intro k i x h1 h2 h3
    obtain ⟨k, rfl⟩ : ∃ m, k = m + 1 := ⟨k - 1, by omega⟩
    rw [prefix_ParseAddr.l0, if_neg (by omega)]
    exact ⟨_, _, rfl⟩
  | succ d ih =>
    intro k i x h1 h2 h3
    obtain ⟨k, rfl⟩ : ∃ m, k = m + 1 := ⟨k - 1, by omega⟩
    rw [prefix_ParseAddr.l0, if_pos (by omega), if_pos (by omega), if_pos (by omega)]
    have hm : rdOf ByteArray.empty l (i : Int) ∈ l := by
      unfold rdOf
      rw [Int.toNat_natCast, List.getD_eq_getElem?_getD, List.getElem?_eq_getElem (by omega)]
      exact List.getElem_mem _
    obtain ⟨v, b, hv⟩ := number_total _ 255 (hs _ hm)
    rw [hv]
    simp only [Option.bind_some]
    split
    · rw [show wrap64 ((i : Int) + 1) = ((i + 1 : Nat) : Int) by unfold wrap64; omega]
      exact ih k (i + 1) _ (by omega) (by omega) (by omega)
    · exact ⟨_, _, rfl⟩
theorem parseAddr_total (s : ByteArray) (hs : s.size < 4294967281) (k : Nat) (hk : 5 ≤ k) : ∃ a e, prefix_ParseAddr.f k s = some (a, e) := by
  unfold prefix_ParseAddr.f
  rw [split_f 46 s hs]
  simp only [Option.bind_some]
  split
  · rename_i h
    have h4 : (fieldsB 46 s).length = 4 := by omega
    rw [h]
    exact parse_loop_total _ h4 (fun p hp => by have := fieldsB_le 46 s p hp; omega) 4 k 0 0 rfl (by omega) (by omega)
  · exact ⟨_, _, rfl⟩
theorem pow32 (m : Nat) (h : m ≤ 32) : 2 ^ m ≤ 4294967296 := Nat.pow_le_pow_right (n := 2) (by decide) h
theorem mask_f (n : Nat) (hn : n ≤ 32) : prefix_mask.f (n : Int) = some ((2 ^ (32 - n) - 1 : Nat) : Int) := by
  have hp : 2 ^ (32 - n) ≤ 4294967296 := pow32 _ (by omega)
  have h0 : 0 < 2 ^ (32 - n) := Nat.two_pow_pos _
  unfold prefix_mask.f
  rw [show wrap64 (32 - (n : Int)) = ((32 - n : Nat) : Int) by unfold wrap64; omega, if_pos (by omega)]
  unfold shl
  rw [Int.toNat_natCast, show min (32 - n) IntKind.u64.bits = 32 - n by simp [IntKind.bits]; omega, show ((1 : Int) * 2 ^ (32 - n)) = ((2 ^ (32 - n) : Nat) : Int) by simp]
  generalize 2 ^ (32 - n) = q at *
  rw [IntKind.wrap_u64, IntKind.wrap_u64]
  congr 1
  omega
theorem right_f (a n : Nat) (ha : a ≤ 4294967295) (hn : n ≤ 32) : prefix_Right.f (a : Int) (n : Int) = some (a % 2 ^ (32 - n) == 0) := by
  have hp : 2 ^ (32 - n) ≤ 4294967296 := pow32 _ (by omega)
  have h0 : 0 < 2 ^ (32 - n) := Nat.two_pow_pos _
  unfold prefix_Right.f
  rw [if_pos (by omega), if_pos (by omega), mask_f n hn]
  simp only [Option.bind_some]
  rw [u32_and_nat a (2 ^ (32 - n) - 1) (by omega) (by omega), Nat.and_two_pow_sub_one_eq_mod]
  congr 1
  rw [Bool.eq_iff_iff, beq_iff_eq, beq_iff_eq]
  omega
theorem cut_f (c : UInt8) (s : ByteArray) (hs : s.size < 4294967281) : strings_Cut.f s ⟨#[c]⟩ = some (⟨(Lib.cut s.data.toList [c]).1.toArray⟩, ⟨(Lib.cut s.data.toList [c]).2.1.toArray⟩, (Lib.cut s.data.toList [c]).2.2) := by
  unfold strings_Cut.f
  rw [if_pos hs]
theorem data_app (a b : ByteArray) : (a ++ b).data.toList = a.data.toList ++ b.data.toList := by simp [ByteArray.data_append]
theorem rangeText_f (a b : Nat) (ha : a ≤ 4294967295) (hb : b ≤ 4294967295) : ∃ t, prefix_RangeText.f (a : Int) (b : Int) = some t ∧ t.data.toList = addrText a ++ 45 :: addrText b ∧ t.size ≤ 200 := by
  have h1 := addrText_length a (by omega) (by omega)
  have h2 := addrText_length b (by omega) (by omega)
  have e1 : (⟨(addrText a).toArray⟩ : ByteArray).size = (addrText a).length := by simp [ByteArray.size]
  have e2 : (⟨(addrText b).toArray⟩ : ByteArray).size = (addrText b).length := by simp [ByteArray.size]
  refine ⟨((⟨(addrText a).toArray⟩ : ByteArray) ++ ⟨#[45]⟩) ++ ⟨(addrText b).toArray⟩, ?_, ?_, ?_⟩
  · unfold prefix_RangeText.f
    rw [addr_f (a : Int) (by omega) (by omega)]
    simp only [Option.bind_some]
    rw [if_pos (by omega), addr_f (b : Int) (by omega) (by omega)]
    simp only [Option.bind_some]
    rw [if_pos (by omega)]
  · rw [data_app, data_app]
    simp
  · rw [ByteArray.size_append, ByteArray.size_append, e1, e2]
    have : (⟨#[45]⟩ : ByteArray).size = 1 := rfl
    omega
theorem bytes_mk (s : ByteArray) (l : List UInt8) (h : s.data.toList = l) : (⟨l.toArray⟩ : ByteArray) = s := by
  rw [← h]
theorem parse_noslash (t : ByteArray) (hs : t.size < 4294967281) (h : (47 : UInt8) ∉ t.data.toList) (k : Nat) (hk : 5 ≤ k) : prefix_Parse.f k t = some (0, 0, 21) := by
  unfold prefix_Parse.f
  rw [cut_f 47 t hs, cut_none 47 _ h]
  simp only [Option.bind_some]
  rw [bytes_mk t _ rfl]
  obtain ⟨a, e, he⟩ := parseAddr_total t hs k hk
  rw [he]
  simp only [Option.bind_some]
  obtain ⟨v, b, hv⟩ := number_total ⟨([] : List UInt8).toArray⟩ 32 (by simp [ByteArray.size])
  rw [hv]
  simp
theorem parseRange_rangeText (a b : Nat) (ha : a ≤ 4294967295) (hb : b ≤ 4294967295) (hab : a ≤ b) (t : ByteArray) (ht : t.data.toList = addrText a ++ 45 :: addrText b) (hs : t.size ≤ 200) (k : Nat) (hk : 5 ≤ k) :
    prefix_ParseRange.f k t = some ((a : Int), (b : Int), 0) := by
  unfold prefix_ParseRange.f
  have hno : (47 : UInt8) ∉ t.data.toList := by
    rw [ht, List.mem_append, List.mem_cons, not_or, not_or]
    exact ⟨addrText_no a (by omega) (by omega) 47 (by decide) (by decide), by decide, addrText_no b (by omega) (by omega) 47 (by decide) (by decide)⟩
  rw [parse_noslash t (by omega) hno k hk]
  simp only [Option.bind_some]
  rw [if_neg (by decide), cut_f 45 t (by omega), ht, cut_mid 45 _ _ (addrText_no a (by omega) (by omega) 45 (by decide) (by decide))]
  simp only [Option.bind_some]
  rw [parseAddr_addr (a : Int) (by omega) (by omega) k hk, parseAddr_addr (b : Int) (by omega) (by omega) k hk]
  simp only [Option.bind_some]
  rw [if_pos trivial, if_pos trivial, if_pos trivial, if_neg (by omega)]
end Go.Proofs.YtfjamikpahmfhaaGreatDoor.P
end
section
open List renaming map_toArray → mA_, map_cons → mC_, map_nil → mN_, length_drop → lD_, length_take → lT_, setIfInBounds_toArray → sI_, set_cons_zero → z0_, set_cons_succ → z1_
namespace Go.Proofs.YtfjamikpahmfhaaGreatDoor.P
open Go.RowKit Go.Proofs.YtfjamikpahmfhaaGreatDoorW.PrintWords Go.Proofs.YtfjamikpahmfhaaGreatDoorW.PrintLast Go.Proofs.YtfjamikpahmfhaaGreatDoorW.PrintMore
attribute [local go_sem] max2_int min2_int max_two min_two max_three min_three max_four min_four
set_option linter.unusedVariables false
set_option linter.unusedSimpArgs false
def rule_within.f (a0 : Int) (a1 : Int) (a2 : Int) : Option (Bool) := if a0 ≥ a1 then (some (decide (a0 ≤ a2))) else (some false)
set_option maxHeartbeats 8000000 in
set_option maxRecDepth 100000 in
theorem rule_within.calls (a0 : Int) (a1 : Int) (a2 : Int) (r : Bool) (w : World) (h : rule_within.f a0 a1 a2 = some r) :
  Calls Tryz.prog 46 #[.int .i64 a0, .int .i64 a1, .int .i64 a2] w fun e w' => e = .returned (.bool r) ∧ Drawn0 w w' := by
 have H : (if a0 ≥ a1 then (some (decide (a0 ≤ a2))) else (some false)) = some r := h
 clear h
 by_cases c4 : a0 ≥ a1
 ·rw [if_pos c4] at H
  have c4b0 : decide (a1 ≤ a0) = true := decide_eq_true c4
  clear c4
  obtain rfl := Option.some.inj H
  go_enter Tryz.func46, Tryz.ntmps46
  go_wp2
  go_ret
  exact ⟨by first | rfl | (simp; done) | (simp [*]; done), by repeat (first | exact Drawn0.refl _ | apply Drawn0.step)⟩
 ·rw [if_neg c4] at H
  have c4b0 : decide (a1 ≤ a0) = false := decide_eq_false c4
  clear c4
  obtain rfl := Option.some.inj H
  go_enter Tryz.func46, Tryz.ntmps46
  go_wp2
  go_ret
  exact ⟨by first | rfl | (simp; done) | (simp [*]; done), by repeat (first | exact Drawn0.refl _ | apply Drawn0.step)⟩
end Go.Proofs.YtfjamikpahmfhaaGreatDoor.P
end
