/- What the walks ask of the package-level variables (one fact, 'Laid'), and that a call that leaves all old blocks alone keeps it; the library's contracts in the form in which the walks use them. -/
import Derived.Test.YtfjamikpahmfhaaGreatDoorXShelf
import Derived.Test.YtfjamikpahmfhaaGreatDoorPKinds
import Derived.WalkSmall
import Derived.Lib.ItoaLen
import Derived.Lib.AppendIntMem
import Derived.Lib.AtoiErrMem
import Derived.Lib.Hide
import Derived.Shelf.Spec.TrailingZeros
namespace Go.Proofs.YtfjamikpahmfhaaGreatDoor.P
set_option linter.unusedVariables false
set_option linter.unusedSimpArgs false
open Go.RowKit Go.Proofs.YtfjamikpahmfhaaGreatDoorW.PrintWords Go.Proofs.YtfjamikpahmfhaaGreatDoorW.PrintLast Go.Proofs.YtfjamikpahmfhaaGreatDoorW.PrintMore

/-- The package-level variables that the code reads, as their initialisers lay them. -/
structure Laid (w : World) : Prop where
  maxLen : ∃ m : Int, w.cell? ⟨1, 0, none⟩ = some (.int .i64 m)
  pow10 : Lib.TabIs Tryz.prog w "internal/strconv.uint64pow10" .u64 Lib.pow10Tab
  syn : ∃ tp p, w.var? Tryz.prog "strconv.ErrSyntax" = some #[.iface tp p]
  rng : ∃ tp p, w.var? Tryz.prog "strconv.ErrRange" = some #[.iface tp p]
  ctz : TabAt 7 Lib.deBruijn64tab w
  room : 8 ≤ w.heap.size

theorem Laid.belowB {B : Nat} {w w' : World} (h : Laid w) (hB : 8 ≤ B) (hb : Below B w w') : Laid w' where
  maxLen := by
    obtain ⟨m, hm⟩ := h.maxLen
    exact ⟨m, (hb.cell (p := ⟨1, 0, none⟩) (Nat.lt_of_lt_of_le (by decide) hB)).trans hm⟩
  pow10 := var?_below hb (g := 0) (by kernel_rfl) (Nat.lt_of_lt_of_le (by decide) hB) h.pow10
  syn := by
    obtain ⟨t, p, hm⟩ := h.syn
    exact ⟨t, p, var?_below hb (g := 2) (by kernel_rfl) (Nat.lt_of_lt_of_le (by decide) hB) hm⟩
  rng := by
    obtain ⟨t, p, hm⟩ := h.rng
    exact ⟨t, p, var?_below hb (g := 3) (by kernel_rfl) (Nat.lt_of_lt_of_le (by decide) hB) hm⟩
  ctz := fun j hj => (hb.cell (p := ⟨7, j, none⟩) (Nat.lt_of_lt_of_le (show 7 < 8 by decide) hB)).trans (h.ctz j hj)
  room := Nat.le_trans h.room hb.size
theorem Laid.below {w w' : World} (h : Laid w) (hb : Below w.heap.size w w') : Laid w' := h.belowB h.room hb

theorem below_growN (w : World) (n : Nat) (os : Array Obj) : Below w.heap.size w (Sort.grow (w.drewN n) os) := Lib.below_grow w.heap.size w (Nat.le_refl _) n os

/-- strconv.Itoa. -/
theorem itoa_calls (n : Int) (w : World) (HLd : Laid w) (h0 : -9223372036854775808 ≤ n) (h1 : n ≤ 9223372036854775807) :
    Calls Tryz.prog 48 #[.int .i64 n] w fun e w' => e = .returned (.string ⟨(Lib.itoa n).toArray⟩) ∧ Below w.heap.size w w' :=
  (Tryz.strconv_Itoa n h0 h1 w HLd.pow10).mono fun e w' ⟨he, k, os, hw⟩ => ⟨he, by rw [hw]; exact below_growN w k os⟩

theorem atoi_bounds {l : List UInt8} {v : Int} (h : Lib.atoiAll l = .ok v) : -9223372036854775808 ≤ v ∧ v ≤ 9223372036854775807 := by
  unfold Lib.atoiAll at h
  split at h
  · cases h
  · rename_i c r
    dsimp only at h
    split at h
    · cases h
    · cases h
    · rename_i u hu
      split at h
      · cases h
      · rename_i h1
        split at h
        · cases h
        · rename_i h2
          injection h with h
          by_cases hc : c.toNat = 45
          · rw [if_pos hc] at h
            have := not_and.mp h2 hc
            omega
          · rw [if_neg hc] at h
            have := not_and.mp h1 hc
            omega

/-- What strconv.Atoi's first result is, and whether its error is nil. -/
def atoiV (s : ByteArray) : Int × Bool :=
  match Lib.atoiAll s.data.toList with
  | .ok v => (v, true)
  | .range => (Lib.atoiSat s.data.toList, false)
  | _ => (0, false)
theorem atoiV_bounds (s : ByteArray) : -9223372036854775808 ≤ (atoiV s).1 ∧ (atoiV s).1 ≤ 9223372036854775807 := by
  unfold atoiV
  split
  · rename_i v h
    exact atoi_bounds h
  · unfold Lib.atoiSat
    split <;> exact ⟨by decide, by decide⟩
  · exact ⟨by decide, by decide⟩

/-- strconv.Atoi where it succeeds. -/
theorem atoi_ok (s : ByteArray) (w : World) (hs : s.size ≤ 281474976710656) (h : (atoiV s).2 = true) :
    Calls Tryz.prog 111 #[.string s] w fun e w' => e = .returned (.tuple #[.int .i64 (atoiV s).1, .nilIface]) ∧ Below w.heap.size w w' := by
  unfold atoiV at h ⊢
  split at h
  · rename_i v hv
    refine (Tryz.strconv_Atoi_ok s (by omega) v hv w).mono fun e w' hh => ?_
    obtain ⟨he, hw | ⟨t, hw⟩⟩ := hh
    · exact ⟨he, by rw [hw]; exact Below.refl _ _⟩
    · exact ⟨he, by rw [hw]; exact Lib.bytesWorld_below w _ t⟩
  · cases h
  · cases h
/-- strconv.Atoi where it does not: some error. -/
theorem atoi_err (s : ByteArray) (w : World) (HLd : Laid w) (hs : s.size ≤ 281474976710656) (h : (atoiV s).2 = false) :
    Calls Tryz.prog 111 #[.string s] w fun e w' => ∃ N, e = .returned (.tuple #[.int .i64 (atoiV s).1, .iface 244 (.pointer (some ⟨N, 0, none⟩))]) ∧ Below w.heap.size w w' := by
  unfold atoiV at h ⊢
  split at h
  · cases h
  · rename_i hv
    obtain ⟨tp, p, hp⟩ := HLd.rng
    refine (Tryz.strconv_Atoi_range_var s hs hv tp p w hp).mono fun e w' hh => ?_
    obtain ⟨N, he, _, _, hb⟩ := hh
    exact ⟨N, he, hb⟩
  · rename_i hv1 hv2
    obtain ⟨tp, p, hp⟩ := HLd.syn
    refine (Tryz.strconv_Atoi_syntax_var s hs ⟨hv1, hv2⟩ tp p w hp).mono fun e w' hh => ?_
    obtain ⟨N, he, _, _, hb⟩ := hh
    exact ⟨N, he, hb⟩
/-- bits.TrailingZeros64, bits.Len64. -/
theorem ctz_calls (x : Nat) (hx : x < 18446744073709551616) (w : World) (HLd : Laid w) :
    Calls Tryz.prog 253 #[.int .u64 (x : Int)] w fun e w' => e = .returned (.int .i64 (Lib.ctz 64 x : Nat)) ∧ w = w' :=
  (Any7.bits_TrailingZeros64 Tryz.lays7_29 x hx w (fun _ => HLd.ctz)).mono fun e w' ⟨he, hw⟩ => ⟨he, hw.symm⟩
theorem len64_calls (x : Int) (w : World) (h0 : 0 ≤ x) (h1 : x ≤ 18446744073709551615) :
    Calls Tryz.prog 221 #[.int .u64 x] w fun e w' => e = .returned (.int .i64 (Lib.bitLen x.toNat : Nat)) ∧ w = w' :=
  (Tryz.bits_Len64 x w h0 h1).mono fun e w' ⟨he, hw⟩ => ⟨he, hw.symm⟩
end Go.Proofs.YtfjamikpahmfhaaGreatDoor.P
