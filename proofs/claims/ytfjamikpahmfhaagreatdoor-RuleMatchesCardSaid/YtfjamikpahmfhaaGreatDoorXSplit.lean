/- strings.Split at a separator of one byte or more, strings.Cut: what they answer, in the print's form. -/
import Derived.Test.YtfjamikpahmfhaaGreatDoorXLaid
import Derived.Lib.SplitLaws
namespace Go.Proofs.YtfjamikpahmfhaaGreatDoor.P
open Go.RowKit Go.Proofs.YtfjamikpahmfhaaGreatDoorW.PrintWords Go.Proofs.YtfjamikpahmfhaaGreatDoorW.PrintLast Go.Proofs.YtfjamikpahmfhaaGreatDoorW.PrintMore
set_option linter.unusedVariables false

/-- A new row of elements of one cell. -/
theorem R_new_row {α : Type} (enc : α → Value) (h1 : ∀ x, (enc x).oneCell' = true) (w : World) (e : Nat) (xs : List α) (hl : xs.length ≤ 9223372036854775807) :
    (Kd.scalar enc h1).R e (w.alloc (.cells (xs.map enc).toArray e)) w.heap.size (fun _ => True) (.slice (some ⟨w.heap.size, 0, none⟩) xs.length xs.length) xs := by
  refine ⟨fun _ _ => trivial, xs.map enc, ?_, ?_⟩
  · have h2 := World.ownsRow_lit (base := w.heap.size) (e := e) (size := 1) w (xs.map enc).toArray xs.length (Nat.le_refl _) (by simpa [maxLen] using hl) (by simp)
    simpa [Kd.scalar] using h2
  · exact Kd.reps_scalar xs

def strings_Split.f (a0 a1 : ByteArray) : Option (List ByteArray) := if a0.size < 4294967281 ∧ 1 ≤ a1.size then some (Lib.splitB a1 0 (Lib.countB a0 a1) a0) else none
theorem strings_Split.calls (a0 a1 : ByteArray) (r : List ByteArray) (w : World) (HLd : Laid w) (h : strings_Split.f a0 a1 = some r) :
    Calls Tryz.prog 56 #[.string a0, .string a1] w fun e w' => ∃ v0_ : Value, e = .returned (v0_) ∧ Kd.R Kd.string 9 w' w.heap.size (fun _ => True) v0_ r ∧ Below w.heap.size w w' := by
  unfold strings_Split.f at h
  split at h
  · rename_i hb
    have hr := Option.some.inj h
    obtain ⟨m, hm⟩ := HLd.maxLen
    have hlen : (Lib.splitB a1 0 (Lib.countB a0 a1) a0).length = Lib.countB a0 a1 + 1 := Lib.splitB_all a1 hb.2 0 _ a0 rfl
    refine (Tryz.strings_Split a0 a1 m w hb.1 hm hb.2).mono fun e w' hh => ?_
    obtain ⟨he, hw⟩ := hh
    rw [hr] at hw hlen
    refine ⟨_, he, ?_, by rw [hw]; exact (Below.refl _ _).alloc (Nat.le_refl _) _⟩
    rw [hw, ← hlen]
    refine R_new_row Value.string (fun _ => rfl) w 9 r ?_
    rw [hlen]
    have h3 := Lib.countB_le a1 hb.2 a0.size a0 (Nat.le_refl _)
    omega
  · cases h

def strings_Cut.f (a0 a1 : ByteArray) : Option (ByteArray × ByteArray × Bool) :=
  if a0.size < 4294967281 then some (⟨(Lib.cut a0.data.toList a1.data.toList).1.toArray⟩, ⟨(Lib.cut a0.data.toList a1.data.toList).2.1.toArray⟩, (Lib.cut a0.data.toList a1.data.toList).2.2) else none
theorem strings_Cut.calls (a0 a1 : ByteArray) (r1 r2 : ByteArray) (r3 : Bool) (w : World) (HLd : Laid w) (h : strings_Cut.f a0 a1 = some (r1, r2, r3)) :
    Calls Tryz.prog 109 #[.string a0, .string a1] w fun e w' => e = .returned (.tuple #[.string r1, .string r2, .bool r3]) ∧ Below w.heap.size w w' := by
  unfold strings_Cut.f at h
  split at h
  · rename_i hb
    have hh := Option.some.inj h
    obtain ⟨e1, h2⟩ := Prod.mk.inj hh
    obtain ⟨e2, e3⟩ := Prod.mk.inj h2
    obtain ⟨m, hm⟩ := HLd.maxLen
    refine (Tryz.strings_Cut a0 a1 m w hb hm).mono fun e w' hq => ?_
    obtain ⟨he, n, hw⟩ := hq
    rw [e1, e2, e3] at he
    exact ⟨he, by rw [hw]; exact below_drewN (Below.refl _ _) n⟩
  · cases h
end Go.Proofs.YtfjamikpahmfhaaGreatDoor.P
