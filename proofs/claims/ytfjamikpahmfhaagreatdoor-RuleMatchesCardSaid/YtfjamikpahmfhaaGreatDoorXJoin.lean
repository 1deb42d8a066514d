/- strings.Join over a list that lies somewhere. -/
import Derived.Test.YtfjamikpahmfhaaGreatDoorXLaid
import Derived.Lib.Join
namespace Go.Proofs.YtfjamikpahmfhaaGreatDoor.P
open Go.RowKit Go.Proofs.YtfjamikpahmfhaaGreatDoorW.PrintWords Go.Proofs.YtfjamikpahmfhaaGreatDoorW.PrintLast Go.Proofs.YtfjamikpahmfhaaGreatDoorW.PrintMore

theorem join_calls (A : Option Addr) (c : Nat) (xs : List ByteArray) (sep : ByteArray) (w : World) (hr : Kd.C Kd.string w A xs.length xs) (hc : xs.length ≤ c)
    (h1 : xs.length ≤ 140737488355328) (h2 : (Lib.join (xs.map fun x => x.data.toList) sep.data.toList).length ≤ 140737488355328) :
    Calls Tryz.prog 50 #[.slice A xs.length c, .string sep] w fun e w' => e = .returned (.string ⟨(Lib.join (xs.map fun x => x.data.toList) sep.data.toList).toArray⟩) ∧ Below w.heap.size w w' := by
  rcases Nat.eq_zero_or_pos xs.length with h0 | h0
  · obtain rfl := List.eq_nil_of_length_eq_zero h0
    refine (Tryz.strings_Join_none A c sep w).mono fun e w' hh => ?_
    obtain ⟨he, hw⟩ := hh
    exact ⟨he, by rw [hw]; exact Below.refl _ _⟩
  · obtain ⟨ad, rfl, hcell⟩ := hr.2.2 h0
    have hat : ∀ (j : Nat) (x : ByteArray), xs[j]? = some x → w.cell? (ad.add j) = some (.string x) := by
      intro j x hj
      obtain ⟨cs, hl, hk, hcs⟩ := hcell j x hj
      have : cs = [.string x] := hk
      subst this
      have h3 := hcs 0 (.string x) rfl
      have e1 : Kd.string.sz = 1 := rfl
      rw [e1, Nat.mul_one, Nat.add_zero] at h3
      exact h3
    obtain ⟨bk, o, spot⟩ := ad
    have hs : spot = none := by
      have h3 := hat 0 _ (List.getElem?_eq_getElem h0)
      have e2 : (⟨bk, o, spot⟩ : Addr).add 0 = ⟨bk, o, spot⟩ := rfl
      rw [e2] at h3
      cases spot with
      | none => rfl
      | some s =>
        simp only [World.cell?] at h3
        split at h3
        · simp at h3
        · cases h3
    subst hs
    have hb := World.block_lt_of_cell? w _ (hat 0 _ (List.getElem?_eq_getElem h0))
    refine Tryz.strings_Join bk o c xs sep w (fun j x hj => ?_) hb h1 hc h2
    have := hat j x hj
    rw [show (⟨bk, o, none⟩ : Addr).add j = ⟨bk, o + j, none⟩ by unfold Addr.add; split <;> simp_all] at this
    exact this
end Go.Proofs.YtfjamikpahmfhaaGreatDoor.P
