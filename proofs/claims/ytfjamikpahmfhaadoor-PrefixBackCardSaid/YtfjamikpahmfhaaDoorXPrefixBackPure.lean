/- Plain law of PrefixBack: the printed function answers true at every input. -/
import Derived.Test.YtfjamikpahmfhaaDoorXPrefixAlive
import Derived.Test.YtfjamikpahmfhaaDoorPWaystonelaw02PrefixBack
set_option linter.unusedVariables false
set_option linter.unusedSimpArgs false
namespace Go.Proofs.YtfjamikpahmfhaaDoor.P
open Go.RowKit Go.Proofs.YtfjamikpahmfhaaDoor.T Go.Proofs.YtfjamikpahmfhaaDoorW.PrintWords Go.Proofs.YtfjamikpahmfhaaDoorW.PrintLast Go.Proofs.YtfjamikpahmfhaaDoorW.PrintMore

theorem prefixBack_tail (a n : Int) (h0 : 0 ≤ a) (h1 : a ≤ 4294967295) (k : Nat) (hk : 6 ≤ k) : waystonelaw02_PrefixBack.j1 k a n = some true := by
  obtain ⟨k, rfl⟩ : ∃ m, k = m + 1 := ⟨k - 1, by omega⟩
  obtain ⟨A, rfl⟩ := Int.eq_ofNat_of_zero_le h0
  rw [waystonelaw02_PrefixBack.j1]
  by_cases hn : n < 0 ∨ 32 < n
  · rw [right_out _ n hn]
    simp only [Option.bind_some, Bool.false_eq_true, if_false]
    rw [alive02_f k (by omega)]
    rfl
  · obtain ⟨N, rfl⟩ := Int.eq_ofNat_of_zero_le (show 0 ≤ n by omega)
    rw [right_f A N (by omega) (by omega)]
    simp only [Option.bind_some]
    by_cases hr : A % 2 ^ (32 - N) = 0
    · rw [if_pos (by simpa using hr)]
      obtain ⟨t, ht, hd, hs⟩ := text_f A N (by omega) (by omega)
      rw [ht]
      simp only [Option.bind_some]
      rw [parse_text A N (by omega) (by omega) hr t hd hs k (by omega), range_f A N (by omega) (by omega) hr]
      simp only [Option.bind_some]
      rw [parseRange_text A N (by omega) (by omega) hr t hd hs k (by omega)]
      simp only [Option.bind_some]
      rw [of_f A N (by omega) (by omega) hr]
      simp only [Option.bind_some]
      rw [alive02_f k (by omega)]
      simp
    · rw [if_neg (by simpa using hr), alive02_f k (by omega)]
      rfl
theorem prefixBack_pure (a n b c : Int) (h0 : 0 ≤ a) (h1 : a ≤ 4294967295) (h2 : 0 ≤ b) (h3 : b ≤ 4294967295) (h4 : 0 ≤ c) (h5 : c ≤ 4294967295) :
    waystonelaw02_PrefixBack.f 7 a n b c = some true := by
  unfold waystonelaw02_PrefixBack.f
  rw [addr_f a h0 h1]
  simp only [Option.bind_some]
  rw [parseAddr_addr a h0 h1 7 (by omega)]
  simp only [Option.bind_some]
  rw [if_pos trivial, bne_self_eq_false, waystonelaw02_PrefixBack.j0, if_neg (by decide)]
  by_cases hbc : b ≤ c
  · rw [if_pos hbc]
    obtain ⟨B, rfl⟩ := Int.eq_ofNat_of_zero_le h2
    obtain ⟨C, rfl⟩ := Int.eq_ofNat_of_zero_le h4
    obtain ⟨t, ht, hd, hs⟩ := rangeText_f B C (by omega) (by omega)
    rw [ht]
    simp only [Option.bind_some]
    rw [parseRange_rangeText B C (by omega) (by omega) (by omega) t hd hs 6 (by omega)]
    simp only [Option.bind_some]
    rw [if_pos trivial, if_neg (by simp)]
    exact prefixBack_tail a n h0 h1 6 (by omega)
  · rw [if_neg hbc]
    exact prefixBack_tail a n h0 h1 6 (by omega)
end Go.Proofs.YtfjamikpahmfhaaDoor.P
