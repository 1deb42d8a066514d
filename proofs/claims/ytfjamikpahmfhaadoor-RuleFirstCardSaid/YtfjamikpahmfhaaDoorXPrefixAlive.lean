/- Plain law: the live question of layer 2 is answered. -/
import Derived.Test.YtfjamikpahmfhaaDoorXPrefixLaw
import Derived.Test.YtfjamikpahmfhaaDoorPWaystonelaw02Alive
set_option linter.unusedVariables false
set_option linter.unusedSimpArgs false
namespace Go.Proofs.YtfjamikpahmfhaaDoor.P
open Go.RowKit Go.Proofs.YtfjamikpahmfhaaDoor.T Go.Proofs.YtfjamikpahmfhaaDoorW.PrintWords Go.Proofs.YtfjamikpahmfhaaDoorW.PrintLast Go.Proofs.YtfjamikpahmfhaaDoorW.PrintMore
theorem num1 (n : Nat) (h : n < 10) : (numeral (n : Int)).data.toList = [UInt8.ofNat (48 + n)] := by
  rw [numeral_data _ (by omega), Int.toNat_natCast, Lib.decDigits_one h]
theorem num2 (n : Nat) (h1 : ¬ n < 10) (h2 : n < 100) : (numeral (n : Int)).data.toList = [UInt8.ofNat (48 + n / 10), UInt8.ofNat (48 + n % 10)] := by
  rw [numeral_data _ (by omega), Int.toNat_natCast, Lib.decDigits_two h1 h2]
theorem addr10 : addrText 167772160 = [49, 48, 46, 48, 46, 48, 46, 48] := by
  have o : octets 167772160 = [((10 : Nat) : Int), ((0 : Nat) : Int), ((0 : Nat) : Int), ((0 : Nat) : Int)] := by decide
  unfold addrText
  rw [o]
  simp only [List.map_cons, List.map_nil]
  rw [num2 10 (by decide) (by decide), num1 0 (by decide)]
  rfl
theorem addr258 : addrText 258 = [48, 46, 48, 46, 49, 46, 50] := by
  have o : octets 258 = [((0 : Nat) : Int), ((0 : Nat) : Int), ((1 : Nat) : Int), ((2 : Nat) : Int)] := by decide
  unfold addrText
  rw [o]
  simp only [List.map_cons, List.map_nil]
  rw [num1 0 (by decide), num1 1 (by decide), num1 2 (by decide)]
  rfl
theorem alive02_f (k : Nat) (hk : 5 ≤ k) : waystonelaw02_alive.f k = some true := by
  unfold waystonelaw02_alive.f
  have e1 := parse_text 167772160 8 (by decide) (by decide) (by decide) ⟨#[49, 48, 46, 48, 46, 48, 46, 48, 47, 56]⟩ (by rw [show ((167772160 : Nat) : Int) = 167772160 from rfl, addr10, num1 8 (by decide)]; rfl) (by decide) k hk
  rw [e1]
  simp only [Option.bind_some]
  rw [range_f 167772160 8 (by decide) (by decide) (by decide)]
  simp only [Option.bind_some]
  have e2 : prefix_Split.f 1 6 = some ([⟨1, 32⟩, ⟨2, 31⟩, ⟨4, 31⟩, ⟨6, 32⟩], 0) := by kernel_rfl
  rw [e2]
  simp only [Option.bind_some]
  have e3 := addr_f 258 (by decide) (by decide)
  rw [e3, addr258]
  simp only [Option.bind_some]
  rw [byte_toList]
  decide +kernel
end Go.Proofs.YtfjamikpahmfhaaDoor.P
