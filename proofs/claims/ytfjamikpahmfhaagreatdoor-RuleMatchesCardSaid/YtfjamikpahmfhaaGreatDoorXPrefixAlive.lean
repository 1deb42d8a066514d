/- Plain law: the live question of layer 2 is answered. -/
import Derived.Test.YtfjamikpahmfhaaGreatDoorXPrefixLaw
namespace Go.Proofs.YtfjamikpahmfhaaGreatDoor.P
open Go.RowKit Go.Proofs.YtfjamikpahmfhaaGreatDoor.T Go.Proofs.YtfjamikpahmfhaaGreatDoorW.PrintWords Go.Proofs.YtfjamikpahmfhaaGreatDoorW.PrintLast Go.Proofs.YtfjamikpahmfhaaGreatDoorW.PrintMore
theorem num1 (n : Nat) (h : n < 10) : (numeral (n : Int)).data.toList = [UInt8.ofNat (48 + n)] := by
  rw [numeral_data _ (by omega), Int.toNat_natCast, Lib.decDigits_one h]
theorem num2 (n : Nat) (h1 : ¬ n < 10) (h2 : n < 100) : (numeral (n : Int)).data.toList = [UInt8.ofNat (48 + n / 10), UInt8.ofNat (48 + n % 10)] := by
  rw [numeral_data _ (by omega), Int.toNat_natCast, Lib.decDigits_two h1 h2]
theorem addr10 : addrText 167772160 = [49, 48, 46, 48, 46, 48, 46, 48] := by
  have o : octets 167772160 = [((10 : Nat) : Int), ((0 : Nat) : Int), ((0 : Nat) : Int), ((0 : Nat) : Int)] := by decide
  unfold addrText
  rw [o]
  simp only [List.map_cons, List.map_nil]
  rw [num2 10 (by decide) (by decide), num1 0 (by decide)]
  rfl
theorem addr258 : addrText 258 = [48, 46, 48, 46, 49, 46, 50] := by
  have o : octets 258 = [((0 : Nat) : Int), ((0 : Nat) : Int), ((1 : Nat) : Int), ((2 : Nat) : Int)] := by decide
  unfold addrText
  rw [o]
  simp only [List.map_cons, List.map_nil]
  rw [num1 0 (by decide), num1 1 (by decide), num1 2 (by decide)]
  rfl
end Go.Proofs.YtfjamikpahmfhaaGreatDoor.P
