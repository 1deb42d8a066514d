/- Plain law: the live question of layer 7 is answered. -/
import Derived.Test.YtfjamikpahmfhaaGreatDoorXRuleLaw
import Derived.Test.YtfjamikpahmfhaaGreatDoorXPrefixAlive
import Derived.Test.YtfjamikpahmfhaaGreatDoorPWaystonelaw07Alive
set_option linter.unusedSimpArgs false
set_option linter.unusedVariables false
namespace Go.Proofs.YtfjamikpahmfhaaGreatDoor.P
open Go.RowKit Go.Proofs.YtfjamikpahmfhaaGreatDoor.T Go.Proofs.YtfjamikpahmfhaaGreatDoorW.PrintWords Go.Proofs.YtfjamikpahmfhaaGreatDoorW.PrintLast Go.Proofs.YtfjamikpahmfhaaGreatDoorW.PrintMore

theorem num3 (n : Nat) (h1 : ¬ n < 10) (h2 : ¬ n / 10 < 10) (h3 : n / 10 < 100) : (numeral (n : Int)).data.toList = [UInt8.ofNat (48 + n / 10 / 10), UInt8.ofNat (48 + n / 10 % 10), UInt8.ofNat (48 + n % 10)] := by
  rw [numeral_data _ (by omega), Int.toNat_natCast, Lib.decDigits, dif_neg h1, Lib.decDigits_two h2 h3]
  rfl
theorem addr10z : addrText 184549375 = [49, 48, 46, 50, 53, 53, 46, 50, 53, 53, 46, 50, 53, 53] := by
  have o : octets 184549375 = [((10 : Nat) : Int), ((255 : Nat) : Int), ((255 : Nat) : Int), ((255 : Nat) : Int)] := by decide
  unfold addrText
  rw [o]
  simp only [List.map_cons, List.map_nil]
  rw [num2 10 (by decide) (by decide), num3 255 (by decide) (by decide) (by decide)]
  rfl
def aliveRule : Rl := ⟨7, 0, 10, 0, ⟨167772160, 184549375⟩, 3⟩
def aliveText : ByteArray := ⟨#[55, 32, 48, 32, 49, 48, 32, 102, 111, 114, 119, 97, 114, 100, 32, 49, 48, 46, 48, 46, 48, 46, 48, 45, 49, 48, 46, 50, 53, 53, 46, 50, 53, 53, 46, 50, 53, 53, 32, 51]⟩
theorem aliveText_eq : textT aliveRule = aliveText := by
  have h7 := num1 7 (by decide)
  have h0 := num1 0 (by decide)
  have h3 := num1 3 (by decide)
  have h10 := num2 10 (by decide) (by decide)
  unfold textT wordsT aliveRule
  simp only
  have e7 : (numeral 7).data.toList = [UInt8.ofNat (48 + 7)] := h7
  have e0 : (numeral 0).data.toList = [UInt8.ofNat (48 + 0)] := h0
  have e3 : (numeral 3).data.toList = [UInt8.ofNat (48 + 3)] := h3
  have e10 : (numeral 10).data.toList = [UInt8.ofNat (48 + 10 / 10), UInt8.ofNat (48 + 10 % 10)] := h10
  rw [e7, e0, e3, e10, addr10, addr10z]
  rfl
theorem alive_ok : okRule aliveRule := ⟨⟨by decide, by decide⟩, ⟨by decide, by decide⟩⟩
theorem alive_right : rightB aliveRule = true := by decide
theorem alive_parse : rule_Parse.f aliveText = some (7, 0, 10, 0, 167772160, 184549375, 3, 0) := by
  rw [← aliveText_eq]
  exact parse_text_rule aliveRule alive_ok alive_right
theorem alive_text : rule_Text.f 7 0 10 0 167772160 184549375 3 = some aliveText := by
  obtain ⟨t, _, _, h⟩ := ruleText_f aliveRule alive_ok alive_right
  rw [aliveText_eq] at h
  exact h
def someL : List Rl := [⟨1, 0, 5, 0, ⟨0, 99⟩, 2⟩, ⟨2, 0, 9, 1, ⟨50, 59⟩, 0⟩, ⟨3, 0, 1, 3, ⟨70, 79⟩, 0⟩, ⟨4, 0, 5, 0, ⟨0, 9⟩, 1⟩]
theorem some_f : waystonelaw07_some.f = some someL := rfl
theorem m1 : rule_Match.f someL 0 5 = some (1, 0, 5, 0, 0, 99, 2, true) := by kernel_rfl
theorem m2 : rule_Match.f someL 0 55 = some (2, 0, 9, 1, 50, 59, 0, true) := by kernel_rfl
theorem m3 : rule_Match.f someL 1 55 = some (0, 0, 0, 0, 0, 0, 0, false) := by kernel_rfl
theorem d1 : rule_Denies.f someL 0 75 = some true := by kernel_rfl
theorem d2 : rule_Denies.f someL 0 5 = some false := by kernel_rfl
theorem all_some : rule_All.f 100 someL = some true := by kernel_rfl
theorem alive07_f : waystonelaw07_alive.f 100 = some true := by
  unfold waystonelaw07_alive.f
  simp only [some_f, Option.bind_some, m1, m2, m3, d1, d2, all_some]
  rw [show (⟨#[55, 32, 48, 32, 49, 48, 32, 102, 111, 114, 119, 97, 114, 100, 32, 49, 48, 46, 48, 46, 48, 46, 48, 45, 49, 48, 46, 50, 53, 53, 46, 50, 53, 53, 46, 50, 53, 53, 32, 51]⟩ : ByteArray) = aliveText from rfl, alive_parse]
  simp only [Option.bind_some, if_true, if_pos trivial, alive_text]
  simp [aliveText, byte_toList]
theorem leO_ge {α : Type} {f : Nat → Option α} (hm : ∀ k, LeO (f k) (f (k + 1))) {k0 : Nat} {r : α} (h : f k0 = some r) : ∀ k, k0 ≤ k → f k = some r := by
  intro k hk
  induction k with
  | zero => obtain rfl : k0 = 0 := by omega
            exact h
  | succ n ih =>
    by_cases hn : k0 ≤ n
    · exact hm n r (ih hn)
    · obtain rfl : k0 = n + 1 := by omega
      exact h
theorem alive07_ge (k : Nat) (hk : 100 ≤ k) : waystonelaw07_alive.f k = some true := leO_ge waystonelaw07_alive.mono alive07_f k hk
theorem wrap_succ (i : Nat) (h : i < 9223372036854775807) : wrap64 ((i : Int) + 1) = ((i + 1 : Nat) : Int) := by unfold wrap64; omega

/-- A list whose numbers are numbers of the program. -/
def okList (l : List Rl) : Prop := ∀ i : Nat, i < l.length → (-9223372036854775808 ≤ (rd_T27 l (i : Int)).f0 ∧ (rd_T27 l (i : Int)).f0 ≤ 9223372036854775807)

end Go.Proofs.YtfjamikpahmfhaaGreatDoor.P
