/- prefix.Addr: the four bytes' numerals, a dot between. -/
import Derived.Test.YtfjamikpahmfhaaGreatDoorXJoin
import Derived.Lib.Join
namespace Go.Proofs.YtfjamikpahmfhaaGreatDoor.P
open Go.RowKit Go.Proofs.YtfjamikpahmfhaaGreatDoorW.PrintWords Go.Proofs.YtfjamikpahmfhaaGreatDoorW.PrintLast Go.Proofs.YtfjamikpahmfhaaGreatDoorW.PrintMore
set_option linter.unusedVariables false

theorem infoS : (Tryz.prog.info? 9).map (fun i => (i.zero, i.size, i.bytes)) = some (some (.string ⟨#[]⟩), 1, 16) := by kernel_rfl
/-- The four bytes of an address. -/
def octets (a : Int) : List Int := [a / 16777216, a / 65536 % 256, a / 256 % 256, a % 256]
def numeral (c : Int) : ByteArray := ⟨(Lib.itoa c).toArray⟩
def prefix_Addr.f (a0 : Int) : Option ByteArray :=
  if 0 ≤ a0 ∧ a0 ≤ 4294967295 then some ⟨(Lib.join (((octets a0).map numeral).map (·.data.toList)) [46]).toArray⟩ else none
set_option maxHeartbeats 800000 in
set_option maxRecDepth 100000 in
theorem prefix_Addr.calls (a0 : Int) (r : ByteArray) (w : World) (HLd : Laid w) (h : prefix_Addr.f a0 = some r) :
    Calls Tryz.prog 101 #[.int .u32 a0] w fun e w' => e = .returned (.string r) ∧ Below w.heap.size w w' := by
  unfold prefix_Addr.f at h
  split at h
  case isFalse => cases h
  rename_i hb
  obtain ⟨b0, b1⟩ := hb
  have hr := Lib.hid (Option.some.inj h)
  clear h
  have hu58 := Tryz.underlying88
  go_enter Tryz.func101, Tryz.ntmps101
  go_wp2_with fail
  have HB := Aside0.mk ((Below.refl w.heap.size w).alloc (Nat.le_refl _) (Obj.cells #[Value.int IntKind.u8 (a0 / 16777216), Value.int IntKind.u8 (a0 / 65536 % 256), Value.int IntKind.u8 (a0 / 256 % 256), Value.int IntKind.u8 (a0 % 256)] 196))
  go_loopw [4, 20] (fun v i wr => ∃ k : Nat, k ≤ 4 ∧ i = .int .i64 k ∧ Aside0 (Kd.R Kd.string 9 wr w.heap.size (fun _ => True) v (((octets a0).map numeral).take k)) ∧ Aside0 (Below w.heap.size w wr))
    (fun _ i _ => 4 - (intOf i).toNat)
  case atStart => exact ⟨0, by omega, rfl, ⟨Kd.R_nil _ _ _ _ _⟩, HB⟩
  case round =>
    clear HB
    obtain ⟨k, hk, rfl, HO, HB⟩ := hrel
    by_cases hlt : k < 4
    · obtain ⟨c, hc0, hc1, hcv, hi⟩ : ∃ c : Int, 0 ≤ c ∧ c ≤ 255 ∧ Aside0 (((octets a0).map numeral).take (k + 1) = ((octets a0).map numeral).take k ++ [numeral c]) ∧ ∀ W : World, (Instr.index 196 (.agg #[Value.int IntKind.u8 (a0 / 16777216), Value.int IntKind.u8 (a0 / 65536 % 256), Value.int IntKind.u8 (a0 / 256 % 256), Value.int IntKind.u8 (a0 % 256)]) (.int .i64 (k : Int))).run Tryz.prog W = .ok (.int .u8 c) W := by
        match k, hlt with
        | 0, _ => exact ⟨a0 / 16777216, by omega, by omega, ⟨rfl⟩, fun _ => by kernel_rfl⟩
        | 1, _ => exact ⟨a0 / 65536 % 256, by omega, by omega, ⟨rfl⟩, fun _ => by kernel_rfl⟩
        | 2, _ => exact ⟨a0 / 256 % 256, by omega, by omega, ⟨rfl⟩, fun _ => by kernel_rfl⟩
        | 3, _ => exact ⟨a0 % 256, by omega, by omega, ⟨rfl⟩, fun _ => by kernel_rfl⟩
      have hl : ((((octets a0).map numeral).take k).length + 1) * 16 ≤ 140737488355328 := by
        rw [List.length_take]
        omega
      have HL := Lib.hid hl
      clear hl
      go_wp2_with (first | (go_at_call 48; refine (itoa_calls _ _ (HLd.below HB.out) (by omega) (by omega)).mono ?_; rintro e w1 ⟨rfl, hb1⟩; have HB1 := Aside0.mk (HB.out.trans (hb1.mono HB.out.size)); have HO1 := Aside0.mk (Kd.R_below HO.out hb1); clear hb1) | (at_builtin; refine Kd.R_append Kd.string (w0 := w) w.heap.size rfl (.tmp 23) (.tmp 27) 88 9 (.string ⟨#[]⟩) 16 rfl Tryz.underlying88 infoS rfl (by decide) (by omega) u4 _ (numeral c) [.string (numeral c)] (fun _ => True) (fun _ => False) rfl rfl rfl (fun _ hk => hk.elim) (fun _ _ => trivial) HO1.out HB1.out HB1.out.size HL.out ?_; intro v2 w2 ho hb hg hat; have HO2 := Aside0.mk ho; have HB2 := Aside0.mk hb; clear ho hb hg hat))
      go_roundw
      case rel => exact ⟨k + 1, by omega, by go_num, ⟨by rw [hcv.out]; exact HO2.out⟩, HB2⟩
      case measure => simp [intOf]; omega
    · obtain rfl : k = 4 := by omega
      have e4 : ((octets a0).map numeral).take 4 = (octets a0).map numeral := rfl
      have HO4 : Aside0 (Kd.R Kd.string 9 wr w.heap.size (fun _ => True) u4 ((octets a0).map numeral)) := HO
      obtain ⟨A, cc, hv, hcc, hC⟩ := Kd.R_reads HO4.out
      have hlen : ∀ c : Int, 0 ≤ c → c ≤ 255 → (numeral c).data.toList.length ≤ 21 := fun c h0 h1 => by
        have := Lib.itoa_length_le c (by omega) (by omega)
        simpa [numeral] using this
      have hj : (Lib.join (((octets a0).map numeral).map fun x => x.data.toList) [46]).length ≤ 140737488355328 := by
        have l1 := hlen (a0 / 16777216) (by omega) (by omega)
        have l2 := hlen (a0 / 65536 % 256) (by omega) (by omega)
        have l3 := hlen (a0 / 256 % 256) (by omega) (by omega)
        have l4 := hlen (a0 % 256) (by omega) (by omega)
        simp only [octets, List.map_cons, List.map_nil, Lib.join_cons, Lib.joinTail, List.flatten_cons, List.flatten_nil, List.length_append, List.length_cons, List.length_nil]
        omega
      have CJ := Lib.hid (join_calls A cc ((octets a0).map numeral) ⟨#[46]⟩ wr hC hcc (by simp [octets]) hj)
      clear hj hlen e4 hC
      subst hv
      go_wp2_with (go_at_call 50; refine CJ.out.mono ?_; rintro e w1 ⟨rfl, hb1⟩)
      go_ret
      exact ⟨congrArg (fun x => Ending.returned (.string x)) hr.out, HB.out.trans (hb1.mono HB.out.size)⟩
end Go.Proofs.YtfjamikpahmfhaaGreatDoor.P
