/- Function values over rules: what rule.Match and rule.Denies ask of a rule; slices.IndexFunc and slices.DeleteFunc over rules. -/
import Derived.Test.YtfjamikpahmfhaaGreatDoorXLaid
import Derived.Test.YtfjamikpahmfhaaGreatDoorPRuleTakes
namespace Go.Proofs.YtfjamikpahmfhaaGreatDoor.P
open Go.RowKit Go.Proofs.YtfjamikpahmfhaaGreatDoorW.PrintWords Go.Proofs.YtfjamikpahmfhaaGreatDoorW.PrintLast Go.Proofs.YtfjamikpahmfhaaGreatDoorW.PrintMore
set_option linter.unusedVariables false
set_option linter.unusedSimpArgs false

abbrev Rl := S27
def rcells (x : Rl) : List Value := [.int .i64 x.f0, .int .i64 x.f1, .int .i64 x.f2, .int .i64 x.f3, .int .u32 x.f4.f0, .int .u32 x.f4.f1, .int .i64 x.f5]
def rv (x : Rl) : Value := .agg #[.int .i64 x.f0, .int .i64 x.f1, .int .i64 x.f2, .int .i64 x.f3, .int .u32 x.f4.f0, .int .u32 x.f4.f1, .int .i64 x.f5]
/-- What a function value answers at a rule, in every world beyond w1 that leaves w1's blocks alone. -/
def AskedAt (w1 : World) (g : FuncId) (lb : Array Value) (p : Rl → Bool) : Prop :=
  ∀ w', Below w1.heap.size w1 w' → ∀ x : Rl, Calls Tryz.prog g (#[rv x] ++ lb) w' fun e w'' => e = .returned (.bool (p x)) ∧ Below w'.heap.size w' w''

def takesB (dev a : Int) (x : Rl) : Bool := decide (x.f1 = dev) && decide (x.f4.f0 ≤ a) && decide (a ≤ x.f4.f1)
theorem takes_f (dev a : Int) (x : Rl) : rule_takes.f x.f0 x.f1 x.f2 x.f3 x.f4.f0 x.f4.f1 x.f5 dev a = some (takesB dev a x) := by
  unfold rule_takes.f takesB
  by_cases h1 : x.f1 = dev <;> by_cases h2 : x.f4.f0 ≤ a <;> simp [h1, h2]

set_option maxHeartbeats 1000000 in
theorem match1_asked (w1 : World) (g1 g2 : Nat) (dev a : Int) (hd : w1.cell? ⟨g1, 0, none⟩ = some (.int .i64 dev)) (ha : w1.cell? ⟨g2, 0, none⟩ = some (.int .u32 a)) :
    AskedAt w1 68 #[.pointer (some ⟨g1, 0, none⟩), .pointer (some ⟨g2, 0, none⟩)] (fun x => decide (x.f3 ≤ 1) && takesB dev a x) := by
  intro w hb x
  have hd0 := (hb.cell (World.block_lt_of_cell? w1 _ hd)).trans hd
  have ha0 := (hb.cell (World.block_lt_of_cell? w1 _ ha)).trans ha
  have hT := takes_f dev a x
  have hu45 := Tryz.underlying27
  have HB := Aside0.mk (Below.refl w.heap.size w)
  show Calls Tryz.prog 68 #[rv x, .pointer (some ⟨g1, 0, none⟩), .pointer (some ⟨g2, 0, none⟩)] w fun e w'' => e = .returned (.bool (decide (x.f3 ≤ 1) && takesB dev a x)) ∧ Below w.heap.size w w''
  unfold rv
  generalize takesB dev a x = tb at hT ⊢
  generalize x.f0 = x0 at *
  generalize x.f1 = x1 at *
  generalize x.f2 = x2 at *
  generalize x.f3 = x3 at *
  generalize x.f4.f0 = x4 at *
  generalize x.f4.f1 = x5 at *
  generalize x.f5 = x6 at *
  go_enter Tryz.func68, Tryz.ntmps68
  by_cases hk : x3 ≤ 1
  · have hkd : decide (x3 ≤ 1) = true := decide_eq_true hk
    go_wp2_with (first | ((with_reducible refine gate_dst (N := 3) rfl ?_); refine box_event ?hg (N := 3) ?hd (cs := #[.int .i64 x0, .int .i64 x1, .int .i64 x2, .int .i64 x3, .int .u32 x4, .int .u32 x5, .int .i64 x6]) (t := 27) ?hr ?_; (case hd => rfl); (case hg => rfl); (case hr => first | (go_simp; done) | (go_simp; rfl)); intro g hg w6 hbox hb6; have BK := Aside0.mk hbox; have n1_ := Aside0.mk (below_step HB.out hb6); have hd := (hb6.cell (World.block_lt_of_cell? w _ hd0)).trans hd0; have ha := (hb6.cell (World.block_lt_of_cell? w _ ha0)).trans ha0; clear HB; have HB := n1_; clear n1_ hb6 hbox hg; have hc0 := (blk_cell BK.out 0).trans (show _ = some (Value.int .i64 x0) from rfl); have hc1 := (blk_cell BK.out 1).trans (show _ = some (Value.int .i64 x1) from rfl); have hc2 := (blk_cell BK.out 2).trans (show _ = some (Value.int .i64 x2) from rfl); have hc3 := (blk_cell BK.out 3).trans (show _ = some (Value.int .i64 x3) from rfl); have hc4 := (blk_cell BK.out 4).trans (show _ = some (Value.int .u32 x4) from rfl); have hc5 := (blk_cell BK.out 5).trans (show _ = some (Value.int .u32 x5) from rfl); have hc6 := (blk_cell BK.out 6).trans (show _ = some (Value.int .i64 x6) from rfl)) | (go_at_call 69; refine (rule_takes.calls _ _ _ _ _ _ _ _ _ _ _ hT).mono ?_; rintro e w3 ⟨rfl, hb2⟩))
    go_ret
    exact ⟨by simp [hkd], HB.out.trans (hb2.mono HB.out.size)⟩
  · have hkd : decide (x3 ≤ 1) = false := decide_eq_false hk
    go_wp2_with (first | ((with_reducible refine gate_dst (N := 3) rfl ?_); refine box_event ?hg (N := 3) ?hd (cs := #[.int .i64 x0, .int .i64 x1, .int .i64 x2, .int .i64 x3, .int .u32 x4, .int .u32 x5, .int .i64 x6]) (t := 27) ?hr ?_; (case hd => rfl); (case hg => rfl); (case hr => first | (go_simp; done) | (go_simp; rfl)); intro g hg w6 hbox hb6; have BK := Aside0.mk hbox; have n1_ := Aside0.mk (below_step HB.out hb6); clear HB; have HB := n1_; clear n1_ hb6 hbox hg; have hc3 := (blk_cell BK.out 3).trans (show _ = some (Value.int .i64 x3) from rfl)))
    go_ret
    exact ⟨by simp [hkd], HB.out⟩
set_option maxHeartbeats 1000000 in
theorem denies1_asked (w1 : World) (g1 g2 : Nat) (dev a : Int) (hd : w1.cell? ⟨g1, 0, none⟩ = some (.int .i64 dev)) (ha : w1.cell? ⟨g2, 0, none⟩ = some (.int .u32 a)) :
    AskedAt w1 71 #[.pointer (some ⟨g1, 0, none⟩), .pointer (some ⟨g2, 0, none⟩)] (fun x => decide (1 < x.f3) && takesB dev a x) := by
  intro w hb x
  have hd0 := (hb.cell (World.block_lt_of_cell? w1 _ hd)).trans hd
  have ha0 := (hb.cell (World.block_lt_of_cell? w1 _ ha)).trans ha
  have hT := takes_f dev a x
  have hu45 := Tryz.underlying27
  have HB := Aside0.mk (Below.refl w.heap.size w)
  show Calls Tryz.prog 71 #[rv x, .pointer (some ⟨g1, 0, none⟩), .pointer (some ⟨g2, 0, none⟩)] w fun e w'' => e = .returned (.bool (decide (1 < x.f3) && takesB dev a x)) ∧ Below w.heap.size w w''
  unfold rv
  generalize takesB dev a x = tb at hT ⊢
  generalize x.f0 = x0 at *
  generalize x.f1 = x1 at *
  generalize x.f2 = x2 at *
  generalize x.f3 = x3 at *
  generalize x.f4.f0 = x4 at *
  generalize x.f4.f1 = x5 at *
  generalize x.f5 = x6 at *
  go_enter Tryz.func71, Tryz.ntmps71
  by_cases hk : 1 < x3
  · have hkd : decide (1 < x3) = true := decide_eq_true hk
    have hkd' : decide (x3 > 1) = true := decide_eq_true hk
    go_wp2_with (first | ((with_reducible refine gate_dst (N := 3) rfl ?_); refine box_event ?hg (N := 3) ?hd (cs := #[.int .i64 x0, .int .i64 x1, .int .i64 x2, .int .i64 x3, .int .u32 x4, .int .u32 x5, .int .i64 x6]) (t := 27) ?hr ?_; (case hd => rfl); (case hg => rfl); (case hr => first | (go_simp; done) | (go_simp; rfl)); intro g hg w6 hbox hb6; have BK := Aside0.mk hbox; have n1_ := Aside0.mk (below_step HB.out hb6); have hd := (hb6.cell (World.block_lt_of_cell? w _ hd0)).trans hd0; have ha := (hb6.cell (World.block_lt_of_cell? w _ ha0)).trans ha0; clear HB; have HB := n1_; clear n1_ hb6 hbox hg; have hc0 := (blk_cell BK.out 0).trans (show _ = some (Value.int .i64 x0) from rfl); have hc1 := (blk_cell BK.out 1).trans (show _ = some (Value.int .i64 x1) from rfl); have hc2 := (blk_cell BK.out 2).trans (show _ = some (Value.int .i64 x2) from rfl); have hc3 := (blk_cell BK.out 3).trans (show _ = some (Value.int .i64 x3) from rfl); have hc4 := (blk_cell BK.out 4).trans (show _ = some (Value.int .u32 x4) from rfl); have hc5 := (blk_cell BK.out 5).trans (show _ = some (Value.int .u32 x5) from rfl); have hc6 := (blk_cell BK.out 6).trans (show _ = some (Value.int .i64 x6) from rfl)) | (go_at_call 69; refine (rule_takes.calls _ _ _ _ _ _ _ _ _ _ _ hT).mono ?_; rintro e w3 ⟨rfl, hb2⟩))
    go_ret
    exact ⟨by simp [hkd], HB.out.trans (hb2.mono HB.out.size)⟩
  · have hkd : decide (1 < x3) = false := decide_eq_false hk
    have hkd' : decide (x3 > 1) = false := decide_eq_false hk
    go_wp2_with (first | ((with_reducible refine gate_dst (N := 3) rfl ?_); refine box_event ?hg (N := 3) ?hd (cs := #[.int .i64 x0, .int .i64 x1, .int .i64 x2, .int .i64 x3, .int .u32 x4, .int .u32 x5, .int .i64 x6]) (t := 27) ?hr ?_; (case hd => rfl); (case hg => rfl); (case hr => first | (go_simp; done) | (go_simp; rfl)); intro g hg w6 hbox hb6; have BK := Aside0.mk hbox; have n1_ := Aside0.mk (below_step HB.out hb6); clear HB; have HB := n1_; clear n1_ hb6 hbox hg; have hc3 := (blk_cell BK.out 3).trans (show _ = some (Value.int .i64 x3) from rfl)))
    go_ret
    exact ⟨by simp [hkd], HB.out⟩
set_option maxHeartbeats 1000000 in
theorem first1_asked (w1 : World) (g3 : Nat) (g : FuncId) (lb : Array Value) (p : Rl → Bool) (eg : ∀ args w, (callFunc g args).run Tryz.prog w = .ok (.enter g args) w) (hq : w1.cell? ⟨g3, 0, none⟩ = some (.func (.func g) #[] lb)) (hA : AskedAt w1 g lb p) :
    AskedAt w1 119 #[.pointer (some ⟨g3, 0, none⟩)] (fun x => !p x) := by
  intro w hb x
  have hq0 := (hb.cell (World.block_lt_of_cell? w1 _ hq)).trans hq
  have hA0 : ∀ w', Below w1.heap.size w1 w' → Calls Tryz.prog g (#[rv x] ++ lb) w' fun e w'' => e = .returned (.bool (p x)) ∧ Below w'.heap.size w' w'' := fun w' h => hA w' h x
  have HA := Aside0.mk hA0
  have HW := Aside0.mk hb
  clear hA hA0 hb
  have hu45 := Tryz.underlying27
  have HB := Aside0.mk (Below.refl w.heap.size w)
  show Calls Tryz.prog 119 #[rv x, .pointer (some ⟨g3, 0, none⟩)] w fun e w'' => e = .returned (.bool (!p x)) ∧ Below w.heap.size w w''
  unfold rv at HA ⊢
  generalize p x = px at HA ⊢
  generalize x.f0 = x0 at *
  generalize x.f1 = x1 at *
  generalize x.f2 = x2 at *
  generalize x.f3 = x3 at *
  generalize x.f4.f0 = x4 at *
  generalize x.f4.f1 = x5 at *
  generalize x.f5 = x6 at *
  go_enter Tryz.func119, Tryz.ntmps119
  go_wp2_with (first | ((with_reducible refine gate_dst (N := 2) rfl ?_); refine box_event ?hg (N := 2) ?hd (cs := #[.int .i64 x0, .int .i64 x1, .int .i64 x2, .int .i64 x3, .int .u32 x4, .int .u32 x5, .int .i64 x6]) (t := 27) ?hr ?_; (case hd => rfl); (case hg => rfl); (case hr => first | (go_simp; done) | (go_simp; rfl)); intro g' hg w6 hbox hb6; have BK := Aside0.mk hbox; have n1_ := Aside0.mk (below_step HB.out hb6); have hq := (hb6.cell (World.block_lt_of_cell? w _ hq0)).trans hq0; have hc0 := (blk_cell BK.out 0).trans (show _ = some (Value.int .i64 x0) from rfl); have hc1 := (blk_cell BK.out 1).trans (show _ = some (Value.int .i64 x1) from rfl); have hc2 := (blk_cell BK.out 2).trans (show _ = some (Value.int .i64 x2) from rfl); have hc3 := (blk_cell BK.out 3).trans (show _ = some (Value.int .i64 x3) from rfl); have hc4 := (blk_cell BK.out 4).trans (show _ = some (Value.int .u32 x4) from rfl); have hc5 := (blk_cell BK.out 5).trans (show _ = some (Value.int .u32 x5) from rfl); have hc6 := (blk_cell BK.out 6).trans (show _ = some (Value.int .i64 x6) from rfl); clear HB; have HB := n1_; clear n1_ hb6 hbox hg) | (go_at_fn g; refine (HA.out _ (HW.out.trans (HB.out.mono HW.out.size))).mono ?_; rintro e w3 ⟨rfl, hb2⟩))
  go_ret
  exact ⟨rfl, HB.out.trans (hb2.mono HB.out.size)⟩
/-- What slices.IndexFunc answers. -/
def IdxP (p : Rl → Bool) (l : List Rl) (r : Int) : Prop := (r = -1 ∧ ∀ j, j < l.length → p (rd_T27 l (j : Int)) = false) ∨ ∃ k : Nat, k < l.length ∧ r = k ∧ p (rd_T27 l (k : Int)) = true ∧ ∀ j, j < k → p (rd_T27 l (j : Int)) = false
set_option maxHeartbeats 1000000 in
set_option maxRecDepth 100000 in
theorem indexFunc_calls (w1 W : World) (g : FuncId) (lb : Array Value) (p : Rl → Bool) (eg : ∀ args w, (callFunc g args).run Tryz.prog w = .ok (.enter g args) w) (hA : AskedAt w1 g lb p) (hW : Below w1.heap.size w1 W)
    (A : Option Addr) (c : Nat) (l : List Rl) (hC : Kd.C k27 W A l.length l) (hc : l.length ≤ c) (hbig : l.length ≤ 9223372036854775807) :
    Calls Tryz.prog 159 #[.slice A l.length c, .func (.func g) #[] lb] W fun e w' => ∃ r : Int, e = .returned (.int .i64 r) ∧ IdxP p l r ∧ Below W.heap.size W w' := by
  have hu45 := Tryz.underlying27
  have HA := Aside0.mk hA
  have HW := Aside0.mk hW
  have HC := Aside0.mk hC
  clear hA hW hC
  have HB := Aside0.mk (Below.refl W.heap.size W)
  go_enter Tryz.func159, Tryz.ntmps159
  go_wp2
  go_loopg [5, 8] l.length (fun gg _ s8 wr => ∃ kk : Nat, kk ≤ l.length ∧ l.length - kk ≤ gg ∧ s8 = .int .i64 kk ∧ Aside0 (∀ j, j < kk → p (rd_T27 l (j : Int)) = false) ∧ Aside0 (Below W.heap.size W wr))
  case atStart => exact ⟨0, Nat.zero_le _, by omega, rfl, ⟨fun j hj => absurd hj (Nat.not_lt_zero _)⟩, HB⟩
  case round =>
    clear HB
    obtain ⟨kk, hkk, hg, rfl, HN, HB⟩ := hrel
    by_cases hlt : kk < l.length
    · have hltz : (kk : Int) < (l.length : Int) := by omega
      have hltd : decide ((kk : Int) < (l.length : Int)) = true := decide_eq_true hltz
      have hge : (0 : Int) ≤ (kk : Int) := by omega
      have hged : decide ((0 : Int) ≤ (kk : Int)) = true := decide_eq_true hge
      obtain ⟨ad, e0, h0, h1, h2, h3, h4, h5, h6⟩ := at_T27 (Kd.C_below HC.out HB.out) (kk : Int) hge hltz
      cases e0
      simp only [Int.toNat_natCast] at h0 h1 h2 h3 h4 h5 h6
      have HX := Aside0.mk (HA.out _ (HW.out.trans (HB.out.mono HW.out.size)) (rd_T27 l (kk : Int)))
      unfold rv at HX
      obtain ⟨x, hx⟩ : ∃ x, x = rd_T27 l (kk : Int) := ⟨_, rfl⟩
      rw [← hx] at h0 h1 h2 h3 h4 h5 h6 HX
      have HE := Aside0.mk hx
      clear hx
      cases hp : p x
      · rw [hp] at HX
        go_wp2_with (go_at_fn g; refine HX.out.mono ?_; rintro e w3 ⟨rfl, hb2⟩)
        go_roundg (l.length - (kk + 1))
        case measure => omega
        case rel =>
          refine ⟨kk + 1, by omega, by omega, by go_num, ⟨fun j hj => ?_⟩, ⟨HB.out.trans (hb2.mono HB.out.size)⟩⟩
          by_cases e : j = kk
          · subst e
            rw [← HE.out]; exact hp
          · exact HN.out j (by omega)
      · rw [hp] at HX
        go_wp2_with (go_at_fn g; refine HX.out.mono ?_; rintro e w3 ⟨rfl, hb2⟩)
        go_ret
        exact ⟨(kk : Int), rfl, .inr ⟨kk, hlt, rfl, by rw [← HE.out]; exact hp, HN.out⟩, HB.out.trans (hb2.mono HB.out.size)⟩
    · have hltz : ¬ (kk : Int) < (l.length : Int) := by omega
      obtain rfl : kk = l.length := by omega
      go_wp2
      go_ret
      exact ⟨-1, rfl, .inl ⟨rfl, HN.out⟩, HB.out⟩
theorem rd_getElem (l : List Rl) (j : Nat) (hj : j < l.length) : rd_T27 l (j : Int) = l[j] := by
  unfold rd_T27
  simp [List.getD_eq_getElem?_getD, hj]
/-- What slices.DeleteFunc keeps, over its rounds: i kept, j looked at. -/
structure Kept2 (p : Rl → Bool) (l dk : List Rl) (i j : Nat) : Prop where
  lt : i < j
  le : j ≤ l.length
  len : dk.length = l.length
  low : dk.take i = (l.take j).filter fun x => !p x
  high : dk.drop j = l.drop j
theorem Kept2.keep {p : Rl → Bool} {l dk : List Rl} {i j : Nat} (h : Kept2 p l dk i j) (hj : j < l.length) (hp : p l[j] = false) : Kept2 p l (dk.set i l[j]) (i + 1) (j + 1) := by
  have h1 := h.lt
  have h2 := h.len
  refine ⟨by omega, by omega, by rw [List.length_set]; exact h2, ?_, ?_⟩
  · rw [List.take_succ_eq_append_getElem (by rw [List.length_set]; omega), List.take_set_of_le (Nat.le_refl _), List.getElem_set_self, h.low, List.take_succ_eq_append_getElem hj, List.filter_append]
    simp [hp]
  · rw [List.drop_set_of_lt (by omega)]
    have := congrArg (List.drop 1) h.high
    simpa [List.drop_drop] using this
theorem Kept2.skip {p : Rl → Bool} {l dk : List Rl} {i j : Nat} (h : Kept2 p l dk i j) (hj : j < l.length) (hp : p l[j] = true) : Kept2 p l dk i (j + 1) := by
  have h1 := h.lt
  refine ⟨by omega, by omega, h.len, ?_, ?_⟩
  · rw [h.low, List.take_succ_eq_append_getElem hj, List.filter_append]
    simp [hp]
  · have := congrArg (List.drop 1) h.high
    simpa [List.drop_drop] using this
theorem Kept2.at {p : Rl → Bool} {l dk : List Rl} {i j : Nat} (h : Kept2 p l dk i j) (hj : j < l.length) : rd_T27 dk (j : Int) = l[j] := by
  have hd : j < dk.length := by rw [h.len]; exact hj
  rw [rd_getElem dk j hd]
  have := congrArg (fun x => x[0]?) h.high
  simp only [List.getElem?_drop, Nat.add_zero] at this
  rw [List.getElem?_eq_getElem hd, List.getElem?_eq_getElem hj] at this
  exact Option.some.inj this
theorem Kept2.done {p : Rl → Bool} {l dk : List Rl} {i : Nat} (h : Kept2 p l dk i l.length) : dk.take i = l.filter fun x => !p x := by
  rw [h.low, List.take_length]
theorem Kept2.start {p : Rl → Bool} {l : List Rl} {k : Nat} (hk : k < l.length) (hp : p (rd_T27 l (k : Int)) = true) (hn : ∀ j, j < k → p (rd_T27 l (j : Int)) = false) : Kept2 p l l k (k + 1) := by
  refine ⟨by omega, by omega, rfl, ?_, rfl⟩
  rw [List.take_succ_eq_append_getElem hk, List.filter_append]
  rw [rd_getElem l k hk] at hp
  have : (l.take k).filter (fun x => !p x) = l.take k := by
    rw [List.filter_eq_self]
    intro x hx
    obtain ⟨j, hj, rfl⟩ := List.getElem_of_mem hx
    rw [List.length_take] at hj
    have := hn j (by omega)
    rw [rd_getElem l j (by omega)] at this
    simp [this]
  rw [this]
  simp [hp]
theorem filter_none {p : Rl → Bool} {l : List Rl} (hn : ∀ j, j < l.length → p (rd_T27 l (j : Int)) = false) : (l.filter fun x => !p x) = l := by
  rw [List.filter_eq_self]
  intro x hx
  obtain ⟨j, hj, rfl⟩ := List.getElem_of_mem hx
  have := hn j hj
  rw [rd_getElem l j hj] at this
  simp [this]
theorem addr_add0 (b n : Nat) : (⟨b, 0, none⟩ : Addr).add n = ⟨b, n, none⟩ := by
  unfold Addr.add
  split <;> simp_all
theorem kR_sz : (k27).sz = 7 := rfl
theorem zeroCells_len (z : Array Value) (n : Nat) : (Builtin.zeroCells z n).toList.length = n * z.size := by
  simp [Builtin.zeroCells]
theorem zeroCells_one (z : Array Value) (n : Nat) (h0 : 0 < z.size) (h1 : ∀ q ∈ z.toList, q.oneCell' = true) : ∀ q ∈ (Builtin.zeroCells z n).toList, q.oneCell' = true := by
  intro q hq
  simp only [Builtin.zeroCells, Array.toList_map, List.mem_map] at hq
  obtain ⟨i, _, rfl⟩ := hq
  have hm : i % z.size < z.size := Nat.mod_lt _ h0
  rw [getElem!_pos z _ hm]
  exact h1 _ (by simp)
theorem run_clear_row {P : Program} (w : World) (t e ty te : TypeId) (z : Value) (ht : P.underlying t = some (.slice e)) (hv : ∀ w, (zeroValue e).run P w = .ok z w) (h0 : 0 < z.cells.size) (h1 : ∀ q ∈ z.cells.toList, q.oneCell' = true) (b o n c : Nat) (hn : 0 < n) {cur : Array Value}
    (hh : w.heap[b]? = some (.cells cur te (0, 0))) (hfit : o + n * z.cells.size ≤ cur.size) :
    (Builtin.clear_ #[t] ty #[.slice (some ⟨b, o, none⟩) n c]).run P w = .ok (.tuple #[]) (w.setCells b o (Builtin.zeroCells z.cells n).toList) := by
  have hl := zeroCells_len z.cells n
  have hst := run_storeCells_cells (P := P) b o (Builtin.zeroCells z.cells n).toList 0 w (fun j hj => by rw [cell_of_row w b _ cur te (0, 0) hh]; simp; omega) (fun j _ => blk_frozen hh _) (zeroCells_one _ _ h0 h1)
  simp only [Nat.add_zero] at hst
  obtain ⟨m, rfl⟩ : ∃ m, n = m + 1 := ⟨n - 1, by omega⟩
  simp [Builtin.clear_, run_underlying ht, hv, hst]
theorem R_cleared {w0 W : World} {base b n c : Nat} {xs : List Rl} (HO : Kd.R k27 27 W base (fun _ => True) (.slice (some ⟨b, 0, none⟩) n c) xs) (HB : Below base w0 W) (i : Nat) (hi : i ≤ n) (zs : List Value) (hz : zs.length = (n - i) * 7) :
    (∃ cur : Array Value, W.heap[b]? = some (.cells cur 27 (0, 0)) ∧ n * 7 ≤ cur.size) ∧ Kd.R k27 27 (W.setCells b (i * 7) zs) base (fun _ => True) (.slice (some ⟨b, 0, none⟩) i c) (xs.take i) ∧ Below base w0 (W.setCells b (i * 7) zs) := by
  have hn := (Kd.R_reads' HO).1
  have hbb : base ≤ b := Kd.R_base HO b rfl
  obtain ⟨hok, inner, hown, hr⟩ := Kd.R_take HO (m := i) (by omega)
  obtain ⟨_, inner2, hown2, hr2⟩ := HO
  rcases hown2.2 with ⟨hv, _⟩ | ⟨g', cap', cur, hv, hb, hh, hnc, hcm, hcs, htk⟩
  · cases hv
  injection hv with ha _ hc'
  injection ha with ha
  injection ha with hg
  subst hg
  subst hc'
  have hcs' : cur.size = c * 7 := hcs
  have h7 : n * 7 ≤ c * 7 := Nat.mul_le_mul_right _ (by omega)
  refine ⟨⟨cur, hh, by omega⟩, ?_, ?_⟩
  · obtain ⟨cur', h3, h4, h5⟩ := setCells_row zs (i * 7) W cur hh (by omega)
    rcases hown.2 with ⟨hv, _⟩ | ⟨g2, cap2, cur2, hv, _, hh2, hnc2, _, hcs2, htk2⟩
    · cases hv
    injection hv with ha _ hc'
    injection ha with ha
    injection ha with hg
    subst hg
    subst hc'
    have hcc : cur2 = cur := by
      have := hh2.symm.trans hh
      simpa using this
    subst hcc
    refine ⟨fun _ _ => trivial, inner, ⟨hown.1, .inr ⟨b, c, cur', by rw [List.length_take, Nat.min_eq_left (by omega)], hbb, h3, hnc2, hcm, by rw [h4]; exact hcs2, ?_⟩⟩, hr⟩
    rw [h5, ← htk2]
    have e1 : (xs.take i).length = i := by rw [List.length_take]; omega
    rw [e1, kR_sz, List.append_assoc, List.take_append_of_le_length (by simp; omega), List.take_take, Nat.min_self]
  · obtain ⟨s1, s2, s3, s4⟩ := setCells_same b zs (i * 7) W
    refine HB.trans ⟨s1, s2, s3, by rw [s4]; exact Nat.le_refl _, fun k hk => setCells_far zs _ k (by omega)⟩
set_option maxHeartbeats 2000000 in
set_option maxRecDepth 100000 in
theorem deleteFunc_calls (w1 W : World) (g : FuncId) (lb : Array Value) (p : Rl → Bool) (eg : ∀ args w, (callFunc g args).run Tryz.prog w = .ok (.enter g args) w) (hA : AskedAt w1 g lb p) (hW : Below w1.heap.size w1 W)
    (v : Value) (l : List Rl) (HO0 : Kd.R k27 27 W w1.heap.size (fun _ => True) v l) (hbig : l.length ≤ 9223372036854775807) :
    Calls Tryz.prog 118 #[v, .func (.func g) #[] lb] W fun e w' => ∃ v', e = .returned v' ∧ Kd.R k27 27 w' w1.heap.size (fun _ => True) v' (l.filter fun x => !p x) ∧ Below w1.heap.size w1 w' := by
  have hu45 := Tryz.underlying27
  have huS := Tryz.underlying35
  obtain ⟨A, c, hv, hc, hC⟩ := Kd.R_reads HO0
  subst hv
  have CI := Aside0.mk (indexFunc_calls w1 W g lb p eg hA hW A c l hC hc hbig)
  have HO := Aside0.mk HO0
  have HA := Aside0.mk hA
  have HB := Aside0.mk hW
  clear hA hW hC HO0
  go_enter Tryz.func118, Tryz.ntmps118
  go_upto_if 12 with (go_at_call 159; refine CI.out.mono ?_; rintro e w3 ⟨r, rfl, hI, hb⟩; have n0_ := Aside0.mk (Kd.R_below HO.out hb); have n1_ := Aside0.mk (HB.out.trans (hb.mono HB.out.size)); clear HO HB hb; have HO := n0_; have HB := n1_; clear n0_ n1_)
  have HI := Aside0.mk hI
  clear hI CI
  rcases HI.out with ⟨rfl, hn⟩ | ⟨k, hk, rfl, hp, hn⟩
  · clear hn
    go_wp2
    go_ret
    refine ⟨_, rfl, ?_, HB.out⟩
    rcases HI.out with ⟨_, hn⟩ | ⟨k, hk, h0, _⟩
    · rw [filter_none hn]; exact HO.out
    · omega
  · have HS := Aside0.mk (Kept2.start hk hp hn)
    clear hn hp HI
    obtain ⟨bk, rfl⟩ : ∃ bk, A = some ⟨bk, 0, none⟩ := by
      obtain ⟨_, inner, hown, _⟩ := HO.out
      rcases hown.2 with ⟨hv, h0⟩ | ⟨g', cap', cur, hv, _⟩
      · omega
      · injection hv with ha _ _
        exact ⟨g', ha⟩
    have hne : (((k : Int)) == -1) = false := beq_eq_false_iff_ne.2 (by omega)
    have hnd : decide ((k : Int) = -1) = false := decide_eq_false (by omega)
    have hnp : ((k : Int) = -1) = False := eq_false (by omega)
    go_wp2_with fail
    go_loopg [5, 6, 7] l.length (fun gg s5 s6 _ wr => ∃ (i j : Nat) (dk : List Rl), s5 = .int .i64 i ∧ s6 = .int .i64 j ∧ j ≤ l.length ∧ l.length - j ≤ gg ∧ Aside0 (Kept2 p l dk i j) ∧ Aside0 (Kd.R k27 27 wr w1.heap.size (fun _ => True) (.slice (some ⟨bk, 0, none⟩) l.length c) dk) ∧ Aside0 (Below w1.heap.size w1 wr))
    case atStart => exact ⟨k, k + 1, l, rfl, by go_num, by omega, by omega, HS, HO, HB⟩
    case round =>
      clear HO HB HS
      obtain ⟨i, j, dk, rfl, rfl, hjl, hgg, HS, HO, HB⟩ := hrel
      have hlen := HS.out.len
      have hij := HS.out.lt
      by_cases hlt : j < l.length
      · have hltz : (j : Int) < (l.length : Int) := by omega
        have hltd : decide ((j : Int) < (l.length : Int)) = true := decide_eq_true hltz
        have hge : (0 : Int) ≤ (j : Int) := by omega
        have hged : decide ((0 : Int) ≤ (j : Int)) = true := decide_eq_true hge
        have hCd := (Kd.R_reads' HO.out).2.2
        obtain ⟨ad, e0, h0, h1, h2, h3, h4, h5, h6⟩ := at_T27 hCd (j : Int) hge (by rw [hlen]; exact hltz)
        cases e0
        clear hCd
        rw [HS.out.at hlt] at h0 h1 h2 h3 h4 h5 h6
        have HX := Aside0.mk (fun w' hw => HA.out w' hw (l[j]))
        unfold rv at HX
        obtain ⟨x, hx⟩ : ∃ x, x = l[j] := ⟨_, rfl⟩
        rw [← hx] at h0 h1 h2 h3 h4 h5 h6 HX
        have HE := Aside0.mk hx
        clear hx
        simp only [Int.toNat_natCast, addr_add0] at h0 h1 h2 h3 h4 h5 h6
        cases hp : p x
        · rw [hp] at HX
          go_upto_if 29 with (go_at_fn g; refine (HX.out _ (below_alloc HB.out _)).mono ?_; rintro e w3 ⟨rfl, hb2⟩)
          have BV := Aside0.mk (blk_below (blk_new wr _) hb2)
          have n0_ := Aside0.mk (Kd.R_below (Kd.R_alloc HO.out _) hb2)
          have n1_ := Aside0.mk (below_step (below_alloc HB.out _) hb2)
          clear HO HB hb2 h0 h1 h2 h3 h4 h5 h6
          have HO := n0_
          have HB := n1_
          clear n0_ n1_
          have c0 := (blk_cell BV.out 0).trans (show _ = some (Value.int .i64 x.f0) from rfl)
          have c1 := (blk_cell BV.out 1).trans (show _ = some (Value.int .i64 x.f1) from rfl)
          have c2 := (blk_cell BV.out 2).trans (show _ = some (Value.int .i64 x.f2) from rfl)
          have c3 := (blk_cell BV.out 3).trans (show _ = some (Value.int .i64 x.f3) from rfl)
          have c4 := (blk_cell BV.out 4).trans (show _ = some (Value.int .u32 x.f4.f0) from rfl)
          have c5 := (blk_cell BV.out 5).trans (show _ = some (Value.int .u32 x.f4.f1) from rfl)
          have c6 := (blk_cell BV.out 6).trans (show _ = some (Value.int .i64 x.f5) from rfl)
          have hilt : (i : Int) < (l.length : Int) := by omega
          have hiltd : decide ((i : Int) < (l.length : Int)) = true := decide_eq_true hilt
          have hige : (0 : Int) ≤ (i : Int) := by omega
          have higed : decide ((0 : Int) ≤ (i : Int)) = true := decide_eq_true hige
          obtain ⟨ad, cc, ea, hcl, _, hcc⟩ := Kd.C_get ((Kd.R_reads' HO.out).2.2) z27 (i : Int) hige (by rw [hlen]; exact hilt)
          cases ea
          simp only [addr_add0] at hcc
          have HCC := Aside0.mk hcc
          clear hcc
          go_wp2_with ((with_reducible refine gate_ (.store 27 (.tmp 33) (.tmp 32)) rfl ?_); refine Kd.R_store k27 (w0 := w1) w1.heap.size rfl rfl 27 (.tmp 33) (.tmp 32) rfl 27 (g := bk) (n := l.length) (cap := c) (i : Int) 0 dk x (rv x) (rcells x) cc (fun _ => True) (fun _ => False) rfl ?hoff rfl rfl (by kernel_rfl) ?h1 HO.out hige hilt hcl HCC.out ?hj ?hM (fun _ hk => hk.elim) HB.out ?_; (case hoff => simp [kR_sz]); (case h1 => intro q hq; simp only [rcells, List.mem_cons, List.not_mem_nil, or_false] at hq; rcases hq with rfl | rfl | rfl | rfl | rfl | rfl | rfl <;> rfl); (case hj => exact Nat.le_refl 7); (case hM => have e7 : List.drop (0 + (rcells x).length) cc = [] := List.drop_eq_nil_of_le (by rw [hcl]; exact Nat.le_refl 7); rw [e7]; exact k27_mkM _ _ _ x); intro w5 ho hb3 _)
          go_roundg (l.length - (j + 1))
          case measure => omega
          case rel =>
            have hs : Kept2 p l (dk.set i l[j]) (i + 1) (j + 1) := HS.out.keep hlt (by rw [← HE.out]; exact hp)
            rw [← HE.out] at hs
            exact ⟨i + 1, j + 1, dk.set i x, by go_num, by go_num, by omega, by omega, ⟨hs⟩, ⟨ho⟩, ⟨hb3⟩⟩
        · rw [hp] at HX
          go_wp2_with (go_at_fn g; refine (HX.out _ (below_alloc HB.out _)).mono ?_; rintro e w3 ⟨rfl, hb2⟩)
          go_roundg (l.length - (j + 1))
          case measure => omega
          case rel => exact ⟨i, j + 1, dk, rfl, by go_num, by omega, by omega, ⟨HS.out.skip hlt (by rw [← HE.out]; exact hp)⟩, ⟨Kd.R_below (Kd.R_alloc HO.out _) hb2⟩, ⟨below_step (below_alloc HB.out _) hb2⟩⟩
      · obtain rfl : j = l.length := by omega
        have hltz : ¬ (l.length : Int) < (l.length : Int) := by omega
        have HZ := fun (zs : List Value) (hz : zs.length = (l.length - i) * 7) => R_cleared HO.out HB.out i (by omega) zs hz
        have v45 : ∀ w, (zeroValue 27).run Tryz.prog w = .ok (rv z27) w := fun _ => by kernel_rfl
        obtain ⟨⟨cur, hcur, hfit⟩, HO5, HB5⟩ := HZ (Builtin.zeroCells (rv z27).cells (l.length - i)).toList (zeroCells_len _ _)
        have hcl : ∀ ty, (Builtin.clear_ #[35] ty #[.slice (some ⟨bk, i * 7, none⟩) (l.length - i) (c - i)]).run Tryz.prog wr = .ok (.tuple #[]) (wr.setCells bk (i * 7) (Builtin.zeroCells (rv z27).cells (l.length - i)).toList) :=
          fun ty => run_clear_row wr _ _ ty _ _ huS v45 (show (0 : Nat) < 7 by decide) (by intro q hq; simp only [rv, Value.cells, List.mem_cons, List.not_mem_nil, or_false] at hq; rcases hq with rfl | rfl | rfl | rfl | rfl | rfl | rfl <;> rfl) bk (i * 7) _ _ (by omega) hcur (by show i * 7 + (l.length - i) * 7 ≤ cur.size; omega)
        generalize wr.setCells bk (i * 7) (Builtin.zeroCells (rv z27).cells (l.length - i)).toList = w5 at hcl HO5 HB5
        have HO5 := Aside0.mk HO5
        have HB5 := Aside0.mk HB5
        clear HZ v45 hcur hfit HO HB
        go_wp2
        go_ret
        exact ⟨_, rfl, by rw [← HS.out.done]; exact HO5.out, HB5.out⟩
end Go.Proofs.YtfjamikpahmfhaaGreatDoor.P
