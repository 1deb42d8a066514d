/- rule.Text: the numerals, the kind's word, the range, and a forward rule's port, a blank between. -/
import Derived.Test.YtfjamikpahmfhaaGreatDoorXAddr
import Derived.Test.YtfjamikpahmfhaaGreatDoorXSplit
import Derived.Test.YtfjamikpahmfhaaGreatDoorPPrefixRangeText
import Derived.Test.YtfjamikpahmfhaaGreatDoorPRuleWithin
namespace Go.Proofs.YtfjamikpahmfhaaGreatDoor.P
open Go.RowKit Go.Proofs.YtfjamikpahmfhaaGreatDoorW.PrintWords Go.Proofs.YtfjamikpahmfhaaGreatDoorW.PrintLast Go.Proofs.YtfjamikpahmfhaaGreatDoorW.PrintMore
set_option linter.unusedVariables false
set_option linter.unusedSimpArgs false

theorem R_new_row' {α : Type} (enc : α → Value) (h1 : ∀ x, (enc x).oneCell' = true) (w : World) (base : Nat) (hbase : base ≤ w.heap.size) (e : Nat) (xs : List α) (hl : xs.length ≤ 9223372036854775807) :
    (Kd.scalar enc h1).R e (w.alloc (.cells (xs.map enc).toArray e)) base (fun _ => True) (.slice (some ⟨w.heap.size, 0, none⟩) xs.length xs.length) xs := by
  refine ⟨fun _ _ => trivial, xs.map enc, ?_, ?_⟩
  · have h2 := World.ownsRow_lit (base := base) (e := e) (size := 1) w (xs.map enc).toArray xs.length hbase (by simpa [maxLen] using hl) (by simp)
    simpa [Kd.scalar] using h2
  · exact Kd.reps_scalar xs
theorem numeral_calls (n : Int) (w : World) (HLd : Laid w) (h0 : -9223372036854775808 ≤ n) (h1 : n ≤ 9223372036854775807) :
    Calls Tryz.prog 48 #[.int .i64 n] w fun e w' => e = .returned (.string (numeral n)) ∧ Below w.heap.size w w' := itoa_calls n w HLd h0 h1

def wForward : ByteArray := ⟨#[102, 111, 114, 119, 97, 114, 100]⟩
def wDrop : ByteArray := ⟨#[100, 114, 111, 112]⟩
def wPermit : ByteArray := ⟨#[112, 101, 114, 109, 105, 116]⟩
def wDeny : ByteArray := ⟨#[100, 101, 110, 121]⟩
/-- A kind's word; none beyond the four. -/
def ruleKind (k : Int) : ByteArray := if k = 0 then wForward else if k = 1 then wDrop else if k = 2 then wPermit else if k = 3 then wDeny else ⟨#[]⟩
def kindWords : Value := .agg #[.string wForward, .string wDrop, .string wPermit, .string wDeny]
theorem results_c {P : Program} {fn : Func} {p : Tmp} {ty : TypeId} (h : fn.results = #[.cell p ty]) (tmps : Array Value) (w : World) (g : Nat) (t : TypeId) (cs : Array Value) (fr : Nat × Nat) (d : TypeDesc)
    (hp : tmps.getD p undef = .pointer (some ⟨g, 0, none⟩)) (hg : w.heap[g]? = some (.cells cs t fr))
    (hu : P.underlying ty = some d) (hd : (match d with | .struct _ | .array _ _ => true | _ => false) = true) (hi : (P.info? ty).map (·.size) = some cs.size) :
    (results fn tmps).run P w = .ok (.agg cs) w := by
  have hp' : tmps[p]?.getD undef = .pointer (some ⟨g, 0, none⟩) := by simpa using hp
  simp [results, h, hp', asAddr, run_loadVar_row w g t ty cs fr d hg hu hd hi]
theorem rule_named_calls (w : World) : Calls Tryz.prog 47 #[] w fun e w' => e = .returned kindWords ∧ Below w.heap.size w w' := by
  have HB := Below.refl w.heap.size w
  go_enter Tryz.func47, Tryz.ntmps47
  go_wp2_with fail
  refine bodyPost_ret (results_c rfl _ _ w.heap.size 93 #[.string wForward, .string wDrop, .string wPermit, .string wDeny] (0, 0) _ rfl (by first | exact blk_new w _ | trace_state) Tryz.underlying93 rfl (by kernel_rfl)) rfl ?_
  exact ⟨rfl, by repeat (first | exact HB | apply below_alloc)⟩

def ruleWords (a0 a1 a2 a3 : Int) (t : ByteArray) (a6 : Int) : List ByteArray := [numeral a0, numeral a1, numeral a2, ruleKind a3, t] ++ (if a3 = 0 then [numeral a6] else [])
def rule_Text.f (a0 a1 a2 a3 a4 a5 a6 : Int) : Option ByteArray :=
  if (-9223372036854775808 ≤ a0 ∧ a0 ≤ 9223372036854775807) ∧ (-9223372036854775808 ≤ a1 ∧ a1 ≤ 9223372036854775807) ∧ (-9223372036854775808 ≤ a2 ∧ a2 ≤ 9223372036854775807) ∧ (-9223372036854775808 ≤ a6 ∧ a6 ≤ 9223372036854775807) then
    (prefix_RangeText.f a4 a5).bind fun t => if t.size ≤ 1000 then some ⟨(Lib.join ((ruleWords a0 a1 a2 a3 t a6).map fun x => x.data.toList) [32]).toArray⟩ else none
  else none

theorem numeral_len (c : Int) (h0 : -9223372036854775808 ≤ c) (h1 : c ≤ 9223372036854775807) : (numeral c).data.toList.length ≤ 21 := by
  have := Lib.itoa_length_le c h0 h1
  simpa [numeral] using this
theorem ruleKind_len (k : Int) : (ruleKind k).data.toList.length ≤ 7 := by
  unfold ruleKind
  repeat (first | (split) | decide)
theorem ruleWords_len (a0 a1 a2 a3 : Int) (t : ByteArray) (a6 : Int) (b0 : -9223372036854775808 ≤ a0 ∧ a0 ≤ 9223372036854775807) (b1 : -9223372036854775808 ≤ a1 ∧ a1 ≤ 9223372036854775807) (b2 : -9223372036854775808 ≤ a2 ∧ a2 ≤ 9223372036854775807) (b6 : -9223372036854775808 ≤ a6 ∧ a6 ≤ 9223372036854775807) (ht : t.size ≤ 1000) :
    (Lib.join ((ruleWords a0 a1 a2 a3 t a6).map fun x => x.data.toList) [32]).length ≤ 140737488355328 := by
  have l0 := numeral_len a0 b0.1 b0.2
  have l1 := numeral_len a1 b1.1 b1.2
  have l2 := numeral_len a2 b2.1 b2.2
  have l6 := numeral_len a6 b6.1 b6.2
  have lk := ruleKind_len a3
  have lt : t.data.toList.length ≤ 1000 := ht
  unfold ruleWords
  split
  all_goals
    simp only [List.cons_append, List.nil_append, List.map_cons, List.map_nil, Lib.join_cons, Lib.joinTail, List.flatten_cons, List.flatten_nil, List.length_append, List.length_cons, List.length_nil]
    omega

def rule_Text.T3 : Bool × List (List Nat × List Nat) := (true, [([], []), ([], []), ([1], [1]), ([0, 2], [0, 2]), ([3, 0, 0, 1, 2, 3], [3])])
def rule_Text.B3 : List Nat := [0, 0, 2, 7, 15]
theorem rule_Text.tab3 : rtab .any (opsOf Tryz.f11 3) = rule_Text.T3 := by kernel_rfl
theorem rule_Text.bits3 : waitsOk rule_Text.T3.2 rule_Text.B3 = true := by kernel_rfl
def rule_Text.T4 : Bool × List (List Nat × List Nat) := (true, [([], []), ([0], [0]), ([1], [1]), ([], []), ([3], [3]), ([4, 2], [4]), ([], []), ([6], [6]), ([7, 5], [7]), ([], []), ([], []), ([10], [10]), ([11, 8], [11]), ([2, 5, 8, 9, 12], [2, 5, 8, 9, 12]), ([13, 12, 0, 1, 2, 3, 4, 5, 6, 7, 8, 9, 10, 11, 12, 13], [13])])
def rule_Text.B4 : List Nat := [0, 1, 3, 0, 8, 31, 0, 64, 255, 0, 0, 1024, 3583, 8191, 16383]
theorem rule_Text.tab4 : rtab .any (opsOf Tryz.f11 4) = rule_Text.T4 := by kernel_rfl
theorem rule_Text.bits4 : waitsOk rule_Text.T4.2 rule_Text.B4 = true := by kernel_rfl
set_option maxHeartbeats 8000000 in
set_option maxRecDepth 100000 in
theorem rule_Text.calls (a0 a1 a2 a3 a4 a5 a6 : Int) (r : ByteArray) (w : World) (HLd : Laid w) (h : rule_Text.f a0 a1 a2 a3 a4 a5 a6 = some r) :
    Calls Tryz.prog 11 #[.agg #[.int .i64 a0, .int .i64 a1, .int .i64 a2, .int .i64 a3, .int .u32 a4, .int .u32 a5, .int .i64 a6]] w fun e w' => e = .returned (.string r) ∧ Below w.heap.size w w' := by
  unfold rule_Text.f at h
  split at h
  case isFalse => cases h
  rename_i hb
  obtain ⟨b_a0, b_a1, b_a2, b_a6⟩ := hb
  obtain ⟨t, hT0, h2⟩ := Option.bind_eq_some_iff.mp h
  clear h
  have hT := Aside0.mk hT0
  clear hT0
  split at h2
  case isFalse => cases h2
  rename_i hts
  have hr := Lib.hid (Option.some.inj h2)
  clear h2
  have hu45 := Tryz.underlying27
  have hu26 := Tryz.underlying25
  have hu58 := Tryz.underlying88
  obtain ⟨q, kd, hq, hkd, hi, hn⟩ : ∃ (q : Bool) (kd : ByteArray), rule_within.f a3 0 3 = some q ∧ Aside0 (kd = ruleKind a3) ∧ (q = true → ∀ W : World, (Instr.index 93 kindWords (.int .i64 a3)).run Tryz.prog W = .ok (.string kd) W) ∧ (q = false → kd = ⟨#[]⟩ ∧ a3 ≠ 0) := by
    by_cases hk : 0 ≤ a3 ∧ a3 ≤ 3
    · refine ⟨true, ruleKind a3, ?_, ⟨rfl⟩, fun _ => ?_, fun h => by cases h⟩
      · unfold rule_within.f
        rw [if_pos hk.1, decide_eq_true hk.2]
      · obtain rfl | rfl | rfl | rfl : a3 = 0 ∨ a3 = 1 ∨ a3 = 2 ∨ a3 = 3 := by omega
        all_goals exact fun _ => by kernel_rfl
    · refine ⟨false, ruleKind a3, ?_, ⟨rfl⟩, fun h => by (cases h), fun _ => ⟨?_, by omega⟩⟩
      · unfold rule_within.f
        split
        · rw [decide_eq_false (by omega)]
        · rfl
      · unfold ruleKind
        rw [if_neg (by omega), if_neg (by omega), if_neg (by omega), if_neg (by omega)]
  have HB := Aside0.mk (Below.refl w.heap.size w)
  go_enter Tryz.func11, Tryz.ntmps11
  cases q
  · obtain ⟨hkd0, hne⟩ := hn rfl
    have e1 : (a3 == 0) = false := by simpa using hne
    have e2 : decide (a3 = 0) = false := decide_eq_false hne
    have e3 : (a3 = 0) = False := eq_false hne
    go_upto_region 4 with (first | ((with_reducible refine gate_dst (N := 1) rfl ?_); refine box_event ?hg (N := 1) ?hd (cs := #[.int .i64 a0, .int .i64 a1, .int .i64 a2, .int .i64 a3, .int .u32 a4, .int .u32 a5, .int .i64 a6]) (t := 27) ?hr ?_; (case hd => rfl); (case hg => rfl); (case hr => first | (go_simp; done) | (go_simp; rfl)); intro g hg w6 hbox hb; have BK := Aside0.mk hbox; have n1_ := Aside0.mk (below_step HB.out hb); have GE := Aside0.mk (show w.heap.size ≤ g by rw [hg]; exact below_size HB.out); clear HB; have HB := n1_; clear n1_ hb hbox hg; have hc3 := (blk_cell BK.out 3).trans (show _ = some (Value.int .i64 a3) from rfl); have hf3 := blk_frozen BK.out 3) | (go_at_call 46; refine (rule_within.calls _ _ _ _ _ hq).mono ?_; rintro e w3 ⟨rfl, ⟨m, rfl⟩⟩; have n0_ := Aside0.mk (blk_drewN BK.out m); have n1_ := Aside0.mk (pw_below_drewN HB.out m); clear BK HB; have BK := n0_; have HB := n1_; clear n0_ n1_))
    clear hc3 hf3
    rw [show Value.string ⟨#[]⟩ = Value.string kd by rw [hkd0]]
    clear hkd0 hi hn
    have hkw : ruleWords a0 a1 a2 a3 t a6 = [numeral a0, numeral a1, numeral a2, kd, t] := by
      rw [hkd.out]; unfold ruleWords; rw [if_neg hne, List.append_nil]
    have hkw := Aside0.mk hkw
    have n0_ := Aside0.mk (blk_drew BK.out)
    have n1_ := Aside0.mk (below_drew1 HB.out)
    clear BK HB
    have BK := n0_
    have HB := n1_
    clear n0_ n1_
    refine start_ (n := 15) (S := fun w' => w'.cell? ⟨g, 0, none⟩ = some (.int .i64 a0) ∧ w'.cell? ⟨g, 1, none⟩ = some (.int .i64 a1) ∧ w'.cell? ⟨g, 2, none⟩ = some (.int .i64 a2) ∧ w'.cell? ⟨g, 3, none⟩ = some (.int .i64 a3) ∧ w'.cell? ⟨g, 4, none⟩ = some (.int .u32 a4) ∧ w'.cell? ⟨g, 5, none⟩ = some (.int .u32 a5) ∧ w'.cell? ⟨g, 6, none⟩ = some (.int .i64 a6)) (ds := []) #[false, false, false, false, false, false, false, false, false, false, false, false, false, false, false] (by kernel_rfl) rfl rfl ⟨(blk_cell BK.out 0).trans rfl, (blk_cell BK.out 1).trans rfl, (blk_cell BK.out 2).trans rfl, (blk_cell BK.out 3).trans rfl, (blk_cell BK.out 4).trans rfl, (blk_cell BK.out 5).trans rfl, (blk_cell BK.out 6).trans rfl⟩ (fun hHeld => ?_)
    refine with_tabW rule_Text.tab4 rule_Text.bits4 (fun HT_ HW_ => ?_)
    generalize World.drew _ = w7 at BK HB hHeld ⊢
    refine pure_ (i := 0) (N := some 12) (v := ?_) (a' := ?_) #[true, false, false, false, false, false, false, false, false, false, false, false, false, false, false] rfl rfl (any_of HT_.out (by kernel_rfl)) (fun _ _ _ h => h) (Or.inl ⟨by rfl, ?_⟩) ?_ ?_
    rotate_left
    · intro w'
      go_simp
      with_reducible rfl
    rotate_left
    · simp only [Act.put, List.setIfInBounds_toArray, List.set_cons_zero, List.set_cons_succ, i64_w, i32_w]
      rfl
    refine pure_ (i := 3) (N := some 15) (v := ?_) (a' := ?_) #[true, false, false, true, false, false, false, false, false, false, false, false, false, false, false] rfl rfl (any_of HT_.out (by kernel_rfl)) (fun _ _ _ h => h) (Or.inl ⟨by rfl, ?_⟩) ?_ ?_
    rotate_left
    · intro w'
      go_simp
      with_reducible rfl
    rotate_left
    · simp only [Act.put, List.setIfInBounds_toArray, List.set_cons_zero, List.set_cons_succ, i64_w, i32_w]
      rfl
    refine pure_ (i := 6) (N := some 18) (v := ?_) (a' := ?_) #[true, false, false, true, false, false, true, false, false, false, false, false, false, false, false] rfl rfl (any_of HT_.out (by kernel_rfl)) (fun _ _ _ h => h) (Or.inl ⟨by rfl, ?_⟩) ?_ ?_
    rotate_left
    · intro w'
      go_simp
      with_reducible rfl
    rotate_left
    · simp only [Act.put, List.setIfInBounds_toArray, List.set_cons_zero, List.set_cons_succ, i64_w, i32_w]
      rfl
    refine pure_ (i := 9) (N := some 21) (v := ?_) (a' := ?_) #[true, false, false, true, false, false, true, false, false, true, false, false, false, false, false] rfl rfl (any_of HT_.out (by kernel_rfl)) (fun _ _ _ h => h) (Or.inl ⟨by rfl, ?_⟩) ?_ ?_
    rotate_left
    · intro w'
      go_simp
      with_reducible rfl
    rotate_left
    · simp only [Act.put, List.setIfInBounds_toArray, List.set_cons_zero, List.set_cons_succ, i64_w, i32_w]
      rfl
    refine pure_ (i := 10) (N := some 22) (v := ?_) (a' := ?_) #[true, false, false, true, false, false, true, false, false, true, true, false, false, false, false] rfl rfl (any_of HT_.out (by kernel_rfl)) (fun _ _ _ h => h) (Or.inl ⟨by rfl, ?_⟩) ?_ ?_
    rotate_left
    · intro w'
      go_simp
      with_reducible rfl
    rotate_left
    · simp only [Act.put, List.setIfInBounds_toArray, List.set_cons_zero, List.set_cons_succ, i64_w, i32_w]
      rfl
    refine take_ (i := 1) (N := some 13) (v := ?_) (a' := ?_) #[true, true, false, true, false, false, true, false, false, true, true, false, false, false, false] rfl rfl (take_ofW HT_.out HW_.out (by kernel_rfl)) (fun _ _ _ h => h) (Or.inl ⟨by rfl, ?_⟩) hHeld ?_ ?_
    rotate_left
    · rintro w' ⟨s0, s1, s2, s3, s4, s5, s6⟩
      go_simp
      with_reducible rfl
    rotate_left
    · simp only [Act.put, List.setIfInBounds_toArray, List.set_cons_zero, List.set_cons_succ, i64_w, i32_w]
      rfl
    refine take_ (i := 4) (N := some 16) (v := ?_) (a' := ?_) #[true, true, false, true, true, false, true, false, false, true, true, false, false, false, false] rfl rfl (take_ofW HT_.out HW_.out (by kernel_rfl)) (fun _ _ _ h => h) (Or.inl ⟨by rfl, ?_⟩) hHeld ?_ ?_
    rotate_left
    · rintro w' ⟨s0, s1, s2, s3, s4, s5, s6⟩
      go_simp
      with_reducible rfl
    rotate_left
    · simp only [Act.put, List.setIfInBounds_toArray, List.set_cons_zero, List.set_cons_succ, i64_w, i32_w]
      rfl
    refine take_ (i := 7) (N := some 19) (v := ?_) (a' := ?_) #[true, true, false, true, true, false, true, true, false, true, true, false, false, false, false] rfl rfl (take_ofW HT_.out HW_.out (by kernel_rfl)) (fun _ _ _ h => h) (Or.inl ⟨by rfl, ?_⟩) hHeld ?_ ?_
    rotate_left
    · rintro w' ⟨s0, s1, s2, s3, s4, s5, s6⟩
      go_simp
      with_reducible rfl
    rotate_left
    · simp only [Act.put, List.setIfInBounds_toArray, List.set_cons_zero, List.set_cons_succ, i64_w, i32_w]
      rfl
    refine take_ (i := 11) (N := some 23) (v := ?_) (a' := ?_) #[true, true, false, true, true, false, true, true, false, true, true, true, false, false, false] rfl rfl (take_ofW HT_.out HW_.out (by kernel_rfl)) (fun _ _ _ h => h) (Or.inl ⟨by rfl, ?_⟩) hHeld ?_ ?_
    rotate_left
    · rintro w' ⟨s0, s1, s2, s3, s4, s5, s6⟩
      go_simp
      with_reducible rfl
    rotate_left
    · simp only [Act.put, List.setIfInBounds_toArray, List.set_cons_zero, List.set_cons_succ, i64_w, i32_w]
      rfl
    refine one_ (i := 2) (N := some 14) #[true, true, true, true, true, false, true, true, false, true, true, true, false, false, false] rfl rfl (one_of HT_.out (by kernel_rfl)) (by decide) (fun K hK => ?_)
    refine goes_ Tryz.func48 (by kernel_rfl) rfl #[.int .i64 a0] (by rfl) rfl rfl (by simp only [List.map_toArray, List.map_cons, List.map_nil]; rfl) ?_
    with_reducible refine (numeral_calls a0 _ (HLd.below HB.out) b_a0.1 b_a0.2).mono ?_
    rintro e w3 ⟨rfl, hb⟩
    refine ⟨_, rfl, ?_⟩
    have n0_ := Aside0.mk (blk_below BK.out hb)
    have n1_ := Aside0.mk (below_step HB.out hb)
    clear BK HB hb
    have BK := n0_
    have HB := n1_
    clear n0_ n1_
    refine hK.out _ _ ⟨(blk_cell BK.out 0).trans rfl, (blk_cell BK.out 1).trans rfl, (blk_cell BK.out 2).trans rfl, (blk_cell BK.out 3).trans rfl, (blk_cell BK.out 4).trans rfl, (blk_cell BK.out 5).trans rfl, (blk_cell BK.out 6).trans rfl⟩ (fun hHeld => ?_)
    clear hK K
    refine norm_ (a' := ?_) ?_ ?_
    rotate_left
    · show Act.put _ (some 14) _ = _
      simp only [Act.put, List.setIfInBounds_toArray, List.set_cons_zero, List.set_cons_succ, i64_w, i32_w]
      rfl
    refine one_ (i := 5) (N := some 17) #[true, true, true, true, true, true, true, true, false, true, true, true, false, false, false] rfl rfl (one_of HT_.out (by kernel_rfl)) (by decide) (fun K hK => ?_)
    refine goes_ Tryz.func48 (by kernel_rfl) rfl #[.int .i64 a1] (by rfl) rfl rfl (by simp only [List.map_toArray, List.map_cons, List.map_nil]; rfl) ?_
    with_reducible refine (numeral_calls a1 _ (HLd.below HB.out) b_a1.1 b_a1.2).mono ?_
    rintro e w3 ⟨rfl, hb⟩
    refine ⟨_, rfl, ?_⟩
    have n0_ := Aside0.mk (blk_below BK.out hb)
    have n1_ := Aside0.mk (below_step HB.out hb)
    clear BK HB hb
    have BK := n0_
    have HB := n1_
    clear n0_ n1_
    refine hK.out _ _ ⟨(blk_cell BK.out 0).trans rfl, (blk_cell BK.out 1).trans rfl, (blk_cell BK.out 2).trans rfl, (blk_cell BK.out 3).trans rfl, (blk_cell BK.out 4).trans rfl, (blk_cell BK.out 5).trans rfl, (blk_cell BK.out 6).trans rfl⟩ (fun hHeld => ?_)
    clear hK K
    refine norm_ (a' := ?_) ?_ ?_
    rotate_left
    · show Act.put _ (some 17) _ = _
      simp only [Act.put, List.setIfInBounds_toArray, List.set_cons_zero, List.set_cons_succ, i64_w, i32_w]
      rfl
    refine one_ (i := 8) (N := some 20) #[true, true, true, true, true, true, true, true, true, true, true, true, false, false, false] rfl rfl (one_of HT_.out (by kernel_rfl)) (by decide) (fun K hK => ?_)
    refine goes_ Tryz.func48 (by kernel_rfl) rfl #[.int .i64 a2] (by rfl) rfl rfl (by simp only [List.map_toArray, List.map_cons, List.map_nil]; rfl) ?_
    with_reducible refine (numeral_calls a2 _ (HLd.below HB.out) b_a2.1 b_a2.2).mono ?_
    rintro e w3 ⟨rfl, hb⟩
    refine ⟨_, rfl, ?_⟩
    have n0_ := Aside0.mk (blk_below BK.out hb)
    have n1_ := Aside0.mk (below_step HB.out hb)
    clear BK HB hb
    have BK := n0_
    have HB := n1_
    clear n0_ n1_
    refine hK.out _ _ ⟨(blk_cell BK.out 0).trans rfl, (blk_cell BK.out 1).trans rfl, (blk_cell BK.out 2).trans rfl, (blk_cell BK.out 3).trans rfl, (blk_cell BK.out 4).trans rfl, (blk_cell BK.out 5).trans rfl, (blk_cell BK.out 6).trans rfl⟩ (fun hHeld => ?_)
    clear hK K
    refine norm_ (a' := ?_) ?_ ?_
    rotate_left
    · show Act.put _ (some 20) _ = _
      simp only [Act.put, List.setIfInBounds_toArray, List.set_cons_zero, List.set_cons_succ, i64_w, i32_w]
      rfl
    refine one_ (i := 12) (N := some 24) #[true, true, true, true, true, true, true, true, true, true, true, true, true, false, false] rfl rfl (one_of HT_.out (by kernel_rfl)) (by decide) (fun K hK => ?_)
    refine goes_ Tryz.func49 (by kernel_rfl) rfl #[.agg #[.int .u32 a4, .int .u32 a5]] (by rfl) rfl rfl (by simp only [List.map_toArray, List.map_cons, List.map_nil]; rfl) ?_
    with_reducible refine (prefix_RangeText.calls a4 a5 t _ (HLd.below HB.out) hT.out).mono ?_
    rintro e w3 ⟨rfl, hb⟩
    refine ⟨_, rfl, ?_⟩
    have n0_ := Aside0.mk (blk_below BK.out hb)
    have n1_ := Aside0.mk (below_step HB.out hb)
    clear BK HB hb
    have BK := n0_
    have HB := n1_
    clear n0_ n1_
    refine hK.out _ _ ⟨(blk_cell BK.out 0).trans rfl, (blk_cell BK.out 1).trans rfl, (blk_cell BK.out 2).trans rfl, (blk_cell BK.out 3).trans rfl, (blk_cell BK.out 4).trans rfl, (blk_cell BK.out 5).trans rfl, (blk_cell BK.out 6).trans rfl⟩ (fun hHeld => ?_)
    clear hK K
    refine norm_ (a' := ?_) ?_ ?_
    rotate_left
    · show Act.put _ (some 24) _ = _
      simp only [Act.put, List.setIfInBounds_toArray, List.set_cons_zero, List.set_cons_succ, i64_w, i32_w]
      rfl
    refine one_ (i := 13) (N := some 25) #[true, true, true, true, true, true, true, true, true, true, true, true, true, true, false] rfl rfl (one_of HT_.out (by kernel_rfl)) (by decide) (fun K hK => ?_)
    refine value_ (w1 := ?_) (v := ?_) (by rfl) rfl ?_ ?_
    rotate_left 2
    · go_simp
      constructor
      · rfl
      · rfl
    have n0_ := Aside0.mk (blk_alloc BK.out (.cells #[.string (numeral a0), .string (numeral a1), .string (numeral a2), .string kd, .string t] 9))
    have HO : Aside0 (Kd.R Kd.string 9 (w3.alloc (.cells #[.string (numeral a0), .string (numeral a1), .string (numeral a2), .string kd, .string t] 9)) w.heap.size (fun _ => True) (.slice (some ⟨w3.heap.size, 0, none⟩) 5 5) [numeral a0, numeral a1, numeral a2, kd, t]) := ⟨R_new_row' Value.string (fun _ => rfl) w3 w.heap.size (below_size HB.out) 9 [numeral a0, numeral a1, numeral a2, kd, t] (show (5 : Nat) ≤ 9223372036854775807 by decide)⟩
    have n1_ := Aside0.mk (below_alloc HB.out (.cells #[.string (numeral a0), .string (numeral a1), .string (numeral a2), .string kd, .string t] 9))
    clear BK HB
    have BK := n0_
    have HB := n1_
    clear n0_ n1_
    refine hK.out _ _ ⟨(blk_cell BK.out 0).trans rfl, (blk_cell BK.out 1).trans rfl, (blk_cell BK.out 2).trans rfl, (blk_cell BK.out 3).trans rfl, (blk_cell BK.out 4).trans rfl, (blk_cell BK.out 5).trans rfl, (blk_cell BK.out 6).trans rfl⟩ (fun hHeld => ?_)
    clear hK K
    refine norm_ (a' := ?_) ?_ ?_
    rotate_left
    · show Act.put _ (some 25) _ = _
      simp only [Act.put, List.setIfInBounds_toArray, List.set_cons_zero, List.set_cons_succ, i64_w, i32_w]
      rfl
    refine pure_ (i := 14) (N := some 4) (v := ?_) (a' := ?_) #[true, true, true, true, true, true, true, true, true, true, true, true, true, true, true] rfl rfl (any_of HT_.out (by kernel_rfl)) (fun _ _ _ h => h) (Or.inl ⟨by rfl, ?_⟩) ?_ ?_
    rotate_left
    · intro w'
      go_simp
      with_reducible rfl
    rotate_left
    · simp only [Act.put, List.setIfInBounds_toArray, List.set_cons_zero, List.set_cons_succ, i64_w, i32_w]
      rfl
    refine done_ (done_of HT_.out (by kernel_rfl)) ?_
    generalize World.alloc _ _ = w8 at HO BK HB ⊢
    have hc3 := (blk_cell BK.out 3).trans (show _ = some (Value.int .i64 a3) from rfl)
    have hf3 := blk_frozen BK.out 3
    obtain ⟨AA, cc, hv, hcc, hC⟩ := Kd.R_reads HO.out
    cases hv
    have CJ := Lib.hid (join_calls _ _ [numeral a0, numeral a1, numeral a2, kd, t] ⟨#[32]⟩ w8 hC hcc (show (5 : Nat) ≤ 140737488355328 by decide) (by rw [← hkw.out]; exact ruleWords_len a0 a1 a2 a3 t a6 b_a0 b_a1 b_a2 b_a6 hts))
    clear hC hcc
    go_wp2_with (go_at_call 50; refine CJ.out.mono ?_; rintro e w9 ⟨rfl, hb1⟩)
    go_ret
    exact ⟨by have := hr.out; rw [hkw.out] at this; exact congrArg (fun x => Ending.returned (.string x)) this, HB.out.trans (hb1.mono HB.out.size)⟩
  · by_cases h0 : a3 = 0
    · subst h0
      go_upto_region 3 with (first | ((with_reducible refine gate_dst (N := 1) rfl ?_); refine box_event ?hg (N := 1) ?hd (cs := #[.int .i64 a0, .int .i64 a1, .int .i64 a2, .int .i64 0, .int .u32 a4, .int .u32 a5, .int .i64 a6]) (t := 27) ?hr ?_; (case hd => rfl); (case hg => rfl); (case hr => first | (go_simp; done) | (go_simp; rfl)); intro g hg w6 hbox hb; have BK := Aside0.mk hbox; have n1_ := Aside0.mk (below_step HB.out hb); have GE := Aside0.mk (show w.heap.size ≤ g by rw [hg]; exact below_size HB.out); clear HB; have HB := n1_; clear n1_ hb hbox hg; have hc3 := (blk_cell BK.out 3).trans (show _ = some (Value.int .i64 0) from rfl); have hf3 := blk_frozen BK.out 3) | (go_at_call 46; refine (rule_within.calls _ _ _ _ _ hq).mono ?_; rintro e w3 ⟨rfl, ⟨m, rfl⟩⟩; have n0_ := Aside0.mk (blk_drewN BK.out m); have n1_ := Aside0.mk (pw_below_drewN HB.out m); clear BK HB; have BK := n0_; have HB := n1_; clear n0_ n1_))
      clear hc3 hf3
      have hi := hi trivial
      clear hn
      have n0_ := Aside0.mk (blk_drew BK.out)
      have n1_ := Aside0.mk (below_drew1 HB.out)
      clear BK HB
      have BK := n0_
      have HB := n1_
      clear n0_ n1_
      refine start_ (n := 5) (S := fun w' => w'.cell? ⟨g, 0, none⟩ = some (.int .i64 a0) ∧ w'.cell? ⟨g, 1, none⟩ = some (.int .i64 a1) ∧ w'.cell? ⟨g, 2, none⟩ = some (.int .i64 a2) ∧ w'.cell? ⟨g, 3, none⟩ = some (.int .i64 0) ∧ w'.cell? ⟨g, 4, none⟩ = some (.int .u32 a4) ∧ w'.cell? ⟨g, 5, none⟩ = some (.int .u32 a5) ∧ w'.cell? ⟨g, 6, none⟩ = some (.int .i64 a6)) (ds := []) #[false, false, false, false, false] (by kernel_rfl) rfl rfl ⟨(blk_cell BK.out 0).trans rfl, (blk_cell BK.out 1).trans rfl, (blk_cell BK.out 2).trans rfl, (blk_cell BK.out 3).trans rfl, (blk_cell BK.out 4).trans rfl, (blk_cell BK.out 5).trans rfl, (blk_cell BK.out 6).trans rfl⟩ (fun hHeld => ?_)
      refine with_tabW rule_Text.tab3 rule_Text.bits3 (fun HT_ HW_ => ?_)
      generalize World.drew _ = w7 at BK HB hHeld ⊢
      refine pure_ (i := 1) (N := some 9) (v := ?_) (a' := ?_) #[false, true, false, false, false] rfl rfl (any_of HT_.out (by kernel_rfl)) (fun _ _ _ h => h) (Or.inl ⟨by rfl, ?_⟩) ?_ ?_
      rotate_left
      · intro w'
        go_simp
        with_reducible rfl
      rotate_left
      · simp only [Act.put, List.setIfInBounds_toArray, List.set_cons_zero, List.set_cons_succ, i64_w, i32_w]
        rfl
      refine take_ (i := 2) (N := some 10) (v := ?_) (a' := ?_) #[false, true, true, false, false] rfl rfl (take_ofW HT_.out HW_.out (by kernel_rfl)) (fun _ _ _ h => h) (Or.inl ⟨by rfl, ?_⟩) hHeld ?_ ?_
      rotate_left
      · rintro w' ⟨s0, s1, s2, s3, s4, s5, s6⟩
        go_simp
        with_reducible rfl
      rotate_left
      · simp only [Act.put, List.setIfInBounds_toArray, List.set_cons_zero, List.set_cons_succ, i64_w, i32_w]
        rfl
      refine one_ (i := 0) (N := some 8) #[true, true, true, false, false] rfl rfl (one_of HT_.out (by kernel_rfl)) (by decide) (fun K hK => ?_)
      refine goes_ Tryz.func47 (by kernel_rfl) rfl #[] (by rfl) rfl rfl (by simp only [List.map_toArray, List.map_cons, List.map_nil]) ?_
      with_reducible refine (rule_named_calls _).mono ?_
      rintro e w3 ⟨rfl, hb⟩
      refine ⟨_, rfl, ?_⟩
      have n0_ := Aside0.mk (blk_below BK.out hb)
      have n1_ := Aside0.mk (below_step HB.out hb)
      clear BK HB hb
      have BK := n0_
      have HB := n1_
      clear n0_ n1_
      refine hK.out _ _ ⟨(blk_cell BK.out 0).trans rfl, (blk_cell BK.out 1).trans rfl, (blk_cell BK.out 2).trans rfl, (blk_cell BK.out 3).trans rfl, (blk_cell BK.out 4).trans rfl, (blk_cell BK.out 5).trans rfl, (blk_cell BK.out 6).trans rfl⟩ (fun hHeld => ?_)
      clear hK K
      refine norm_ (a' := ?_) ?_ ?_
      rotate_left
      · show Act.put _ (some 8) _ = _
        simp only [Act.put, List.setIfInBounds_toArray, List.set_cons_zero, List.set_cons_succ, i64_w, i32_w]
        rfl
      refine one_ (i := 3) (N := some 11) #[true, true, true, true, false] rfl rfl (one_of HT_.out (by kernel_rfl)) (by decide) (fun K hK => ?_)
      refine value_ (w1 := ?_) (v := ?_) (by rfl) rfl ?_ ?_
      rotate_left 2
      · go_simp
        constructor
        · rfl
        · rfl
      refine hK.out _ _ ⟨(blk_cell BK.out 0).trans rfl, (blk_cell BK.out 1).trans rfl, (blk_cell BK.out 2).trans rfl, (blk_cell BK.out 3).trans rfl, (blk_cell BK.out 4).trans rfl, (blk_cell BK.out 5).trans rfl, (blk_cell BK.out 6).trans rfl⟩ (fun hHeld => ?_)
      clear hK K
      refine norm_ (a' := ?_) ?_ ?_
      rotate_left
      · show Act.put _ (some 11) _ = _
        simp only [Act.put, List.setIfInBounds_toArray, List.set_cons_zero, List.set_cons_succ, i64_w, i32_w]
        rfl
      refine pure_ (i := 4) (N := some 3) (v := ?_) (a' := ?_) #[true, true, true, true, true] rfl rfl (any_of HT_.out (by kernel_rfl)) (fun _ _ _ h => h) (Or.inl ⟨by rfl, ?_⟩) ?_ ?_
      rotate_left
      · intro w'
        go_simp
        with_reducible rfl
      rotate_left
      · simp only [Act.put, List.setIfInBounds_toArray, List.set_cons_zero, List.set_cons_succ, i64_w, i32_w]
        rfl
      refine done_ (done_of HT_.out (by kernel_rfl)) ?_
      clear hi
      go_upto_region 4 with fail
      have hkw : ruleWords a0 a1 a2 0 t a6 = [numeral a0, numeral a1, numeral a2, kd, t] ++ [numeral a6] := by
        rw [hkd.out]; rfl
      have hkw := Aside0.mk hkw
      have n0_ := Aside0.mk (blk_drew BK.out)
      have n1_ := Aside0.mk (below_drew1 HB.out)
      clear BK HB
      have BK := n0_
      have HB := n1_
      clear n0_ n1_
      refine start_ (n := 15) (S := fun w' => w'.cell? ⟨g, 0, none⟩ = some (.int .i64 a0) ∧ w'.cell? ⟨g, 1, none⟩ = some (.int .i64 a1) ∧ w'.cell? ⟨g, 2, none⟩ = some (.int .i64 a2) ∧ w'.cell? ⟨g, 3, none⟩ = some (.int .i64 0) ∧ w'.cell? ⟨g, 4, none⟩ = some (.int .u32 a4) ∧ w'.cell? ⟨g, 5, none⟩ = some (.int .u32 a5) ∧ w'.cell? ⟨g, 6, none⟩ = some (.int .i64 a6)) (ds := []) #[false, false, false, false, false, false, false, false, false, false, false, false, false, false, false] (by kernel_rfl) rfl rfl ⟨(blk_cell BK.out 0).trans rfl, (blk_cell BK.out 1).trans rfl, (blk_cell BK.out 2).trans rfl, (blk_cell BK.out 3).trans rfl, (blk_cell BK.out 4).trans rfl, (blk_cell BK.out 5).trans rfl, (blk_cell BK.out 6).trans rfl⟩ (fun hHeld => ?_)
      refine with_tabW rule_Text.tab4 rule_Text.bits4 (fun HT_ HW_ => ?_)
      generalize World.drew _ = w7 at BK HB hHeld ⊢
      refine pure_ (i := 0) (N := some 12) (v := ?_) (a' := ?_) #[true, false, false, false, false, false, false, false, false, false, false, false, false, false, false] rfl rfl (any_of HT_.out (by kernel_rfl)) (fun _ _ _ h => h) (Or.inl ⟨by rfl, ?_⟩) ?_ ?_
      rotate_left
      · intro w'
        go_simp
        with_reducible rfl
      rotate_left
      · simp only [Act.put, List.setIfInBounds_toArray, List.set_cons_zero, List.set_cons_succ, i64_w, i32_w]
        rfl
      refine pure_ (i := 3) (N := some 15) (v := ?_) (a' := ?_) #[true, false, false, true, false, false, false, false, false, false, false, false, false, false, false] rfl rfl (any_of HT_.out (by kernel_rfl)) (fun _ _ _ h => h) (Or.inl ⟨by rfl, ?_⟩) ?_ ?_
      rotate_left
      · intro w'
        go_simp
        with_reducible rfl
      rotate_left
      · simp only [Act.put, List.setIfInBounds_toArray, List.set_cons_zero, List.set_cons_succ, i64_w, i32_w]
        rfl
      refine pure_ (i := 6) (N := some 18) (v := ?_) (a' := ?_) #[true, false, false, true, false, false, true, false, false, false, false, false, false, false, false] rfl rfl (any_of HT_.out (by kernel_rfl)) (fun _ _ _ h => h) (Or.inl ⟨by rfl, ?_⟩) ?_ ?_
      rotate_left
      · intro w'
        go_simp
        with_reducible rfl
      rotate_left
      · simp only [Act.put, List.setIfInBounds_toArray, List.set_cons_zero, List.set_cons_succ, i64_w, i32_w]
        rfl
      refine pure_ (i := 9) (N := some 21) (v := ?_) (a' := ?_) #[true, false, false, true, false, false, true, false, false, true, false, false, false, false, false] rfl rfl (any_of HT_.out (by kernel_rfl)) (fun _ _ _ h => h) (Or.inl ⟨by rfl, ?_⟩) ?_ ?_
      rotate_left
      · intro w'
        go_simp
        with_reducible rfl
      rotate_left
      · simp only [Act.put, List.setIfInBounds_toArray, List.set_cons_zero, List.set_cons_succ, i64_w, i32_w]
        rfl
      refine pure_ (i := 10) (N := some 22) (v := ?_) (a' := ?_) #[true, false, false, true, false, false, true, false, false, true, true, false, false, false, false] rfl rfl (any_of HT_.out (by kernel_rfl)) (fun _ _ _ h => h) (Or.inl ⟨by rfl, ?_⟩) ?_ ?_
      rotate_left
      · intro w'
        go_simp
        with_reducible rfl
      rotate_left
      · simp only [Act.put, List.setIfInBounds_toArray, List.set_cons_zero, List.set_cons_succ, i64_w, i32_w]
        rfl
      refine take_ (i := 1) (N := some 13) (v := ?_) (a' := ?_) #[true, true, false, true, false, false, true, false, false, true, true, false, false, false, false] rfl rfl (take_ofW HT_.out HW_.out (by kernel_rfl)) (fun _ _ _ h => h) (Or.inl ⟨by rfl, ?_⟩) hHeld ?_ ?_
      rotate_left
      · rintro w' ⟨s0, s1, s2, s3, s4, s5, s6⟩
        go_simp
        with_reducible rfl
      rotate_left
      · simp only [Act.put, List.setIfInBounds_toArray, List.set_cons_zero, List.set_cons_succ, i64_w, i32_w]
        rfl
      refine take_ (i := 4) (N := some 16) (v := ?_) (a' := ?_) #[true, true, false, true, true, false, true, false, false, true, true, false, false, false, false] rfl rfl (take_ofW HT_.out HW_.out (by kernel_rfl)) (fun _ _ _ h => h) (Or.inl ⟨by rfl, ?_⟩) hHeld ?_ ?_
      rotate_left
      · rintro w' ⟨s0, s1, s2, s3, s4, s5, s6⟩
        go_simp
        with_reducible rfl
      rotate_left
      · simp only [Act.put, List.setIfInBounds_toArray, List.set_cons_zero, List.set_cons_succ, i64_w, i32_w]
        rfl
      refine take_ (i := 7) (N := some 19) (v := ?_) (a' := ?_) #[true, true, false, true, true, false, true, true, false, true, true, false, false, false, false] rfl rfl (take_ofW HT_.out HW_.out (by kernel_rfl)) (fun _ _ _ h => h) (Or.inl ⟨by rfl, ?_⟩) hHeld ?_ ?_
      rotate_left
      · rintro w' ⟨s0, s1, s2, s3, s4, s5, s6⟩
        go_simp
        with_reducible rfl
      rotate_left
      · simp only [Act.put, List.setIfInBounds_toArray, List.set_cons_zero, List.set_cons_succ, i64_w, i32_w]
        rfl
      refine take_ (i := 11) (N := some 23) (v := ?_) (a' := ?_) #[true, true, false, true, true, false, true, true, false, true, true, true, false, false, false] rfl rfl (take_ofW HT_.out HW_.out (by kernel_rfl)) (fun _ _ _ h => h) (Or.inl ⟨by rfl, ?_⟩) hHeld ?_ ?_
      rotate_left
      · rintro w' ⟨s0, s1, s2, s3, s4, s5, s6⟩
        go_simp
        with_reducible rfl
      rotate_left
      · simp only [Act.put, List.setIfInBounds_toArray, List.set_cons_zero, List.set_cons_succ, i64_w, i32_w]
        rfl
      refine one_ (i := 2) (N := some 14) #[true, true, true, true, true, false, true, true, false, true, true, true, false, false, false] rfl rfl (one_of HT_.out (by kernel_rfl)) (by decide) (fun K hK => ?_)
      refine goes_ Tryz.func48 (by kernel_rfl) rfl #[.int .i64 a0] (by rfl) rfl rfl (by simp only [List.map_toArray, List.map_cons, List.map_nil]; rfl) ?_
      with_reducible refine (numeral_calls a0 _ (HLd.below HB.out) b_a0.1 b_a0.2).mono ?_
      rintro e w3 ⟨rfl, hb⟩
      refine ⟨_, rfl, ?_⟩
      have n0_ := Aside0.mk (blk_below BK.out hb)
      have n1_ := Aside0.mk (below_step HB.out hb)
      clear BK HB hb
      have BK := n0_
      have HB := n1_
      clear n0_ n1_
      refine hK.out _ _ ⟨(blk_cell BK.out 0).trans rfl, (blk_cell BK.out 1).trans rfl, (blk_cell BK.out 2).trans rfl, (blk_cell BK.out 3).trans rfl, (blk_cell BK.out 4).trans rfl, (blk_cell BK.out 5).trans rfl, (blk_cell BK.out 6).trans rfl⟩ (fun hHeld => ?_)
      clear hK K
      refine norm_ (a' := ?_) ?_ ?_
      rotate_left
      · show Act.put _ (some 14) _ = _
        simp only [Act.put, List.setIfInBounds_toArray, List.set_cons_zero, List.set_cons_succ, i64_w, i32_w]
        rfl
      refine one_ (i := 5) (N := some 17) #[true, true, true, true, true, true, true, true, false, true, true, true, false, false, false] rfl rfl (one_of HT_.out (by kernel_rfl)) (by decide) (fun K hK => ?_)
      refine goes_ Tryz.func48 (by kernel_rfl) rfl #[.int .i64 a1] (by rfl) rfl rfl (by simp only [List.map_toArray, List.map_cons, List.map_nil]; rfl) ?_
      with_reducible refine (numeral_calls a1 _ (HLd.below HB.out) b_a1.1 b_a1.2).mono ?_
      rintro e w3 ⟨rfl, hb⟩
      refine ⟨_, rfl, ?_⟩
      have n0_ := Aside0.mk (blk_below BK.out hb)
      have n1_ := Aside0.mk (below_step HB.out hb)
      clear BK HB hb
      have BK := n0_
      have HB := n1_
      clear n0_ n1_
      refine hK.out _ _ ⟨(blk_cell BK.out 0).trans rfl, (blk_cell BK.out 1).trans rfl, (blk_cell BK.out 2).trans rfl, (blk_cell BK.out 3).trans rfl, (blk_cell BK.out 4).trans rfl, (blk_cell BK.out 5).trans rfl, (blk_cell BK.out 6).trans rfl⟩ (fun hHeld => ?_)
      clear hK K
      refine norm_ (a' := ?_) ?_ ?_
      rotate_left
      · show Act.put _ (some 17) _ = _
        simp only [Act.put, List.setIfInBounds_toArray, List.set_cons_zero, List.set_cons_succ, i64_w, i32_w]
        rfl
      refine one_ (i := 8) (N := some 20) #[true, true, true, true, true, true, true, true, true, true, true, true, false, false, false] rfl rfl (one_of HT_.out (by kernel_rfl)) (by decide) (fun K hK => ?_)
      refine goes_ Tryz.func48 (by kernel_rfl) rfl #[.int .i64 a2] (by rfl) rfl rfl (by simp only [List.map_toArray, List.map_cons, List.map_nil]; rfl) ?_
      with_reducible refine (numeral_calls a2 _ (HLd.below HB.out) b_a2.1 b_a2.2).mono ?_
      rintro e w3 ⟨rfl, hb⟩
      refine ⟨_, rfl, ?_⟩
      have n0_ := Aside0.mk (blk_below BK.out hb)
      have n1_ := Aside0.mk (below_step HB.out hb)
      clear BK HB hb
      have BK := n0_
      have HB := n1_
      clear n0_ n1_
      refine hK.out _ _ ⟨(blk_cell BK.out 0).trans rfl, (blk_cell BK.out 1).trans rfl, (blk_cell BK.out 2).trans rfl, (blk_cell BK.out 3).trans rfl, (blk_cell BK.out 4).trans rfl, (blk_cell BK.out 5).trans rfl, (blk_cell BK.out 6).trans rfl⟩ (fun hHeld => ?_)
      clear hK K
      refine norm_ (a' := ?_) ?_ ?_
      rotate_left
      · show Act.put _ (some 20) _ = _
        simp only [Act.put, List.setIfInBounds_toArray, List.set_cons_zero, List.set_cons_succ, i64_w, i32_w]
        rfl
      refine one_ (i := 12) (N := some 24) #[true, true, true, true, true, true, true, true, true, true, true, true, true, false, false] rfl rfl (one_of HT_.out (by kernel_rfl)) (by decide) (fun K hK => ?_)
      refine goes_ Tryz.func49 (by kernel_rfl) rfl #[.agg #[.int .u32 a4, .int .u32 a5]] (by rfl) rfl rfl (by simp only [List.map_toArray, List.map_cons, List.map_nil]; rfl) ?_
      with_reducible refine (prefix_RangeText.calls a4 a5 t _ (HLd.below HB.out) hT.out).mono ?_
      rintro e w3 ⟨rfl, hb⟩
      refine ⟨_, rfl, ?_⟩
      have n0_ := Aside0.mk (blk_below BK.out hb)
      have n1_ := Aside0.mk (below_step HB.out hb)
      clear BK HB hb
      have BK := n0_
      have HB := n1_
      clear n0_ n1_
      refine hK.out _ _ ⟨(blk_cell BK.out 0).trans rfl, (blk_cell BK.out 1).trans rfl, (blk_cell BK.out 2).trans rfl, (blk_cell BK.out 3).trans rfl, (blk_cell BK.out 4).trans rfl, (blk_cell BK.out 5).trans rfl, (blk_cell BK.out 6).trans rfl⟩ (fun hHeld => ?_)
      clear hK K
      refine norm_ (a' := ?_) ?_ ?_
      rotate_left
      · show Act.put _ (some 24) _ = _
        simp only [Act.put, List.setIfInBounds_toArray, List.set_cons_zero, List.set_cons_succ, i64_w, i32_w]
        rfl
      refine one_ (i := 13) (N := some 25) #[true, true, true, true, true, true, true, true, true, true, true, true, true, true, false] rfl rfl (one_of HT_.out (by kernel_rfl)) (by decide) (fun K hK => ?_)
      refine value_ (w1 := ?_) (v := ?_) (by rfl) rfl ?_ ?_
      rotate_left 2
      · go_simp
        constructor
        · rfl
        · rfl
      have n0_ := Aside0.mk (blk_alloc BK.out (.cells #[.string (numeral a0), .string (numeral a1), .string (numeral a2), .string kd, .string t] 9))
      have HO : Aside0 (Kd.R Kd.string 9 (w3.alloc (.cells #[.string (numeral a0), .string (numeral a1), .string (numeral a2), .string kd, .string t] 9)) w.heap.size (fun _ => True) (.slice (some ⟨w3.heap.size, 0, none⟩) 5 5) [numeral a0, numeral a1, numeral a2, kd, t]) := ⟨R_new_row' Value.string (fun _ => rfl) w3 w.heap.size (below_size HB.out) 9 [numeral a0, numeral a1, numeral a2, kd, t] (show (5 : Nat) ≤ 9223372036854775807 by decide)⟩
      have n1_ := Aside0.mk (below_alloc HB.out (.cells #[.string (numeral a0), .string (numeral a1), .string (numeral a2), .string kd, .string t] 9))
      clear BK HB
      have BK := n0_
      have HB := n1_
      clear n0_ n1_
      refine hK.out _ _ ⟨(blk_cell BK.out 0).trans rfl, (blk_cell BK.out 1).trans rfl, (blk_cell BK.out 2).trans rfl, (blk_cell BK.out 3).trans rfl, (blk_cell BK.out 4).trans rfl, (blk_cell BK.out 5).trans rfl, (blk_cell BK.out 6).trans rfl⟩ (fun hHeld => ?_)
      clear hK K
      refine norm_ (a' := ?_) ?_ ?_
      rotate_left
      · show Act.put _ (some 25) _ = _
        simp only [Act.put, List.setIfInBounds_toArray, List.set_cons_zero, List.set_cons_succ, i64_w, i32_w]
        rfl
      refine pure_ (i := 14) (N := some 4) (v := ?_) (a' := ?_) #[true, true, true, true, true, true, true, true, true, true, true, true, true, true, true] rfl rfl (any_of HT_.out (by kernel_rfl)) (fun _ _ _ h => h) (Or.inl ⟨by rfl, ?_⟩) ?_ ?_
      rotate_left
      · intro w'
        go_simp
        with_reducible rfl
      rotate_left
      · simp only [Act.put, List.setIfInBounds_toArray, List.set_cons_zero, List.set_cons_succ, i64_w, i32_w]
        rfl
      refine done_ (done_of HT_.out (by kernel_rfl)) ?_
      generalize World.alloc _ _ = w8 at HO BK HB ⊢
      have hc3 := (blk_cell BK.out 3).trans (show _ = some (Value.int .i64 0) from rfl)
      have hf3 := blk_frozen BK.out 3
      have hc6 := (blk_cell BK.out 6).trans (show _ = some (Value.int .i64 a6) from rfl)
      have hf6 := blk_frozen BK.out 6
      generalize hsl : Value.slice _ 5 5 = sl at HO ⊢
      clear hsl
      go_wp2_with (first | (go_at_call 48; refine (numeral_calls a6 _ (HLd.below HB.out) b_a6.1 b_a6.2).mono ?_; rintro e w9 ⟨rfl, hb1⟩; have HB1 := Aside0.mk (HB.out.trans (hb1.mono HB.out.size)); have HO1 := Aside0.mk (Kd.R_below HO.out hb1); clear hb1) | (at_builtin; refine Kd.R_append Kd.string (w0 := w) w.heap.size rfl (.tmp 29) (.tmp 33) 88 9 (.string ⟨#[]⟩) 16 rfl Tryz.underlying88 infoS rfl (by decide) (by omega) sl _ (numeral a6) [.string (numeral a6)] (fun _ => True) (fun _ => False) rfl rfl rfl (fun _ hk => hk.elim) (fun _ _ => trivial) HO1.out HB1.out HB1.out.size (show (5 + 1) * 16 ≤ 140737488355328 by decide) ?_; intro v2 w2 ho hb hg hat; have HO2 := Aside0.mk ho; have HB2 := Aside0.mk hb; clear ho hb hg hat; obtain ⟨AA, cc, hv, hcc, hC⟩ := Kd.R_reads HO2.out; subst hv; have CJ := Lib.hid (join_calls AA cc ([numeral a0, numeral a1, numeral a2, kd, t] ++ [numeral a6]) ⟨#[32]⟩ w2 hC hcc (show (6 : Nat) ≤ 140737488355328 by decide) (by rw [← hkw.out]; exact ruleWords_len a0 a1 a2 0 t a6 b_a0 b_a1 b_a2 b_a6 hts)); clear hC hcc) | (go_at_call 50; refine CJ.out.mono ?_; rintro e w10 ⟨rfl, hb1⟩))
      go_ret
      exact ⟨by have := hr.out; rw [hkw.out] at this; exact congrArg (fun x => Ending.returned (.string x)) this, HB2.out.trans (hb1.mono HB2.out.size)⟩

    · have e1 : (a3 == 0) = false := by simpa using h0
      have e2 : decide (a3 = 0) = false := decide_eq_false h0
      have e3 : (a3 = 0) = False := eq_false h0
      go_upto_region 3 with (first | ((with_reducible refine gate_dst (N := 1) rfl ?_); refine box_event ?hg (N := 1) ?hd (cs := #[.int .i64 a0, .int .i64 a1, .int .i64 a2, .int .i64 a3, .int .u32 a4, .int .u32 a5, .int .i64 a6]) (t := 27) ?hr ?_; (case hd => rfl); (case hg => rfl); (case hr => first | (go_simp; done) | (go_simp; rfl)); intro g hg w6 hbox hb; have BK := Aside0.mk hbox; have n1_ := Aside0.mk (below_step HB.out hb); have GE := Aside0.mk (show w.heap.size ≤ g by rw [hg]; exact below_size HB.out); clear HB; have HB := n1_; clear n1_ hb hbox hg; have hc3 := (blk_cell BK.out 3).trans (show _ = some (Value.int .i64 a3) from rfl); have hf3 := blk_frozen BK.out 3) | (go_at_call 46; refine (rule_within.calls _ _ _ _ _ hq).mono ?_; rintro e w3 ⟨rfl, ⟨m, rfl⟩⟩; have n0_ := Aside0.mk (blk_drewN BK.out m); have n1_ := Aside0.mk (pw_below_drewN HB.out m); clear BK HB; have BK := n0_; have HB := n1_; clear n0_ n1_))
      clear hc3 hf3
      have hi := hi trivial
      clear hn
      have n0_ := Aside0.mk (blk_drew BK.out)
      have n1_ := Aside0.mk (below_drew1 HB.out)
      clear BK HB
      have BK := n0_
      have HB := n1_
      clear n0_ n1_
      refine start_ (n := 5) (S := fun w' => w'.cell? ⟨g, 0, none⟩ = some (.int .i64 a0) ∧ w'.cell? ⟨g, 1, none⟩ = some (.int .i64 a1) ∧ w'.cell? ⟨g, 2, none⟩ = some (.int .i64 a2) ∧ w'.cell? ⟨g, 3, none⟩ = some (.int .i64 a3) ∧ w'.cell? ⟨g, 4, none⟩ = some (.int .u32 a4) ∧ w'.cell? ⟨g, 5, none⟩ = some (.int .u32 a5) ∧ w'.cell? ⟨g, 6, none⟩ = some (.int .i64 a6)) (ds := []) #[false, false, false, false, false] (by kernel_rfl) rfl rfl ⟨(blk_cell BK.out 0).trans rfl, (blk_cell BK.out 1).trans rfl, (blk_cell BK.out 2).trans rfl, (blk_cell BK.out 3).trans rfl, (blk_cell BK.out 4).trans rfl, (blk_cell BK.out 5).trans rfl, (blk_cell BK.out 6).trans rfl⟩ (fun hHeld => ?_)
      refine with_tabW rule_Text.tab3 rule_Text.bits3 (fun HT_ HW_ => ?_)
      generalize World.drew _ = w7 at BK HB hHeld ⊢
      refine pure_ (i := 1) (N := some 9) (v := ?_) (a' := ?_) #[false, true, false, false, false] rfl rfl (any_of HT_.out (by kernel_rfl)) (fun _ _ _ h => h) (Or.inl ⟨by rfl, ?_⟩) ?_ ?_
      rotate_left
      · intro w'
        go_simp
        with_reducible rfl
      rotate_left
      · simp only [Act.put, List.setIfInBounds_toArray, List.set_cons_zero, List.set_cons_succ, i64_w, i32_w]
        rfl
      refine take_ (i := 2) (N := some 10) (v := ?_) (a' := ?_) #[false, true, true, false, false] rfl rfl (take_ofW HT_.out HW_.out (by kernel_rfl)) (fun _ _ _ h => h) (Or.inl ⟨by rfl, ?_⟩) hHeld ?_ ?_
      rotate_left
      · rintro w' ⟨s0, s1, s2, s3, s4, s5, s6⟩
        go_simp
        with_reducible rfl
      rotate_left
      · simp only [Act.put, List.setIfInBounds_toArray, List.set_cons_zero, List.set_cons_succ, i64_w, i32_w]
        rfl
      refine one_ (i := 0) (N := some 8) #[true, true, true, false, false] rfl rfl (one_of HT_.out (by kernel_rfl)) (by decide) (fun K hK => ?_)
      refine goes_ Tryz.func47 (by kernel_rfl) rfl #[] (by rfl) rfl rfl (by simp only [List.map_toArray, List.map_cons, List.map_nil]) ?_
      with_reducible refine (rule_named_calls _).mono ?_
      rintro e w3 ⟨rfl, hb⟩
      refine ⟨_, rfl, ?_⟩
      have n0_ := Aside0.mk (blk_below BK.out hb)
      have n1_ := Aside0.mk (below_step HB.out hb)
      clear BK HB hb
      have BK := n0_
      have HB := n1_
      clear n0_ n1_
      refine hK.out _ _ ⟨(blk_cell BK.out 0).trans rfl, (blk_cell BK.out 1).trans rfl, (blk_cell BK.out 2).trans rfl, (blk_cell BK.out 3).trans rfl, (blk_cell BK.out 4).trans rfl, (blk_cell BK.out 5).trans rfl, (blk_cell BK.out 6).trans rfl⟩ (fun hHeld => ?_)
      clear hK K
      refine norm_ (a' := ?_) ?_ ?_
      rotate_left
      · show Act.put _ (some 8) _ = _
        simp only [Act.put, List.setIfInBounds_toArray, List.set_cons_zero, List.set_cons_succ, i64_w, i32_w]
        rfl
      refine one_ (i := 3) (N := some 11) #[true, true, true, true, false] rfl rfl (one_of HT_.out (by kernel_rfl)) (by decide) (fun K hK => ?_)
      refine value_ (w1 := ?_) (v := ?_) (by rfl) rfl ?_ ?_
      rotate_left 2
      · go_simp
        constructor
        · rfl
        · rfl
      refine hK.out _ _ ⟨(blk_cell BK.out 0).trans rfl, (blk_cell BK.out 1).trans rfl, (blk_cell BK.out 2).trans rfl, (blk_cell BK.out 3).trans rfl, (blk_cell BK.out 4).trans rfl, (blk_cell BK.out 5).trans rfl, (blk_cell BK.out 6).trans rfl⟩ (fun hHeld => ?_)
      clear hK K
      refine norm_ (a' := ?_) ?_ ?_
      rotate_left
      · show Act.put _ (some 11) _ = _
        simp only [Act.put, List.setIfInBounds_toArray, List.set_cons_zero, List.set_cons_succ, i64_w, i32_w]
        rfl
      refine pure_ (i := 4) (N := some 3) (v := ?_) (a' := ?_) #[true, true, true, true, true] rfl rfl (any_of HT_.out (by kernel_rfl)) (fun _ _ _ h => h) (Or.inl ⟨by rfl, ?_⟩) ?_ ?_
      rotate_left
      · intro w'
        go_simp
        with_reducible rfl
      rotate_left
      · simp only [Act.put, List.setIfInBounds_toArray, List.set_cons_zero, List.set_cons_succ, i64_w, i32_w]
        rfl
      refine done_ (done_of HT_.out (by kernel_rfl)) ?_
      clear hi
      go_upto_region 4 with fail
      have hkw : ruleWords a0 a1 a2 a3 t a6 = [numeral a0, numeral a1, numeral a2, kd, t] := by
        rw [hkd.out]; unfold ruleWords; rw [if_neg h0, List.append_nil]
      have hkw := Aside0.mk hkw
      have n0_ := Aside0.mk (blk_drew BK.out)
      have n1_ := Aside0.mk (below_drew1 HB.out)
      clear BK HB
      have BK := n0_
      have HB := n1_
      clear n0_ n1_
      refine start_ (n := 15) (S := fun w' => w'.cell? ⟨g, 0, none⟩ = some (.int .i64 a0) ∧ w'.cell? ⟨g, 1, none⟩ = some (.int .i64 a1) ∧ w'.cell? ⟨g, 2, none⟩ = some (.int .i64 a2) ∧ w'.cell? ⟨g, 3, none⟩ = some (.int .i64 a3) ∧ w'.cell? ⟨g, 4, none⟩ = some (.int .u32 a4) ∧ w'.cell? ⟨g, 5, none⟩ = some (.int .u32 a5) ∧ w'.cell? ⟨g, 6, none⟩ = some (.int .i64 a6)) (ds := []) #[false, false, false, false, false, false, false, false, false, false, false, false, false, false, false] (by kernel_rfl) rfl rfl ⟨(blk_cell BK.out 0).trans rfl, (blk_cell BK.out 1).trans rfl, (blk_cell BK.out 2).trans rfl, (blk_cell BK.out 3).trans rfl, (blk_cell BK.out 4).trans rfl, (blk_cell BK.out 5).trans rfl, (blk_cell BK.out 6).trans rfl⟩ (fun hHeld => ?_)
      refine with_tabW rule_Text.tab4 rule_Text.bits4 (fun HT_ HW_ => ?_)
      generalize World.drew _ = w7 at BK HB hHeld ⊢
      refine pure_ (i := 0) (N := some 12) (v := ?_) (a' := ?_) #[true, false, false, false, false, false, false, false, false, false, false, false, false, false, false] rfl rfl (any_of HT_.out (by kernel_rfl)) (fun _ _ _ h => h) (Or.inl ⟨by rfl, ?_⟩) ?_ ?_
      rotate_left
      · intro w'
        go_simp
        with_reducible rfl
      rotate_left
      · simp only [Act.put, List.setIfInBounds_toArray, List.set_cons_zero, List.set_cons_succ, i64_w, i32_w]
        rfl
      refine pure_ (i := 3) (N := some 15) (v := ?_) (a' := ?_) #[true, false, false, true, false, false, false, false, false, false, false, false, false, false, false] rfl rfl (any_of HT_.out (by kernel_rfl)) (fun _ _ _ h => h) (Or.inl ⟨by rfl, ?_⟩) ?_ ?_
      rotate_left
      · intro w'
        go_simp
        with_reducible rfl
      rotate_left
      · simp only [Act.put, List.setIfInBounds_toArray, List.set_cons_zero, List.set_cons_succ, i64_w, i32_w]
        rfl
      refine pure_ (i := 6) (N := some 18) (v := ?_) (a' := ?_) #[true, false, false, true, false, false, true, false, false, false, false, false, false, false, false] rfl rfl (any_of HT_.out (by kernel_rfl)) (fun _ _ _ h => h) (Or.inl ⟨by rfl, ?_⟩) ?_ ?_
      rotate_left
      · intro w'
        go_simp
        with_reducible rfl
      rotate_left
      · simp only [Act.put, List.setIfInBounds_toArray, List.set_cons_zero, List.set_cons_succ, i64_w, i32_w]
        rfl
      refine pure_ (i := 9) (N := some 21) (v := ?_) (a' := ?_) #[true, false, false, true, false, false, true, false, false, true, false, false, false, false, false] rfl rfl (any_of HT_.out (by kernel_rfl)) (fun _ _ _ h => h) (Or.inl ⟨by rfl, ?_⟩) ?_ ?_
      rotate_left
      · intro w'
        go_simp
        with_reducible rfl
      rotate_left
      · simp only [Act.put, List.setIfInBounds_toArray, List.set_cons_zero, List.set_cons_succ, i64_w, i32_w]
        rfl
      refine pure_ (i := 10) (N := some 22) (v := ?_) (a' := ?_) #[true, false, false, true, false, false, true, false, false, true, true, false, false, false, false] rfl rfl (any_of HT_.out (by kernel_rfl)) (fun _ _ _ h => h) (Or.inl ⟨by rfl, ?_⟩) ?_ ?_
      rotate_left
      · intro w'
        go_simp
        with_reducible rfl
      rotate_left
      · simp only [Act.put, List.setIfInBounds_toArray, List.set_cons_zero, List.set_cons_succ, i64_w, i32_w]
        rfl
      refine take_ (i := 1) (N := some 13) (v := ?_) (a' := ?_) #[true, true, false, true, false, false, true, false, false, true, true, false, false, false, false] rfl rfl (take_ofW HT_.out HW_.out (by kernel_rfl)) (fun _ _ _ h => h) (Or.inl ⟨by rfl, ?_⟩) hHeld ?_ ?_
      rotate_left
      · rintro w' ⟨s0, s1, s2, s3, s4, s5, s6⟩
        go_simp
        with_reducible rfl
      rotate_left
      · simp only [Act.put, List.setIfInBounds_toArray, List.set_cons_zero, List.set_cons_succ, i64_w, i32_w]
        rfl
      refine take_ (i := 4) (N := some 16) (v := ?_) (a' := ?_) #[true, true, false, true, true, false, true, false, false, true, true, false, false, false, false] rfl rfl (take_ofW HT_.out HW_.out (by kernel_rfl)) (fun _ _ _ h => h) (Or.inl ⟨by rfl, ?_⟩) hHeld ?_ ?_
      rotate_left
      · rintro w' ⟨s0, s1, s2, s3, s4, s5, s6⟩
        go_simp
        with_reducible rfl
      rotate_left
      · simp only [Act.put, List.setIfInBounds_toArray, List.set_cons_zero, List.set_cons_succ, i64_w, i32_w]
        rfl
      refine take_ (i := 7) (N := some 19) (v := ?_) (a' := ?_) #[true, true, false, true, true, false, true, true, false, true, true, false, false, false, false] rfl rfl (take_ofW HT_.out HW_.out (by kernel_rfl)) (fun _ _ _ h => h) (Or.inl ⟨by rfl, ?_⟩) hHeld ?_ ?_
      rotate_left
      · rintro w' ⟨s0, s1, s2, s3, s4, s5, s6⟩
        go_simp
        with_reducible rfl
      rotate_left
      · simp only [Act.put, List.setIfInBounds_toArray, List.set_cons_zero, List.set_cons_succ, i64_w, i32_w]
        rfl
      refine take_ (i := 11) (N := some 23) (v := ?_) (a' := ?_) #[true, true, false, true, true, false, true, true, false, true, true, true, false, false, false] rfl rfl (take_ofW HT_.out HW_.out (by kernel_rfl)) (fun _ _ _ h => h) (Or.inl ⟨by rfl, ?_⟩) hHeld ?_ ?_
      rotate_left
      · rintro w' ⟨s0, s1, s2, s3, s4, s5, s6⟩
        go_simp
        with_reducible rfl
      rotate_left
      · simp only [Act.put, List.setIfInBounds_toArray, List.set_cons_zero, List.set_cons_succ, i64_w, i32_w]
        rfl
      refine one_ (i := 2) (N := some 14) #[true, true, true, true, true, false, true, true, false, true, true, true, false, false, false] rfl rfl (one_of HT_.out (by kernel_rfl)) (by decide) (fun K hK => ?_)
      refine goes_ Tryz.func48 (by kernel_rfl) rfl #[.int .i64 a0] (by rfl) rfl rfl (by simp only [List.map_toArray, List.map_cons, List.map_nil]; rfl) ?_
      with_reducible refine (numeral_calls a0 _ (HLd.below HB.out) b_a0.1 b_a0.2).mono ?_
      rintro e w3 ⟨rfl, hb⟩
      refine ⟨_, rfl, ?_⟩
      have n0_ := Aside0.mk (blk_below BK.out hb)
      have n1_ := Aside0.mk (below_step HB.out hb)
      clear BK HB hb
      have BK := n0_
      have HB := n1_
      clear n0_ n1_
      refine hK.out _ _ ⟨(blk_cell BK.out 0).trans rfl, (blk_cell BK.out 1).trans rfl, (blk_cell BK.out 2).trans rfl, (blk_cell BK.out 3).trans rfl, (blk_cell BK.out 4).trans rfl, (blk_cell BK.out 5).trans rfl, (blk_cell BK.out 6).trans rfl⟩ (fun hHeld => ?_)
      clear hK K
      refine norm_ (a' := ?_) ?_ ?_
      rotate_left
      · show Act.put _ (some 14) _ = _
        simp only [Act.put, List.setIfInBounds_toArray, List.set_cons_zero, List.set_cons_succ, i64_w, i32_w]
        rfl
      refine one_ (i := 5) (N := some 17) #[true, true, true, true, true, true, true, true, false, true, true, true, false, false, false] rfl rfl (one_of HT_.out (by kernel_rfl)) (by decide) (fun K hK => ?_)
      refine goes_ Tryz.func48 (by kernel_rfl) rfl #[.int .i64 a1] (by rfl) rfl rfl (by simp only [List.map_toArray, List.map_cons, List.map_nil]; rfl) ?_
      with_reducible refine (numeral_calls a1 _ (HLd.below HB.out) b_a1.1 b_a1.2).mono ?_
      rintro e w3 ⟨rfl, hb⟩
      refine ⟨_, rfl, ?_⟩
      have n0_ := Aside0.mk (blk_below BK.out hb)
      have n1_ := Aside0.mk (below_step HB.out hb)
      clear BK HB hb
      have BK := n0_
      have HB := n1_
      clear n0_ n1_
      refine hK.out _ _ ⟨(blk_cell BK.out 0).trans rfl, (blk_cell BK.out 1).trans rfl, (blk_cell BK.out 2).trans rfl, (blk_cell BK.out 3).trans rfl, (blk_cell BK.out 4).trans rfl, (blk_cell BK.out 5).trans rfl, (blk_cell BK.out 6).trans rfl⟩ (fun hHeld => ?_)
      clear hK K
      refine norm_ (a' := ?_) ?_ ?_
      rotate_left
      · show Act.put _ (some 17) _ = _
        simp only [Act.put, List.setIfInBounds_toArray, List.set_cons_zero, List.set_cons_succ, i64_w, i32_w]
        rfl
      refine one_ (i := 8) (N := some 20) #[true, true, true, true, true, true, true, true, true, true, true, true, false, false, false] rfl rfl (one_of HT_.out (by kernel_rfl)) (by decide) (fun K hK => ?_)
      refine goes_ Tryz.func48 (by kernel_rfl) rfl #[.int .i64 a2] (by rfl) rfl rfl (by simp only [List.map_toArray, List.map_cons, List.map_nil]; rfl) ?_
      with_reducible refine (numeral_calls a2 _ (HLd.below HB.out) b_a2.1 b_a2.2).mono ?_
      rintro e w3 ⟨rfl, hb⟩
      refine ⟨_, rfl, ?_⟩
      have n0_ := Aside0.mk (blk_below BK.out hb)
      have n1_ := Aside0.mk (below_step HB.out hb)
      clear BK HB hb
      have BK := n0_
      have HB := n1_
      clear n0_ n1_
      refine hK.out _ _ ⟨(blk_cell BK.out 0).trans rfl, (blk_cell BK.out 1).trans rfl, (blk_cell BK.out 2).trans rfl, (blk_cell BK.out 3).trans rfl, (blk_cell BK.out 4).trans rfl, (blk_cell BK.out 5).trans rfl, (blk_cell BK.out 6).trans rfl⟩ (fun hHeld => ?_)
      clear hK K
      refine norm_ (a' := ?_) ?_ ?_
      rotate_left
      · show Act.put _ (some 20) _ = _
        simp only [Act.put, List.setIfInBounds_toArray, List.set_cons_zero, List.set_cons_succ, i64_w, i32_w]
        rfl
      refine one_ (i := 12) (N := some 24) #[true, true, true, true, true, true, true, true, true, true, true, true, true, false, false] rfl rfl (one_of HT_.out (by kernel_rfl)) (by decide) (fun K hK => ?_)
      refine goes_ Tryz.func49 (by kernel_rfl) rfl #[.agg #[.int .u32 a4, .int .u32 a5]] (by rfl) rfl rfl (by simp only [List.map_toArray, List.map_cons, List.map_nil]; rfl) ?_
      with_reducible refine (prefix_RangeText.calls a4 a5 t _ (HLd.below HB.out) hT.out).mono ?_
      rintro e w3 ⟨rfl, hb⟩
      refine ⟨_, rfl, ?_⟩
      have n0_ := Aside0.mk (blk_below BK.out hb)
      have n1_ := Aside0.mk (below_step HB.out hb)
      clear BK HB hb
      have BK := n0_
      have HB := n1_
      clear n0_ n1_
      refine hK.out _ _ ⟨(blk_cell BK.out 0).trans rfl, (blk_cell BK.out 1).trans rfl, (blk_cell BK.out 2).trans rfl, (blk_cell BK.out 3).trans rfl, (blk_cell BK.out 4).trans rfl, (blk_cell BK.out 5).trans rfl, (blk_cell BK.out 6).trans rfl⟩ (fun hHeld => ?_)
      clear hK K
      refine norm_ (a' := ?_) ?_ ?_
      rotate_left
      · show Act.put _ (some 24) _ = _
        simp only [Act.put, List.setIfInBounds_toArray, List.set_cons_zero, List.set_cons_succ, i64_w, i32_w]
        rfl
      refine one_ (i := 13) (N := some 25) #[true, true, true, true, true, true, true, true, true, true, true, true, true, true, false] rfl rfl (one_of HT_.out (by kernel_rfl)) (by decide) (fun K hK => ?_)
      refine value_ (w1 := ?_) (v := ?_) (by rfl) rfl ?_ ?_
      rotate_left 2
      · go_simp
        constructor
        · rfl
        · rfl
      have n0_ := Aside0.mk (blk_alloc BK.out (.cells #[.string (numeral a0), .string (numeral a1), .string (numeral a2), .string kd, .string t] 9))
      have HO : Aside0 (Kd.R Kd.string 9 (w3.alloc (.cells #[.string (numeral a0), .string (numeral a1), .string (numeral a2), .string kd, .string t] 9)) w.heap.size (fun _ => True) (.slice (some ⟨w3.heap.size, 0, none⟩) 5 5) [numeral a0, numeral a1, numeral a2, kd, t]) := ⟨R_new_row' Value.string (fun _ => rfl) w3 w.heap.size (below_size HB.out) 9 [numeral a0, numeral a1, numeral a2, kd, t] (show (5 : Nat) ≤ 9223372036854775807 by decide)⟩
      have n1_ := Aside0.mk (below_alloc HB.out (.cells #[.string (numeral a0), .string (numeral a1), .string (numeral a2), .string kd, .string t] 9))
      clear BK HB
      have BK := n0_
      have HB := n1_
      clear n0_ n1_
      refine hK.out _ _ ⟨(blk_cell BK.out 0).trans rfl, (blk_cell BK.out 1).trans rfl, (blk_cell BK.out 2).trans rfl, (blk_cell BK.out 3).trans rfl, (blk_cell BK.out 4).trans rfl, (blk_cell BK.out 5).trans rfl, (blk_cell BK.out 6).trans rfl⟩ (fun hHeld => ?_)
      clear hK K
      refine norm_ (a' := ?_) ?_ ?_
      rotate_left
      · show Act.put _ (some 25) _ = _
        simp only [Act.put, List.setIfInBounds_toArray, List.set_cons_zero, List.set_cons_succ, i64_w, i32_w]
        rfl
      refine pure_ (i := 14) (N := some 4) (v := ?_) (a' := ?_) #[true, true, true, true, true, true, true, true, true, true, true, true, true, true, true] rfl rfl (any_of HT_.out (by kernel_rfl)) (fun _ _ _ h => h) (Or.inl ⟨by rfl, ?_⟩) ?_ ?_
      rotate_left
      · intro w'
        go_simp
        with_reducible rfl
      rotate_left
      · simp only [Act.put, List.setIfInBounds_toArray, List.set_cons_zero, List.set_cons_succ, i64_w, i32_w]
        rfl
      refine done_ (done_of HT_.out (by kernel_rfl)) ?_
      generalize World.alloc _ _ = w8 at HO BK HB ⊢
      have hc3 := (blk_cell BK.out 3).trans (show _ = some (Value.int .i64 a3) from rfl)
      have hf3 := blk_frozen BK.out 3
      obtain ⟨AA, cc, hv, hcc, hC⟩ := Kd.R_reads HO.out
      cases hv
      have CJ := Lib.hid (join_calls _ _ [numeral a0, numeral a1, numeral a2, kd, t] ⟨#[32]⟩ w8 hC hcc (show (5 : Nat) ≤ 140737488355328 by decide) (by rw [← hkw.out]; exact ruleWords_len a0 a1 a2 a3 t a6 b_a0 b_a1 b_a2 b_a6 hts))
      clear hC hcc
      go_wp2_with (go_at_call 50; refine CJ.out.mono ?_; rintro e w9 ⟨rfl, hb1⟩)
      go_ret
      exact ⟨by have := hr.out; rw [hkw.out] at this; exact congrArg (fun x => Ending.returned (.string x)) this, HB.out.trans (hb1.mono HB.out.size)⟩

end Go.Proofs.YtfjamikpahmfhaaGreatDoor.P
