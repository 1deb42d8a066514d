/- Texts of the session's and of the print's, put together by a program. -/
import Derived.Test.YtfjamikpahmfhaaGreatDoorQT1
set_option linter.unusedVariables false
set_option linter.unusedSimpArgs false
section
open List renaming map_toArray → mA_, map_cons → mC_, map_nil → mN_, length_drop → lD_, length_take → lT_, setIfInBounds_toArray → sI_, set_cons_zero → z0_, set_cons_succ → z1_
namespace Go.Proofs.YtfjamikpahmfhaaGreatDoor.P
open Go.RowKit Go.Proofs.YtfjamikpahmfhaaGreatDoorW.PrintWords Go.Proofs.YtfjamikpahmfhaaGreatDoorW.PrintLast Go.Proofs.YtfjamikpahmfhaaGreatDoorW.PrintMore
set_option linter.unusedVariables false
set_option linter.unusedSimpArgs false
theorem R_new_row' {α : Type} (enc : α → Value) (h1 : ∀ x, (enc x).oneCell' = true) (w : World) (base : Nat) (hbase : base ≤ w.heap.size) (e : Nat) (xs : List α) (hl : xs.length ≤ 9223372036854775807) :
  (Kd.scalar enc h1).R e (w.alloc (.cells (xs.map enc).toArray e)) base (fun _ => True) (.slice (some ⟨w.heap.size, 0, none⟩) xs.length xs.length) xs := by
 refine ⟨fun _ _ => trivial, xs.map enc, ?_, ?_⟩
 ·have h2 := World.ownsRow_lit (base := base) (e := e) (size := 1) w (xs.map enc).toArray xs.length hbase (by simpa [maxLen] using hl) (by simp)
  simpa [Kd.scalar] using h2
 ·exact Kd.reps_scalar xs
theorem numeral_calls (n : Int) (w : World) (HLd : Laid w) (h0 : -9223372036854775808 ≤ n) (h1 : n ≤ 9223372036854775807) :
  Calls Tryz.prog 48 #[.int .i64 n] w fun e w' => e = .returned (.string (numeral n)) ∧ Below w.heap.size w w' := itoa_calls n w HLd h0 h1
def wForward : ByteArray := ⟨#[102, 111, 114, 119, 97, 114, 100]⟩
def wDrop : ByteArray := ⟨#[100, 114, 111, 112]⟩
def wPermit : ByteArray := ⟨#[112, 101, 114, 109, 105, 116]⟩
def wDeny : ByteArray := ⟨#[100, 101, 110, 121]⟩
def ruleKind (k : Int) : ByteArray := if k = 0 then wForward else if k = 1 then wDrop else if k = 2 then wPermit else if k = 3 then wDeny else ⟨#[]⟩
def kindWords : Value := .agg #[.string wForward, .string wDrop, .string wPermit, .string wDeny]
theorem results_c {P : Program} {fn : Func} {p : Tmp} {ty : TypeId} (h : fn.results = #[.cell p ty]) (tmps : Array Value) (w : World) (g : Nat) (t : TypeId) (cs : Array Value) (fr : Nat × Nat) (d : TypeDesc)
  (hp : tmps.getD p undef = .pointer (some ⟨g, 0, none⟩)) (hg : w.heap[g]? = some (.cells cs t fr))
  (hu : P.underlying ty = some d) (hd : (match d with | .struct _ | .array _ _ => true | _ => false) = true) (hi : (P.info? ty).map (·.size) = some cs.size) :
  (results fn tmps).run P w = .ok (.agg cs) w := by
 have hp' : tmps[p]?.getD undef = .pointer (some ⟨g, 0, none⟩) := by simpa using hp
 simp [results, h, hp', asAddr, run_loadVar_row w g t ty cs fr d hg hu hd hi]
theorem rule_named_calls (w : World) : Calls Tryz.prog 47 #[] w fun e w' => e = .returned kindWords ∧ Below w.heap.size w w' := by
 have HB := Below.refl w.heap.size w
 go_enter Tryz.func47, Tryz.ntmps47
 go_wp2_with fail
 refine bodyPost_ret (results_c rfl _ _ w.heap.size 93 #[.string wForward, .string wDrop, .string wPermit, .string wDeny] (0, 0) _ rfl (by first | exact blk_new w _ | trace_state) Tryz.underlying93 rfl (by kernel_rfl)) rfl ?_
 exact ⟨rfl, by repeat (first | exact HB | apply below_alloc)⟩
def ruleWords (a0 a1 a2 a3 : Int) (t : ByteArray) (a6 : Int) : List ByteArray := [numeral a0, numeral a1, numeral a2, ruleKind a3, t] ++ (if a3 = 0 then [numeral a6] else [])
def rule_Text.f (a0 a1 a2 a3 a4 a5 a6 : Int) : Option ByteArray :=
 if (-9223372036854775808 ≤ a0 ∧ a0 ≤ 9223372036854775807) ∧ (-9223372036854775808 ≤ a1 ∧ a1 ≤ 9223372036854775807) ∧ (-9223372036854775808 ≤ a2 ∧ a2 ≤ 9223372036854775807) ∧ (-9223372036854775808 ≤ a6 ∧ a6 ≤ 9223372036854775807) then
  (prefix_RangeText.f a4 a5).bind fun t => if t.size ≤ 1000 then some ⟨(Lib.join ((ruleWords a0 a1 a2 a3 t a6).map fun x => x.data.toList) [32]).toArray⟩ else none
 else none
theorem numeral_len (c : Int) (h0 : -9223372036854775808 ≤ c) (h1 : c ≤ 9223372036854775807) : (numeral c).data.toList.length ≤ 21 := by
 have := Lib.itoa_length_le c h0 h1
 simpa [numeral] using this
theorem ruleKind_len (k : Int) : (ruleKind k).data.toList.length ≤ 7 := by
 unfold ruleKind
 repeat (first | (split) | decide)
theorem ruleWords_len (a0 a1 a2 a3 : Int) (t : ByteArray) (a6 : Int) (b0 : -9223372036854775808 ≤ a0 ∧ a0 ≤ 9223372036854775807) (b1 : -9223372036854775808 ≤ a1 ∧ a1 ≤ 9223372036854775807) (b2 : -9223372036854775808 ≤ a2 ∧ a2 ≤ 9223372036854775807) (b6 : -9223372036854775808 ≤ a6 ∧ a6 ≤ 9223372036854775807) (ht : t.size ≤ 1000) :
  (Lib.join ((ruleWords a0 a1 a2 a3 t a6).map fun x => x.data.toList) [32]).length ≤ 140737488355328 := by
 have l0 := numeral_len a0 b0.1 b0.2
 have l1 := numeral_len a1 b1.1 b1.2
 have l2 := numeral_len a2 b2.1 b2.2
 have l6 := numeral_len a6 b6.1 b6.2
 have lk := ruleKind_len a3
 have lt : t.data.toList.length ≤ 1000 := ht
 unfold ruleWords
 split
 all_goals
  simp only [List.cons_append, List.nil_append, List.map_cons, List.map_nil, Lib.join_cons, Lib.joinTail, List.flatten_cons, List.flatten_nil, List.length_append, List.length_cons, List.length_nil]
  omega
def rule_Text.T3 : Bool × List (List Nat × List Nat) := (true, [([], []), ([], []), ([1], [1]), ([0, 2], [0, 2]), ([3, 0, 0, 1, 2, 3], [3])])
def rule_Text.B3 : List Nat := [0, 0, 2, 7, 15]
theorem rule_Text.tab3 : rtab .any (opsOf Tryz.f11 3) = rule_Text.T3 := by kernel_rfl
theorem rule_Text.bits3 : waitsOk rule_Text.T3.2 rule_Text.B3 = true := by kernel_rfl
def rule_Text.T4 : Bool × List (List Nat × List Nat) := (true, [([], []), ([0], [0]), ([1], [1]), ([], []), ([3], [3]), ([4, 2], [4]), ([], []), ([6], [6]), ([7, 5], [7]), ([], []), ([], []), ([10], [10]), ([11, 8], [11]), ([2, 5, 8, 9, 12], [2, 5, 8, 9, 12]), ([13, 12, 0, 1, 2, 3, 4, 5, 6, 7, 8, 9, 10, 11, 12, 13], [13])])
def rule_Text.B4 : List Nat := [0, 1, 3, 0, 8, 31, 0, 64, 255, 0, 0, 1024, 3583, 8191, 16383]
theorem rule_Text.tab4 : rtab .any (opsOf Tryz.f11 4) = rule_Text.T4 := by kernel_rfl
theorem rule_Text.bits4 : waitsOk rule_Text.T4.2 rule_Text.B4 = true := by kernel_rfl
set_option maxHeartbeats 8000000 in
set_option maxRecDepth 100000 in
theorem rule_Text.calls (a0 a1 a2 a3 a4 a5 a6 : Int) (r : ByteArray) (w : World) (HLd : Laid w) (h : rule_Text.f a0 a1 a2 a3 a4 a5 a6 = some r) :
  Calls Tryz.prog 11 #[.agg #[.int .i64 a0, .int .i64 a1, .int .i64 a2, .int .i64 a3, .int .u32 a4, .int .u32 a5, .int .i64 a6]] w fun e w' => e = .returned (.string r) ∧ Below w.heap.size w w' := by
 unfold rule_Text.f at h
 split at h
 case isFalse => cases h
 rename_i hb
 obtain ⟨b_a0, b_a1, b_a2, b_a6⟩ := hb
 obtain ⟨t, hT0, h2⟩ := Option.bind_eq_some_iff.mp h
 clear h
 have hT := Aside0.mk hT0
 clear hT0
 split at h2
 case isFalse => cases h2
 rename_i hts
 have hr := Lib.hid (Option.some.inj h2)
 clear h2
 have hu45 := Tryz.underlying27
 have hu26 := Tryz.underlying25
 have hu58 := Tryz.underlying88
 obtain ⟨q, kd, hq, hkd, hi, hn⟩ : ∃ (q : Bool) (kd : ByteArray), rule_within.f a3 0 3 = some q ∧ Aside0 (kd = ruleKind a3) ∧ (q = true → ∀ W : World, (Instr.index 93 kindWords (.int .i64 a3)).run Tryz.prog W = .ok (.string kd) W) ∧ (q = false → kd = ⟨#[]⟩ ∧ a3 ≠ 0) := by
  by_cases hk : 0 ≤ a3 ∧ a3 ≤ 3
  ·refine ⟨true, ruleKind a3, ?_, ⟨rfl⟩, fun _ => ?_, fun h => by cases h⟩
   ·unfold rule_within.f
    rw [if_pos hk.1, decide_eq_true hk.2]
   ·obtain rfl | rfl | rfl | rfl : a3 = 0 ∨ a3 = 1 ∨ a3 = 2 ∨ a3 = 3 := by omega
    all_goals exact fun _ => by kernel_rfl
  ·refine ⟨false, ruleKind a3, ?_, ⟨rfl⟩, fun h => by (cases h), fun _ => ⟨?_, by omega⟩⟩
   ·unfold rule_within.f
    split
    ·rw [decide_eq_false (by omega)]
    ·rfl
   ·unfold ruleKind
    rw [if_neg (by omega), if_neg (by omega), if_neg (by omega), if_neg (by omega)]
 have HB := Aside0.mk (Below.refl w.heap.size w)
 go_enter Tryz.func11, Tryz.ntmps11
 cases q
 ·obtain ⟨hkd0, hne⟩ := hn rfl
  have e1 : (a3 == 0) = false := by simpa using hne
  have e2 : decide (a3 = 0) = false := decide_eq_false hne
  have e3 : (a3 = 0) = False := eq_false hne
  go_upto_region 4 with (first | ((with_reducible refine gate_dst (N := 1) rfl ?_); refine box_event ?hg (N := 1) ?hd (cs := #[.int .i64 a0, .int .i64 a1, .int .i64 a2, .int .i64 a3, .int .u32 a4, .int .u32 a5, .int .i64 a6]) (t := 27) ?hr ?_; (case hd => rfl); (case hg => rfl); (case hr => first | (go_simp; done) | (go_simp; rfl)); intro g hg w6 hbox hb; have BK := Aside0.mk hbox; have n1_ := Aside0.mk (below_step HB.out hb); have GE := Aside0.mk (show w.heap.size ≤ g by rw [hg]; exact below_size HB.out); clear HB; have HB := n1_; clear n1_ hb hbox hg; have hc3 := (blk_cell BK.out 3).trans (show _ = some (Value.int .i64 a3) from rfl); have hf3 := blk_frozen BK.out 3) | (go_at_call 46; refine (rule_within.calls _ _ _ _ _ hq).mono ?_; rintro e w3 ⟨rfl, ⟨m, rfl⟩⟩; have n0_ := Aside0.mk (blk_drewN BK.out m); have n1_ := Aside0.mk (pw_below_drewN HB.out m); clear BK HB; have BK := n0_; have HB := n1_; clear n0_ n1_))
  clear hc3 hf3
  rw [show Value.string ⟨#[]⟩ = Value.string kd by rw [hkd0]]
  clear hkd0 hi hn
  have hkw : ruleWords a0 a1 a2 a3 t a6 = [numeral a0, numeral a1, numeral a2, kd, t] := by
   rw [hkd.out]; unfold ruleWords; rw [if_neg hne, List.append_nil]
  have hkw := Aside0.mk hkw
  have n0_ := Aside0.mk (blk_drew BK.out)
  have n1_ := Aside0.mk (below_drew1 HB.out)
  clear BK HB
  have BK := n0_
  have HB := n1_
  clear n0_ n1_
  refine start_ (n := 15) (S := fun w' => w'.cell? ⟨g, 0, none⟩ = some (.int .i64 a0) ∧ w'.cell? ⟨g, 1, none⟩ = some (.int .i64 a1) ∧ w'.cell? ⟨g, 2, none⟩ = some (.int .i64 a2) ∧ w'.cell? ⟨g, 3, none⟩ = some (.int .i64 a3) ∧ w'.cell? ⟨g, 4, none⟩ = some (.int .u32 a4) ∧ w'.cell? ⟨g, 5, none⟩ = some (.int .u32 a5) ∧ w'.cell? ⟨g, 6, none⟩ = some (.int .i64 a6)) (ds := []) #[false, false, false, false, false, false, false, false, false, false, false, false, false, false, false] (by kernel_rfl) rfl rfl ⟨(blk_cell BK.out 0).trans rfl, (blk_cell BK.out 1).trans rfl, (blk_cell BK.out 2).trans rfl, (blk_cell BK.out 3).trans rfl, (blk_cell BK.out 4).trans rfl, (blk_cell BK.out 5).trans rfl, (blk_cell BK.out 6).trans rfl⟩ (fun hHeld => ?_)
  refine with_tabW rule_Text.tab4 rule_Text.bits4 (fun HT_ HW_ => ?_)
  generalize World.drew _ = w7 at BK HB hHeld ⊢
  refine pure_ (i := 0) (N := some 12) (v := ?_) (a' := ?_) #[true, false, false, false, false, false, false, false, false, false, false, false, false, false, false] rfl rfl (any_of HT_.out (by kernel_rfl)) (fun _ _ _ h => h) (Or.inl ⟨by rfl, ?_⟩) ?_ ?_
  rotate_left
  ·intro w'
   go_simp
   with_reducible rfl
  rotate_left
  ·simp only [Act.put, sI_, z0_, z1_, i64_w, i32_w]
   rfl
  refine pure_ (i := 3) (N := some 15) (v := ?_) (a' := ?_) #[true, false, false, true, false, false, false, false, false, false, false, false, false, false, false] rfl rfl (any_of HT_.out (by kernel_rfl)) (fun _ _ _ h => h) (Or.inl ⟨by rfl, ?_⟩) ?_ ?_
  rotate_left
  ·intro w'
   go_simp
   with_reducible rfl
  rotate_left
  ·simp only [Act.put, sI_, z0_, z1_, i64_w, i32_w]
   rfl
  refine pure_ (i := 6) (N := some 18) (v := ?_) (a' := ?_) #[true, false, false, true, false, false, true, false, false, false, false, false, false, false, false] rfl rfl (any_of HT_.out (by kernel_rfl)) (fun _ _ _ h => h) (Or.inl ⟨by rfl, ?_⟩) ?_ ?_
  rotate_left
  ·intro w'
   go_simp
   with_reducible rfl
  rotate_left
  ·simp only [Act.put, sI_, z0_, z1_, i64_w, i32_w]
   rfl
  refine pure_ (i := 9) (N := some 21) (v := ?_) (a' := ?_) #[true, false, false, true, false, false, true, false, false, true, false, false, false, false, false] rfl rfl (any_of HT_.out (by kernel_rfl)) (fun _ _ _ h => h) (Or.inl ⟨by rfl, ?_⟩) ?_ ?_
  rotate_left
  ·intro w'
   go_simp
   with_reducible rfl
  rotate_left
  ·simp only [Act.put, sI_, z0_, z1_, i64_w, i32_w]
   rfl
  refine pure_ (i := 10) (N := some 22) (v := ?_) (a' := ?_) #[true, false, false, true, false, false, true, false, false, true, true, false, false, false, false] rfl rfl (any_of HT_.out (by kernel_rfl)) (fun _ _ _ h => h) (Or.inl ⟨by rfl, ?_⟩) ?_ ?_
  rotate_left
  ·intro w'
   go_simp
   with_reducible rfl
  rotate_left
  ·simp only [Act.put, sI_, z0_, z1_, i64_w, i32_w]
   rfl
  refine take_ (i := 1) (N := some 13) (v := ?_) (a' := ?_) #[true, true, false, true, false, false, true, false, false, true, true, false, false, false, false] rfl rfl (take_ofW HT_.out HW_.out (by kernel_rfl)) (fun _ _ _ h => h) (Or.inl ⟨by rfl, ?_⟩) hHeld ?_ ?_
  rotate_left
  ·rintro w' ⟨s0, s1, s2, s3, s4, s5, s6⟩
   go_simp
   with_reducible rfl
  rotate_left
  ·simp only [Act.put, sI_, z0_, z1_, i64_w, i32_w]
   rfl
  refine take_ (i := 4) (N := some 16) (v := ?_) (a' := ?_) #[true, true, false, true, true, false, true, false, false, true, true, false, false, false, false] rfl rfl (take_ofW HT_.out HW_.out (by kernel_rfl)) (fun _ _ _ h => h) (Or.inl ⟨by rfl, ?_⟩) hHeld ?_ ?_
  rotate_left
  ·rintro w' ⟨s0, s1, s2, s3, s4, s5, s6⟩
   go_simp
   with_reducible rfl
  rotate_left
  ·simp only [Act.put, sI_, z0_, z1_, i64_w, i32_w]
   rfl
  refine take_ (i := 7) (N := some 19) (v := ?_) (a' := ?_) #[true, true, false, true, true, false, true, true, false, true, true, false, false, false, false] rfl rfl (take_ofW HT_.out HW_.out (by kernel_rfl)) (fun _ _ _ h => h) (Or.inl ⟨by rfl, ?_⟩) hHeld ?_ ?_
  rotate_left
  ·rintro w' ⟨s0, s1, s2, s3, s4, s5, s6⟩
   go_simp
   with_reducible rfl
  rotate_left
  ·simp only [Act.put, sI_, z0_, z1_, i64_w, i32_w]
   rfl
  refine take_ (i := 11) (N := some 23) (v := ?_) (a' := ?_) #[true, true, false, true, true, false, true, true, false, true, true, true, false, false, false] rfl rfl (take_ofW HT_.out HW_.out (by kernel_rfl)) (fun _ _ _ h => h) (Or.inl ⟨by rfl, ?_⟩) hHeld ?_ ?_
  rotate_left
  ·rintro w' ⟨s0, s1, s2, s3, s4, s5, s6⟩
   go_simp
   with_reducible rfl
  rotate_left
  ·simp only [Act.put, sI_, z0_, z1_, i64_w, i32_w]
   rfl
  refine one_ (i := 2) (N := some 14) #[true, true, true, true, true, false, true, true, false, true, true, true, false, false, false] rfl rfl (one_of HT_.out (by kernel_rfl)) (by decide) (fun K hK => ?_)
  refine goes_ Tryz.func48 (by kernel_rfl) rfl #[.int .i64 a0] (by rfl) rfl rfl (by simp only [mA_, mC_, mN_]; rfl) ?_
  with_reducible refine (numeral_calls a0 _ (HLd.below HB.out) b_a0.1 b_a0.2).mono ?_
  rintro e w3 ⟨rfl, hb⟩
  refine ⟨_, rfl, ?_⟩
  have n0_ := Aside0.mk (blk_below BK.out hb)
  have n1_ := Aside0.mk (below_step HB.out hb)
  clear BK HB hb
  have BK := n0_
  have HB := n1_
  clear n0_ n1_
  refine hK.out _ _ ⟨(blk_cell BK.out 0).trans rfl, (blk_cell BK.out 1).trans rfl, (blk_cell BK.out 2).trans rfl, (blk_cell BK.out 3).trans rfl, (blk_cell BK.out 4).trans rfl, (blk_cell BK.out 5).trans rfl, (blk_cell BK.out 6).trans rfl⟩ (fun hHeld => ?_)
  clear hK K
  refine norm_ (a' := ?_) ?_ ?_
  rotate_left
  ·show Act.put _ (some 14) _ = _
   simp only [Act.put, sI_, z0_, z1_, i64_w, i32_w]
   rfl
  refine one_ (i := 5) (N := some 17) #[true, true, true, true, true, true, true, true, false, true, true, true, false, false, false] rfl rfl (one_of HT_.out (by kernel_rfl)) (by decide) (fun K hK => ?_)
  refine goes_ Tryz.func48 (by kernel_rfl) rfl #[.int .i64 a1] (by rfl) rfl rfl (by simp only [mA_, mC_, mN_]; rfl) ?_
  with_reducible refine (numeral_calls a1 _ (HLd.below HB.out) b_a1.1 b_a1.2).mono ?_
  rintro e w3 ⟨rfl, hb⟩
  refine ⟨_, rfl, ?_⟩
  have n0_ := Aside0.mk (blk_below BK.out hb)
  have n1_ := Aside0.mk (below_step HB.out hb)
  clear BK HB hb
  have BK := n0_
  have HB := n1_
  clear n0_ n1_
  refine hK.out _ _ ⟨(blk_cell BK.out 0).trans rfl, (blk_cell BK.out 1).trans rfl, (blk_cell BK.out 2).trans rfl, (blk_cell BK.out 3).trans rfl, (blk_cell BK.out 4).trans rfl, (blk_cell BK.out 5).trans rfl, (blk_cell BK.out 6).trans rfl⟩ (fun hHeld => ?_)
  clear hK K
  refine norm_ (a' := ?_) ?_ ?_
  rotate_left
  ·show Act.put _ (some 17) _ = _
   simp only [Act.put, sI_, z0_, z1_, i64_w, i32_w]
   rfl
  refine one_ (i := 8) (N := some 20) #[true, true, true, true, true, true, true, true, true, true, true, true, false, false, false] rfl rfl (one_of HT_.out (by kernel_rfl)) (by decide) (fun K hK => ?_)
  refine goes_ Tryz.func48 (by kernel_rfl) rfl #[.int .i64 a2] (by rfl) rfl rfl (by simp only [mA_, mC_, mN_]; rfl) ?_
  with_reducible refine (numeral_calls a2 _ (HLd.below HB.out) b_a2.1 b_a2.2).mono ?_
  rintro e w3 ⟨rfl, hb⟩
  refine ⟨_, rfl, ?_⟩
  have n0_ := Aside0.mk (blk_below BK.out hb)
  have n1_ := Aside0.mk (below_step HB.out hb)
  clear BK HB hb
  have BK := n0_
  have HB := n1_
  clear n0_ n1_
  refine hK.out _ _ ⟨(blk_cell BK.out 0).trans rfl, (blk_cell BK.out 1).trans rfl, (blk_cell BK.out 2).trans rfl, (blk_cell BK.out 3).trans rfl, (blk_cell BK.out 4).trans rfl, (blk_cell BK.out 5).trans rfl, (blk_cell BK.out 6).trans rfl⟩ (fun hHeld => ?_)
  clear hK K
  refine norm_ (a' := ?_) ?_ ?_
  rotate_left
  ·show Act.put _ (some 20) _ = _
   simp only [Act.put, sI_, z0_, z1_, i64_w, i32_w]
   rfl
  refine one_ (i := 12) (N := some 24) #[true, true, true, true, true, true, true, true, true, true, true, true, true, false, false] rfl rfl (one_of HT_.out (by kernel_rfl)) (by decide) (fun K hK => ?_)
  refine goes_ Tryz.func49 (by kernel_rfl) rfl #[.agg #[.int .u32 a4, .int .u32 a5]] (by rfl) rfl rfl (by simp only [mA_, mC_, mN_]; rfl) ?_
  with_reducible refine (prefix_RangeText.calls a4 a5 t _ (HLd.below HB.out) hT.out).mono ?_
  rintro e w3 ⟨rfl, hb⟩
  refine ⟨_, rfl, ?_⟩
  have n0_ := Aside0.mk (blk_below BK.out hb)
  have n1_ := Aside0.mk (below_step HB.out hb)
  clear BK HB hb
  have BK := n0_
  have HB := n1_
  clear n0_ n1_
  refine hK.out _ _ ⟨(blk_cell BK.out 0).trans rfl, (blk_cell BK.out 1).trans rfl, (blk_cell BK.out 2).trans rfl, (blk_cell BK.out 3).trans rfl, (blk_cell BK.out 4).trans rfl, (blk_cell BK.out 5).trans rfl, (blk_cell BK.out 6).trans rfl⟩ (fun hHeld => ?_)
  clear hK K
  refine norm_ (a' := ?_) ?_ ?_
  rotate_left
  ·show Act.put _ (some 24) _ = _
   simp only [Act.put, sI_, z0_, z1_, i64_w, i32_w]
   rfl
  refine one_ (i := 13) (N := some 25) #[true, true, true, true, true, true, true, true, true, true, true, true, true, true, false] rfl rfl (one_of HT_.out (by kernel_rfl)) (by decide) (fun K hK => ?_)
  refine value_ (w1 := ?_) (v := ?_) (by rfl) rfl ?_ ?_
  rotate_left 2
  ·go_simp
   constructor
   ·rfl
   ·rfl
  have n0_ := Aside0.mk (blk_alloc BK.out (.cells #[.string (numeral a0), .string (numeral a1), .string (numeral a2), .string kd, .string t] 9))
  have HO : Aside0 (Kd.R Kd.string 9 (w3.alloc (.cells #[.string (numeral a0), .string (numeral a1), .string (numeral a2), .string kd, .string t] 9)) w.heap.size (fun _ => True) (.slice (some ⟨w3.heap.size, 0, none⟩) 5 5) [numeral a0, numeral a1, numeral a2, kd, t]) := ⟨R_new_row' Value.string (fun _ => rfl) w3 w.heap.size (below_size HB.out) 9 [numeral a0, numeral a1, numeral a2, kd, t] (show (5 : Nat) ≤ 9223372036854775807 by decide)⟩
  have n1_ := Aside0.mk (below_alloc HB.out (.cells #[.string (numeral a0), .string (numeral a1), .string (numeral a2), .string kd, .string t] 9))
  clear BK HB
  have BK := n0_
  have HB := n1_
  clear n0_ n1_
  refine hK.out _ _ ⟨(blk_cell BK.out 0).trans rfl, (blk_cell BK.out 1).trans rfl, (blk_cell BK.out 2).trans rfl, (blk_cell BK.out 3).trans rfl, (blk_cell BK.out 4).trans rfl, (blk_cell BK.out 5).trans rfl, (blk_cell BK.out 6).trans rfl⟩ (fun hHeld => ?_)
  clear hK K
  refine norm_ (a' := ?_) ?_ ?_
  rotate_left
  ·show Act.put _ (some 25) _ = _
   simp only [Act.put, sI_, z0_, z1_, i64_w, i32_w]
   rfl
  refine pure_ (i := 14) (N := some 4) (v := ?_) (a' := ?_) #[true, true, true, true, true, true, true, true, true, true, true, true, true, true, true] rfl rfl (any_of HT_.out (by kernel_rfl)) (fun _ _ _ h => h) (Or.inl ⟨by rfl, ?_⟩) ?_ ?_
  rotate_left
  ·intro w'
   go_simp
   with_reducible rfl
  rotate_left
  ·simp only [Act.put, sI_, z0_, z1_, i64_w, i32_w]
   rfl
  refine done_ (done_of HT_.out (by kernel_rfl)) ?_
  generalize World.alloc _ _ = w8 at HO BK HB ⊢
  have hc3 := (blk_cell BK.out 3).trans (show _ = some (Value.int .i64 a3) from rfl)
  have hf3 := blk_frozen BK.out 3
  obtain ⟨AA, cc, hv, hcc, hC⟩ := Kd.R_reads HO.out
  cases hv
  have CJ := Lib.hid (join_calls _ _ [numeral a0, numeral a1, numeral a2, kd, t] ⟨#[32]⟩ w8 hC hcc (show (5 : Nat) ≤ 140737488355328 by decide) (by rw [← hkw.out]; exact ruleWords_len a0 a1 a2 a3 t a6 b_a0 b_a1 b_a2 b_a6 hts))
  clear hC hcc
  go_wp2_with (go_at_call 50; refine CJ.out.mono ?_; rintro e w9 ⟨rfl, hb1⟩)
  go_ret
  exact ⟨by have := hr.out; rw [hkw.out] at this; exact congrArg (fun x => Ending.returned (.string x)) this, HB.out.trans (hb1.mono HB.out.size)⟩
 ·by_cases h0 : a3 = 0
  ·subst h0
   go_upto_region 3 with (first | ((with_reducible refine gate_dst (N := 1) rfl ?_); refine box_event ?hg (N := 1) ?hd (cs := #[.int .i64 a0, .int .i64 a1, .int .i64 a2, .int .i64 0, .int .u32 a4, .int .u32 a5, .int .i64 a6]) (t := 27) ?hr ?_; (case hd => rfl); (case hg => rfl); (case hr => first | (go_simp; done) | (go_simp; rfl)); intro g hg w6 hbox hb; have BK := Aside0.mk hbox; have n1_ := Aside0.mk (below_step HB.out hb); have GE := Aside0.mk (show w.heap.size ≤ g by rw [hg]; exact below_size HB.out); clear HB; have HB := n1_; clear n1_ hb hbox hg; have hc3 := (blk_cell BK.out 3).trans (show _ = some (Value.int .i64 0) from rfl); have hf3 := blk_frozen BK.out 3) | (go_at_call 46; refine (rule_within.calls _ _ _ _ _ hq).mono ?_; rintro e w3 ⟨rfl, ⟨m, rfl⟩⟩; have n0_ := Aside0.mk (blk_drewN BK.out m); have n1_ := Aside0.mk (pw_below_drewN HB.out m); clear BK HB; have BK := n0_; have HB := n1_; clear n0_ n1_))
   clear hc3 hf3
   have hi := hi trivial
   clear hn
   have n0_ := Aside0.mk (blk_drew BK.out)
   have n1_ := Aside0.mk (below_drew1 HB.out)
   clear BK HB
   have BK := n0_
   have HB := n1_
   clear n0_ n1_
   refine start_ (n := 5) (S := fun w' => w'.cell? ⟨g, 0, none⟩ = some (.int .i64 a0) ∧ w'.cell? ⟨g, 1, none⟩ = some (.int .i64 a1) ∧ w'.cell? ⟨g, 2, none⟩ = some (.int .i64 a2) ∧ w'.cell? ⟨g, 3, none⟩ = some (.int .i64 0) ∧ w'.cell? ⟨g, 4, none⟩ = some (.int .u32 a4) ∧ w'.cell? ⟨g, 5, none⟩ = some (.int .u32 a5) ∧ w'.cell? ⟨g, 6, none⟩ = some (.int .i64 a6)) (ds := []) #[false, false, false, false, false] (by kernel_rfl) rfl rfl ⟨(blk_cell BK.out 0).trans rfl, (blk_cell BK.out 1).trans rfl, (blk_cell BK.out 2).trans rfl, (blk_cell BK.out 3).trans rfl, (blk_cell BK.out 4).trans rfl, (blk_cell BK.out 5).trans rfl, (blk_cell BK.out 6).trans rfl⟩ (fun hHeld => ?_)
   refine with_tabW rule_Text.tab3 rule_Text.bits3 (fun HT_ HW_ => ?_)
   generalize World.drew _ = w7 at BK HB hHeld ⊢
   refine pure_ (i := 1) (N := some 9) (v := ?_) (a' := ?_) #[false, true, false, false, false] rfl rfl (any_of HT_.out (by kernel_rfl)) (fun _ _ _ h => h) (Or.inl ⟨by rfl, ?_⟩) ?_ ?_
   rotate_left
   ·intro w'
    go_simp
    with_reducible rfl
   rotate_left
   ·simp only [Act.put, sI_, z0_, z1_, i64_w, i32_w]
    rfl
   refine take_ (i := 2) (N := some 10) (v := ?_) (a' := ?_) #[false, true, true, false, false] rfl rfl (take_ofW HT_.out HW_.out (by kernel_rfl)) (fun _ _ _ h => h) (Or.inl ⟨by rfl, ?_⟩) hHeld ?_ ?_
   rotate_left
   ·rintro w' ⟨s0, s1, s2, s3, s4, s5, s6⟩
    go_simp
    with_reducible rfl
   rotate_left
   ·simp only [Act.put, sI_, z0_, z1_, i64_w, i32_w]
    rfl
   refine one_ (i := 0) (N := some 8) #[true, true, true, false, false] rfl rfl (one_of HT_.out (by kernel_rfl)) (by decide) (fun K hK => ?_)
   refine goes_ Tryz.func47 (by kernel_rfl) rfl #[] (by rfl) rfl rfl (by simp only [mA_, mC_, mN_]) ?_
   with_reducible refine (rule_named_calls _).mono ?_
   rintro e w3 ⟨rfl, hb⟩
   refine ⟨_, rfl, ?_⟩
   have n0_ := Aside0.mk (blk_below BK.out hb)
   have n1_ := Aside0.mk (below_step HB.out hb)
   clear BK HB hb
   have BK := n0_
   have HB := n1_
   clear n0_ n1_
   refine hK.out _ _ ⟨(blk_cell BK.out 0).trans rfl, (blk_cell BK.out 1).trans rfl, (blk_cell BK.out 2).trans rfl, (blk_cell BK.out 3).trans rfl, (blk_cell BK.out 4).trans rfl, (blk_cell BK.out 5).trans rfl, (blk_cell BK.out 6).trans rfl⟩ (fun hHeld => ?_)
   clear hK K
   refine norm_ (a' := ?_) ?_ ?_
   rotate_left
   ·show Act.put _ (some 8) _ = _
    simp only [Act.put, sI_, z0_, z1_, i64_w, i32_w]
    rfl
   refine one_ (i := 3) (N := some 11) #[true, true, true, true, false] rfl rfl (one_of HT_.out (by kernel_rfl)) (by decide) (fun K hK => ?_)
   refine value_ (w1 := ?_) (v := ?_) (by rfl) rfl ?_ ?_
   rotate_left 2
   ·go_simp
    constructor
    ·rfl
    ·rfl
   refine hK.out _ _ ⟨(blk_cell BK.out 0).trans rfl, (blk_cell BK.out 1).trans rfl, (blk_cell BK.out 2).trans rfl, (blk_cell BK.out 3).trans rfl, (blk_cell BK.out 4).trans rfl, (blk_cell BK.out 5).trans rfl, (blk_cell BK.out 6).trans rfl⟩ (fun hHeld => ?_)
   clear hK K
   refine norm_ (a' := ?_) ?_ ?_
   rotate_left
   ·show Act.put _ (some 11) _ = _
    simp only [Act.put, sI_, z0_, z1_, i64_w, i32_w]
    rfl
   refine pure_ (i := 4) (N := some 3) (v := ?_) (a' := ?_) #[true, true, true, true, true] rfl rfl (any_of HT_.out (by kernel_rfl)) (fun _ _ _ h => h) (Or.inl ⟨by rfl, ?_⟩) ?_ ?_
   rotate_left
   ·intro w'
    go_simp
    with_reducible rfl
   rotate_left
   ·simp only [Act.put, sI_, z0_, z1_, i64_w, i32_w]
    rfl
   refine done_ (done_of HT_.out (by kernel_rfl)) ?_
   clear hi
   go_upto_region 4 with fail
   have hkw : ruleWords a0 a1 a2 0 t a6 = [numeral a0, numeral a1, numeral a2, kd, t] ++ [numeral a6] := by
    rw [hkd.out]; rfl
   have hkw := Aside0.mk hkw
   have n0_ := Aside0.mk (blk_drew BK.out)
   have n1_ := Aside0.mk (below_drew1 HB.out)
   clear BK HB
   have BK := n0_
   have HB := n1_
   clear n0_ n1_
   refine start_ (n := 15) (S := fun w' => w'.cell? ⟨g, 0, none⟩ = some (.int .i64 a0) ∧ w'.cell? ⟨g, 1, none⟩ = some (.int .i64 a1) ∧ w'.cell? ⟨g, 2, none⟩ = some (.int .i64 a2) ∧ w'.cell? ⟨g, 3, none⟩ = some (.int .i64 0) ∧ w'.cell? ⟨g, 4, none⟩ = some (.int .u32 a4) ∧ w'.cell? ⟨g, 5, none⟩ = some (.int .u32 a5) ∧ w'.cell? ⟨g, 6, none⟩ = some (.int .i64 a6)) (ds := []) #[false, false, false, false, false, false, false, false, false, false, false, false, false, false, false] (by kernel_rfl) rfl rfl ⟨(blk_cell BK.out 0).trans rfl, (blk_cell BK.out 1).trans rfl, (blk_cell BK.out 2).trans rfl, (blk_cell BK.out 3).trans rfl, (blk_cell BK.out 4).trans rfl, (blk_cell BK.out 5).trans rfl, (blk_cell BK.out 6).trans rfl⟩ (fun hHeld => ?_)
   refine with_tabW rule_Text.tab4 rule_Text.bits4 (fun HT_ HW_ => ?_)
   generalize World.drew _ = w7 at BK HB hHeld ⊢
   refine pure_ (i := 0) (N := some 12) (v := ?_) (a' := ?_) #[true, false, false, false, false, false, false, false, false, false, false, false, false, false, false] rfl rfl (any_of HT_.out (by kernel_rfl)) (fun _ _ _ h => h) (Or.inl ⟨by rfl, ?_⟩) ?_ ?_
   rotate_left
   ·intro w'
    go_simp
    with_reducible rfl
   rotate_left
   ·simp only [Act.put, sI_, z0_, z1_, i64_w, i32_w]
    rfl
   refine pure_ (i := 3) (N := some 15) (v := ?_) (a' := ?_) #[true, false, false, true, false, false, false, false, false, false, false, false, false, false, false] rfl rfl (any_of HT_.out (by kernel_rfl)) (fun _ _ _ h => h) (Or.inl ⟨by rfl, ?_⟩) ?_ ?_
   rotate_left
   ·intro w'
    go_simp
    with_reducible rfl
   rotate_left
   ·simp only [Act.put, sI_, z0_, z1_, i64_w, i32_w]
    rfl
   refine pure_ (i := 6) (N := some 18) (v := ?_) (a' := ?_) #[true, false, false, true, false, false, true, false, false, false, false, false, false, false, false] rfl rfl (any_of HT_.out (by kernel_rfl)) (fun _ _ _ h => h) (Or.inl ⟨by rfl, ?_⟩) ?_ ?_
   rotate_left
   ·intro w'
    go_simp
    with_reducible rfl
   rotate_left
   ·simp only [Act.put, sI_, z0_, z1_, i64_w, i32_w]
    rfl
   refine pure_ (i := 9) (N := some 21) (v := ?_) (a' := ?_) #[true, false, false, true, false, false, true, false, false, true, false, false, false, false, false] rfl rfl (any_of HT_.out (by kernel_rfl)) (fun _ _ _ h => h) (Or.inl ⟨by rfl, ?_⟩) ?_ ?_
   rotate_left
   ·intro w'
    go_simp
    with_reducible rfl
   rotate_left
   ·simp only [Act.put, sI_, z0_, z1_, i64_w, i32_w]
    rfl
   refine pure_ (i := 10) (N := some 22) (v := ?_) (a' := ?_) #[true, false, false, true, false, false, true, false, false, true, true, false, false, false, false] rfl rfl (any_of HT_.out (by kernel_rfl)) (fun _ _ _ h => h) (Or.inl ⟨by rfl, ?_⟩) ?_ ?_
   rotate_left
   ·intro w'
    go_simp
    with_reducible rfl
   rotate_left
   ·simp only [Act.put, sI_, z0_, z1_, i64_w, i32_w]
    rfl
   refine take_ (i := 1) (N := some 13) (v := ?_) (a' := ?_) #[true, true, false, true, false, false, true, false, false, true, true, false, false, false, false] rfl rfl (take_ofW HT_.out HW_.out (by kernel_rfl)) (fun _ _ _ h => h) (Or.inl ⟨by rfl, ?_⟩) hHeld ?_ ?_
   rotate_left
   ·rintro w' ⟨s0, s1, s2, s3, s4, s5, s6⟩
    go_simp
    with_reducible rfl
   rotate_left
   ·simp only [Act.put, sI_, z0_, z1_, i64_w, i32_w]
    rfl
   refine take_ (i := 4) (N := some 16) (v := ?_) (a' := ?_) #[true, true, false, true, true, false, true, false, false, true, true, false, false, false, false] rfl rfl (take_ofW HT_.out HW_.out (by kernel_rfl)) (fun _ _ _ h => h) (Or.inl ⟨by rfl, ?_⟩) hHeld ?_ ?_
   rotate_left
   ·rintro w' ⟨s0, s1, s2, s3, s4, s5, s6⟩
    go_simp
    with_reducible rfl
   rotate_left
   ·simp only [Act.put, sI_, z0_, z1_, i64_w, i32_w]
    rfl
   refine take_ (i := 7) (N := some 19) (v := ?_) (a' := ?_) #[true, true, false, true, true, false, true, true, false, true, true, false, false, false, false] rfl rfl (take_ofW HT_.out HW_.out (by kernel_rfl)) (fun _ _ _ h => h) (Or.inl ⟨by rfl, ?_⟩) hHeld ?_ ?_
   rotate_left
   ·rintro w' ⟨s0, s1, s2, s3, s4, s5, s6⟩
    go_simp
    with_reducible rfl
   rotate_left
   ·simp only [Act.put, sI_, z0_, z1_, i64_w, i32_w]
    rfl
   refine take_ (i := 11) (N := some 23) (v := ?_) (a' := ?_) #[true, true, false, true, true, false, true, true, false, true, true, true, false, false, false] rfl rfl (take_ofW HT_.out HW_.out (by kernel_rfl)) (fun _ _ _ h => h) (Or.inl ⟨by rfl, ?_⟩) hHeld ?_ ?_
   rotate_left
   ·rintro w' ⟨s0, s1, s2, s3, s4, s5, s6⟩
    go_simp
    with_reducible rfl
   rotate_left
   ·simp only [Act.put, sI_, z0_, z1_, i64_w, i32_w]
    rfl
   refine one_ (i := 2) (N := some 14) #[true, true, true, true, true, false, true, true, false, true, true, true, false, false, false] rfl rfl (one_of HT_.out (by kernel_rfl)) (by decide) (fun K hK => ?_)
   refine goes_ Tryz.func48 (by kernel_rfl) rfl #[.int .i64 a0] (by rfl) rfl rfl (by simp only [mA_, mC_, mN_]; rfl) ?_
   with_reducible refine (numeral_calls a0 _ (HLd.below HB.out) b_a0.1 b_a0.2).mono ?_
   rintro e w3 ⟨rfl, hb⟩
   refine ⟨_, rfl, ?_⟩
   have n0_ := Aside0.mk (blk_below BK.out hb)
   have n1_ := Aside0.mk (below_step HB.out hb)
   clear BK HB hb
   have BK := n0_
   have HB := n1_
   clear n0_ n1_
   refine hK.out _ _ ⟨(blk_cell BK.out 0).trans rfl, (blk_cell BK.out 1).trans rfl, (blk_cell BK.out 2).trans rfl, (blk_cell BK.out 3).trans rfl, (blk_cell BK.out 4).trans rfl, (blk_cell BK.out 5).trans rfl, (blk_cell BK.out 6).trans rfl⟩ (fun hHeld => ?_)
   clear hK K
   refine norm_ (a' := ?_) ?_ ?_
   rotate_left
   ·show Act.put _ (some 14) _ = _
    simp only [Act.put, sI_, z0_, z1_, i64_w, i32_w]
    rfl
   refine one_ (i := 5) (N := some 17) #[true, true, true, true, true, true, true, true, false, true, true, true, false, false, false] rfl rfl (one_of HT_.out (by kernel_rfl)) (by decide) (fun K hK => ?_)
   refine goes_ Tryz.func48 (by kernel_rfl) rfl #[.int .i64 a1] (by rfl) rfl rfl (by simp only [mA_, mC_, mN_]; rfl) ?_
   with_reducible refine (numeral_calls a1 _ (HLd.below HB.out) b_a1.1 b_a1.2).mono ?_
   rintro e w3 ⟨rfl, hb⟩
   refine ⟨_, rfl, ?_⟩
   have n0_ := Aside0.mk (blk_below BK.out hb)
   have n1_ := Aside0.mk (below_step HB.out hb)
   clear BK HB hb
   have BK := n0_
   have HB := n1_
   clear n0_ n1_
   refine hK.out _ _ ⟨(blk_cell BK.out 0).trans rfl, (blk_cell BK.out 1).trans rfl, (blk_cell BK.out 2).trans rfl, (blk_cell BK.out 3).trans rfl, (blk_cell BK.out 4).trans rfl, (blk_cell BK.out 5).trans rfl, (blk_cell BK.out 6).trans rfl⟩ (fun hHeld => ?_)
   clear hK K
   refine norm_ (a' := ?_) ?_ ?_
   rotate_left
   ·show Act.put _ (some 17) _ = _
    simp only [Act.put, sI_, z0_, z1_, i64_w, i32_w]
    rfl
   refine one_ (i := 8) (N := some 20) #[true, true, true, true, true, true, true, true, true, true, true, true, false, false, false] rfl rfl (one_of HT_.out (by kernel_rfl)) (by decide) (fun K hK => ?_)
   refine goes_ Tryz.func48 (by kernel_rfl) rfl #[.int .i64 a2] (by rfl) rfl rfl (by simp only [mA_, mC_, mN_]; rfl) ?_
   with_reducible refine (numeral_calls a2 _ (HLd.below HB.out) b_a2.1 b_a2.2).mono ?_
   rintro e w3 ⟨rfl, hb⟩
   refine ⟨_, rfl, ?_⟩
   have n0_ := Aside0.mk (blk_below BK.out hb)
   have n1_ := Aside0.mk (below_step HB.out hb)
   clear BK HB hb
   have BK := n0_
   have HB := n1_
   clear n0_ n1_
   refine hK.out _ _ ⟨(blk_cell BK.out 0).trans rfl, (blk_cell BK.out 1).trans rfl, (blk_cell BK.out 2).trans rfl, (blk_cell BK.out 3).trans rfl, (blk_cell BK.out 4).trans rfl, (blk_cell BK.out 5).trans rfl, (blk_cell BK.out 6).trans rfl⟩ (fun hHeld => ?_)
   clear hK K
   refine norm_ (a' := ?_) ?_ ?_
   rotate_left
   ·show Act.put _ (some 20) _ = _
    simp only [Act.put, sI_, z0_, z1_, i64_w, i32_w]
    rfl
   refine one_ (i := 12) (N := some 24) #[true, true, true, true, true, true, true, true, true, true, true, true, true, false, false] rfl rfl (one_of HT_.out (by kernel_rfl)) (by decide) (fun K hK => ?_)
   refine goes_ Tryz.func49 (by kernel_rfl) rfl #[.agg #[.int .u32 a4, .int .u32 a5]] (by rfl) rfl rfl (by simp only [mA_, mC_, mN_]; rfl) ?_
   with_reducible refine (prefix_RangeText.calls a4 a5 t _ (HLd.below HB.out) hT.out).mono ?_
   rintro e w3 ⟨rfl, hb⟩
   refine ⟨_, rfl, ?_⟩
   have n0_ := Aside0.mk (blk_below BK.out hb)
   have n1_ := Aside0.mk (below_step HB.out hb)
   clear BK HB hb
   have BK := n0_
   have HB := n1_
   clear n0_ n1_
   refine hK.out _ _ ⟨(blk_cell BK.out 0).trans rfl, (blk_cell BK.out 1).trans rfl, (blk_cell BK.out 2).trans rfl, (blk_cell BK.out 3).trans rfl, (blk_cell BK.out 4).trans rfl, (blk_cell BK.out 5).trans rfl, (blk_cell BK.out 6).trans rfl⟩ (fun hHeld => ?_)
   clear hK K
   refine norm_ (a' := ?_) ?_ ?_
   rotate_left
   ·show Act.put _ (some 24) _ = _
    simp only [Act.put, sI_, z0_, z1_, i64_w, i32_w]
    rfl
   refine one_ (i := 13) (N := some 25) #[true, true, true, true, true, true, true, true, true, true, true, true, true, true, false] rfl rfl (one_of HT_.out (by kernel_rfl)) (by decide) (fun K hK => ?_)
   refine value_ (w1 := ?_) (v := ?_) (by rfl) rfl ?_ ?_
   rotate_left 2
   ·go_simp
    constructor
    ·rfl
    ·rfl
   have n0_ := Aside0.mk (blk_alloc BK.out (.cells #[.string (numeral a0), .string (numeral a1), .string (numeral a2), .string kd, .string t] 9))
   have HO : Aside0 (Kd.R Kd.string 9 (w3.alloc (.cells #[.string (numeral a0), .string (numeral a1), .string (numeral a2), .string kd, .string t] 9)) w.heap.size (fun _ => True) (.slice (some ⟨w3.heap.size, 0, none⟩) 5 5) [numeral a0, numeral a1, numeral a2, kd, t]) := ⟨R_new_row' Value.string (fun _ => rfl) w3 w.heap.size (below_size HB.out) 9 [numeral a0, numeral a1, numeral a2, kd, t] (show (5 : Nat) ≤ 9223372036854775807 by decide)⟩
   have n1_ := Aside0.mk (below_alloc HB.out (.cells #[.string (numeral a0), .string (numeral a1), .string (numeral a2), .string kd, .string t] 9))
   clear BK HB
   have BK := n0_
   have HB := n1_
   clear n0_ n1_
   refine hK.out _ _ ⟨(blk_cell BK.out 0).trans rfl, (blk_cell BK.out 1).trans rfl, (blk_cell BK.out 2).trans rfl, (blk_cell BK.out 3).trans rfl, (blk_cell BK.out 4).trans rfl, (blk_cell BK.out 5).trans rfl, (blk_cell BK.out 6).trans rfl⟩ (fun hHeld => ?_)
   clear hK K
   refine norm_ (a' := ?_) ?_ ?_
   rotate_left
   ·show Act.put _ (some 25) _ = _
    simp only [Act.put, sI_, z0_, z1_, i64_w, i32_w]
    rfl
   refine pure_ (i := 14) (N := some 4) (v := ?_) (a' := ?_) #[true, true, true, true, true, true, true, true, true, true, true, true, true, true, true] rfl rfl (any_of HT_.out (by kernel_rfl)) (fun _ _ _ h => h) (Or.inl ⟨by rfl, ?_⟩) ?_ ?_
   rotate_left
   ·intro w'
    go_simp
    with_reducible rfl
   rotate_left
   ·simp only [Act.put, sI_, z0_, z1_, i64_w, i32_w]
    rfl
   refine done_ (done_of HT_.out (by kernel_rfl)) ?_
   generalize World.alloc _ _ = w8 at HO BK HB ⊢
   have hc3 := (blk_cell BK.out 3).trans (show _ = some (Value.int .i64 0) from rfl)
   have hf3 := blk_frozen BK.out 3
   have hc6 := (blk_cell BK.out 6).trans (show _ = some (Value.int .i64 a6) from rfl)
   have hf6 := blk_frozen BK.out 6
   generalize hsl : Value.slice _ 5 5 = sl at HO ⊢
   clear hsl
   go_wp2_with (first | (go_at_call 48; refine (numeral_calls a6 _ (HLd.below HB.out) b_a6.1 b_a6.2).mono ?_; rintro e w9 ⟨rfl, hb1⟩; have HB1 := Aside0.mk (HB.out.trans (hb1.mono HB.out.size)); have HO1 := Aside0.mk (Kd.R_below HO.out hb1); clear hb1) | (at_builtin; refine Kd.R_append Kd.string (w0 := w) w.heap.size rfl (.tmp 29) (.tmp 33) 88 9 (.string ⟨#[]⟩) 16 rfl Tryz.underlying88 infoS rfl (by decide) (by omega) sl _ (numeral a6) [.string (numeral a6)] (fun _ => True) (fun _ => False) rfl rfl rfl (fun _ hk => hk.elim) (fun _ _ => trivial) HO1.out HB1.out HB1.out.size (show (5 + 1) * 16 ≤ 140737488355328 by decide) ?_; intro v2 w2 ho hb hg hat; have HO2 := Aside0.mk ho; have HB2 := Aside0.mk hb; clear ho hb hg hat; obtain ⟨AA, cc, hv, hcc, hC⟩ := Kd.R_reads HO2.out; subst hv; have CJ := Lib.hid (join_calls AA cc ([numeral a0, numeral a1, numeral a2, kd, t] ++ [numeral a6]) ⟨#[32]⟩ w2 hC hcc (show (6 : Nat) ≤ 140737488355328 by decide) (by rw [← hkw.out]; exact ruleWords_len a0 a1 a2 0 t a6 b_a0 b_a1 b_a2 b_a6 hts)); clear hC hcc) | (go_at_call 50; refine CJ.out.mono ?_; rintro e w10 ⟨rfl, hb1⟩))
   go_ret
   exact ⟨by have := hr.out; rw [hkw.out] at this; exact congrArg (fun x => Ending.returned (.string x)) this, HB2.out.trans (hb1.mono HB2.out.size)⟩
  ·have e1 : (a3 == 0) = false := by simpa using h0
   have e2 : decide (a3 = 0) = false := decide_eq_false h0
   have e3 : (a3 = 0) = False := eq_false h0
   go_upto_region 3 with (first | ((with_reducible refine gate_dst (N := 1) rfl ?_); refine box_event ?hg (N := 1) ?hd (cs := #[.int .i64 a0, .int .i64 a1, .int .i64 a2, .int .i64 a3, .int .u32 a4, .int .u32 a5, .int .i64 a6]) (t := 27) ?hr ?_; (case hd => rfl); (case hg => rfl); (case hr => first | (go_simp; done) | (go_simp; rfl)); intro g hg w6 hbox hb; have BK := Aside0.mk hbox; have n1_ := Aside0.mk (below_step HB.out hb); have GE := Aside0.mk (show w.heap.size ≤ g by rw [hg]; exact below_size HB.out); clear HB; have HB := n1_; clear n1_ hb hbox hg; have hc3 := (blk_cell BK.out 3).trans (show _ = some (Value.int .i64 a3) from rfl); have hf3 := blk_frozen BK.out 3) | (go_at_call 46; refine (rule_within.calls _ _ _ _ _ hq).mono ?_; rintro e w3 ⟨rfl, ⟨m, rfl⟩⟩; have n0_ := Aside0.mk (blk_drewN BK.out m); have n1_ := Aside0.mk (pw_below_drewN HB.out m); clear BK HB; have BK := n0_; have HB := n1_; clear n0_ n1_))
   clear hc3 hf3
   have hi := hi trivial
   clear hn
   have n0_ := Aside0.mk (blk_drew BK.out)
   have n1_ := Aside0.mk (below_drew1 HB.out)
   clear BK HB
   have BK := n0_
   have HB := n1_
   clear n0_ n1_
   refine start_ (n := 5) (S := fun w' => w'.cell? ⟨g, 0, none⟩ = some (.int .i64 a0) ∧ w'.cell? ⟨g, 1, none⟩ = some (.int .i64 a1) ∧ w'.cell? ⟨g, 2, none⟩ = some (.int .i64 a2) ∧ w'.cell? ⟨g, 3, none⟩ = some (.int .i64 a3) ∧ w'.cell? ⟨g, 4, none⟩ = some (.int .u32 a4) ∧ w'.cell? ⟨g, 5, none⟩ = some (.int .u32 a5) ∧ w'.cell? ⟨g, 6, none⟩ = some (.int .i64 a6)) (ds := []) #[false, false, false, false, false] (by kernel_rfl) rfl rfl ⟨(blk_cell BK.out 0).trans rfl, (blk_cell BK.out 1).trans rfl, (blk_cell BK.out 2).trans rfl, (blk_cell BK.out 3).trans rfl, (blk_cell BK.out 4).trans rfl, (blk_cell BK.out 5).trans rfl, (blk_cell BK.out 6).trans rfl⟩ (fun hHeld => ?_)
   refine with_tabW rule_Text.tab3 rule_Text.bits3 (fun HT_ HW_ => ?_)
   generalize World.drew _ = w7 at BK HB hHeld ⊢
   refine pure_ (i := 1) (N := some 9) (v := ?_) (a' := ?_) #[false, true, false, false, false] rfl rfl (any_of HT_.out (by kernel_rfl)) (fun _ _ _ h => h) (Or.inl ⟨by rfl, ?_⟩) ?_ ?_
   rotate_left
   ·intro w'
    go_simp
    with_reducible rfl
   rotate_left
   ·simp only [Act.put, sI_, z0_, z1_, i64_w, i32_w]
    rfl
   refine take_ (i := 2) (N := some 10) (v := ?_) (a' := ?_) #[false, true, true, false, false] rfl rfl (take_ofW HT_.out HW_.out (by kernel_rfl)) (fun _ _ _ h => h) (Or.inl ⟨by rfl, ?_⟩) hHeld ?_ ?_
   rotate_left
   ·rintro w' ⟨s0, s1, s2, s3, s4, s5, s6⟩
    go_simp
    with_reducible rfl
   rotate_left
   ·simp only [Act.put, sI_, z0_, z1_, i64_w, i32_w]
    rfl
   refine one_ (i := 0) (N := some 8) #[true, true, true, false, false] rfl rfl (one_of HT_.out (by kernel_rfl)) (by decide) (fun K hK => ?_)
   refine goes_ Tryz.func47 (by kernel_rfl) rfl #[] (by rfl) rfl rfl (by simp only [mA_, mC_, mN_]) ?_
   with_reducible refine (rule_named_calls _).mono ?_
   rintro e w3 ⟨rfl, hb⟩
   refine ⟨_, rfl, ?_⟩
   have n0_ := Aside0.mk (blk_below BK.out hb)
   have n1_ := Aside0.mk (below_step HB.out hb)
   clear BK HB hb
   have BK := n0_
   have HB := n1_
   clear n0_ n1_
   refine hK.out _ _ ⟨(blk_cell BK.out 0).trans rfl, (blk_cell BK.out 1).trans rfl, (blk_cell BK.out 2).trans rfl, (blk_cell BK.out 3).trans rfl, (blk_cell BK.out 4).trans rfl, (blk_cell BK.out 5).trans rfl, (blk_cell BK.out 6).trans rfl⟩ (fun hHeld => ?_)
   clear hK K
   refine norm_ (a' := ?_) ?_ ?_
   rotate_left
   ·show Act.put _ (some 8) _ = _
    simp only [Act.put, sI_, z0_, z1_, i64_w, i32_w]
    rfl
   refine one_ (i := 3) (N := some 11) #[true, true, true, true, false] rfl rfl (one_of HT_.out (by kernel_rfl)) (by decide) (fun K hK => ?_)
   refine value_ (w1 := ?_) (v := ?_) (by rfl) rfl ?_ ?_
   rotate_left 2
   ·go_simp
    constructor
    ·rfl
    ·rfl
   refine hK.out _ _ ⟨(blk_cell BK.out 0).trans rfl, (blk_cell BK.out 1).trans rfl, (blk_cell BK.out 2).trans rfl, (blk_cell BK.out 3).trans rfl, (blk_cell BK.out 4).trans rfl, (blk_cell BK.out 5).trans rfl, (blk_cell BK.out 6).trans rfl⟩ (fun hHeld => ?_)
   clear hK K
   refine norm_ (a' := ?_) ?_ ?_
   rotate_left
   ·show Act.put _ (some 11) _ = _
    simp only [Act.put, sI_, z0_, z1_, i64_w, i32_w]
    rfl
   refine pure_ (i := 4) (N := some 3) (v := ?_) (a' := ?_) #[true, true, true, true, true] rfl rfl (any_of HT_.out (by kernel_rfl)) (fun _ _ _ h => h) (Or.inl ⟨by rfl, ?_⟩) ?_ ?_
   rotate_left
   ·intro w'
    go_simp
    with_reducible rfl
   rotate_left
   ·simp only [Act.put, sI_, z0_, z1_, i64_w, i32_w]
    rfl
   refine done_ (done_of HT_.out (by kernel_rfl)) ?_
   clear hi
   go_upto_region 4 with fail
   have hkw : ruleWords a0 a1 a2 a3 t a6 = [numeral a0, numeral a1, numeral a2, kd, t] := by
    rw [hkd.out]; unfold ruleWords; rw [if_neg h0, List.append_nil]
   have hkw := Aside0.mk hkw
   have n0_ := Aside0.mk (blk_drew BK.out)
   have n1_ := Aside0.mk (below_drew1 HB.out)
   clear BK HB
   have BK := n0_
   have HB := n1_
   clear n0_ n1_
   refine start_ (n := 15) (S := fun w' => w'.cell? ⟨g, 0, none⟩ = some (.int .i64 a0) ∧ w'.cell? ⟨g, 1, none⟩ = some (.int .i64 a1) ∧ w'.cell? ⟨g, 2, none⟩ = some (.int .i64 a2) ∧ w'.cell? ⟨g, 3, none⟩ = some (.int .i64 a3) ∧ w'.cell? ⟨g, 4, none⟩ = some (.int .u32 a4) ∧ w'.cell? ⟨g, 5, none⟩ = some (.int .u32 a5) ∧ w'.cell? ⟨g, 6, none⟩ = some (.int .i64 a6)) (ds := []) #[false, false, false, false, false, false, false, false, false, false, false, false, false, false, false] (by kernel_rfl) rfl rfl ⟨(blk_cell BK.out 0).trans rfl, (blk_cell BK.out 1).trans rfl, (blk_cell BK.out 2).trans rfl, (blk_cell BK.out 3).trans rfl, (blk_cell BK.out 4).trans rfl, (blk_cell BK.out 5).trans rfl, (blk_cell BK.out 6).trans rfl⟩ (fun hHeld => ?_)
   refine with_tabW rule_Text.tab4 rule_Text.bits4 (fun HT_ HW_ => ?_)
   generalize World.drew _ = w7 at BK HB hHeld ⊢
   refine pure_ (i := 0) (N := some 12) (v := ?_) (a' := ?_) #[true, false, false, false, false, false, false, false, false, false, false, false, false, false, false] rfl rfl (any_of HT_.out (by kernel_rfl)) (fun _ _ _ h => h) (Or.inl ⟨by rfl, ?_⟩) ?_ ?_
   rotate_left
   ·intro w'
    go_simp
    with_reducible rfl
   rotate_left
   ·simp only [Act.put, sI_, z0_, z1_, i64_w, i32_w]
    rfl
   refine pure_ (i := 3) (N := some 15) (v := ?_) (a' := ?_) #[true, false, false, true, false, false, false, false, false, false, false, false, false, false, false] rfl rfl (any_of HT_.out (by kernel_rfl)) (fun _ _ _ h => h) (Or.inl ⟨by rfl, ?_⟩) ?_ ?_
   rotate_left
   ·intro w'
    go_simp
    with_reducible rfl
   rotate_left
   ·simp only [Act.put, sI_, z0_, z1_, i64_w, i32_w]
    rfl
   refine pure_ (i := 6) (N := some 18) (v := ?_) (a' := ?_) #[true, false, false, true, false, false, true, false, false, false, false, false, false, false, false] rfl rfl (any_of HT_.out (by kernel_rfl)) (fun _ _ _ h => h) (Or.inl ⟨by rfl, ?_⟩) ?_ ?_
   rotate_left
   ·intro w'
    go_simp
    with_reducible rfl
   rotate_left
   ·simp only [Act.put, sI_, z0_, z1_, i64_w, i32_w]
    rfl
   refine pure_ (i := 9) (N := some 21) (v := ?_) (a' := ?_) #[true, false, false, true, false, false, true, false, false, true, false, false, false, false, false] rfl rfl (any_of HT_.out (by kernel_rfl)) (fun _ _ _ h => h) (Or.inl ⟨by rfl, ?_⟩) ?_ ?_
   rotate_left
   ·intro w'
    go_simp
    with_reducible rfl
   rotate_left
   ·simp only [Act.put, sI_, z0_, z1_, i64_w, i32_w]
    rfl
   refine pure_ (i := 10) (N := some 22) (v := ?_) (a' := ?_) #[true, false, false, true, false, false, true, false, false, true, true, false, false, false, false] rfl rfl (any_of HT_.out (by kernel_rfl)) (fun _ _ _ h => h) (Or.inl ⟨by rfl, ?_⟩) ?_ ?_
   rotate_left
   ·intro w'
    go_simp
    with_reducible rfl
   rotate_left
   ·simp only [Act.put, sI_, z0_, z1_, i64_w, i32_w]
    rfl
   refine take_ (i := 1) (N := some 13) (v := ?_) (a' := ?_) #[true, true, false, true, false, false, true, false, false, true, true, false, false, false, false] rfl rfl (take_ofW HT_.out HW_.out (by kernel_rfl)) (fun _ _ _ h => h) (Or.inl ⟨by rfl, ?_⟩) hHeld ?_ ?_
   rotate_left
   ·rintro w' ⟨s0, s1, s2, s3, s4, s5, s6⟩
    go_simp
    with_reducible rfl
   rotate_left
   ·simp only [Act.put, sI_, z0_, z1_, i64_w, i32_w]
    rfl
   refine take_ (i := 4) (N := some 16) (v := ?_) (a' := ?_) #[true, true, false, true, true, false, true, false, false, true, true, false, false, false, false] rfl rfl (take_ofW HT_.out HW_.out (by kernel_rfl)) (fun _ _ _ h => h) (Or.inl ⟨by rfl, ?_⟩) hHeld ?_ ?_
   rotate_left
   ·rintro w' ⟨s0, s1, s2, s3, s4, s5, s6⟩
    go_simp
    with_reducible rfl
   rotate_left
   ·simp only [Act.put, sI_, z0_, z1_, i64_w, i32_w]
    rfl
   refine take_ (i := 7) (N := some 19) (v := ?_) (a' := ?_) #[true, true, false, true, true, false, true, true, false, true, true, false, false, false, false] rfl rfl (take_ofW HT_.out HW_.out (by kernel_rfl)) (fun _ _ _ h => h) (Or.inl ⟨by rfl, ?_⟩) hHeld ?_ ?_
   rotate_left
   ·rintro w' ⟨s0, s1, s2, s3, s4, s5, s6⟩
    go_simp
    with_reducible rfl
   rotate_left
   ·simp only [Act.put, sI_, z0_, z1_, i64_w, i32_w]
    rfl
   refine take_ (i := 11) (N := some 23) (v := ?_) (a' := ?_) #[true, true, false, true, true, false, true, true, false, true, true, true, false, false, false] rfl rfl (take_ofW HT_.out HW_.out (by kernel_rfl)) (fun _ _ _ h => h) (Or.inl ⟨by rfl, ?_⟩) hHeld ?_ ?_
   rotate_left
   ·rintro w' ⟨s0, s1, s2, s3, s4, s5, s6⟩
    go_simp
    with_reducible rfl
   rotate_left
   ·simp only [Act.put, sI_, z0_, z1_, i64_w, i32_w]
    rfl
   refine one_ (i := 2) (N := some 14) #[true, true, true, true, true, false, true, true, false, true, true, true, false, false, false] rfl rfl (one_of HT_.out (by kernel_rfl)) (by decide) (fun K hK => ?_)
   refine goes_ Tryz.func48 (by kernel_rfl) rfl #[.int .i64 a0] (by rfl) rfl rfl (by simp only [mA_, mC_, mN_]; rfl) ?_
   with_reducible refine (numeral_calls a0 _ (HLd.below HB.out) b_a0.1 b_a0.2).mono ?_
   rintro e w3 ⟨rfl, hb⟩
   refine ⟨_, rfl, ?_⟩
   have n0_ := Aside0.mk (blk_below BK.out hb)
   have n1_ := Aside0.mk (below_step HB.out hb)
   clear BK HB hb
   have BK := n0_
   have HB := n1_
   clear n0_ n1_
   refine hK.out _ _ ⟨(blk_cell BK.out 0).trans rfl, (blk_cell BK.out 1).trans rfl, (blk_cell BK.out 2).trans rfl, (blk_cell BK.out 3).trans rfl, (blk_cell BK.out 4).trans rfl, (blk_cell BK.out 5).trans rfl, (blk_cell BK.out 6).trans rfl⟩ (fun hHeld => ?_)
   clear hK K
   refine norm_ (a' := ?_) ?_ ?_
   rotate_left
   ·show Act.put _ (some 14) _ = _
    simp only [Act.put, sI_, z0_, z1_, i64_w, i32_w]
    rfl
   refine one_ (i := 5) (N := some 17) #[true, true, true, true, true, true, true, true, false, true, true, true, false, false, false] rfl rfl (one_of HT_.out (by kernel_rfl)) (by decide) (fun K hK => ?_)
   refine goes_ Tryz.func48 (by kernel_rfl) rfl #[.int .i64 a1] (by rfl) rfl rfl (by simp only [mA_, mC_, mN_]; rfl) ?_
   with_reducible refine (numeral_calls a1 _ (HLd.below HB.out) b_a1.1 b_a1.2).mono ?_
   rintro e w3 ⟨rfl, hb⟩
   refine ⟨_, rfl, ?_⟩
   have n0_ := Aside0.mk (blk_below BK.out hb)
   have n1_ := Aside0.mk (below_step HB.out hb)
   clear BK HB hb
   have BK := n0_
   have HB := n1_
   clear n0_ n1_
   refine hK.out _ _ ⟨(blk_cell BK.out 0).trans rfl, (blk_cell BK.out 1).trans rfl, (blk_cell BK.out 2).trans rfl, (blk_cell BK.out 3).trans rfl, (blk_cell BK.out 4).trans rfl, (blk_cell BK.out 5).trans rfl, (blk_cell BK.out 6).trans rfl⟩ (fun hHeld => ?_)
   clear hK K
   refine norm_ (a' := ?_) ?_ ?_
   rotate_left
   ·show Act.put _ (some 17) _ = _
    simp only [Act.put, sI_, z0_, z1_, i64_w, i32_w]
    rfl
   refine one_ (i := 8) (N := some 20) #[true, true, true, true, true, true, true, true, true, true, true, true, false, false, false] rfl rfl (one_of HT_.out (by kernel_rfl)) (by decide) (fun K hK => ?_)
   refine goes_ Tryz.func48 (by kernel_rfl) rfl #[.int .i64 a2] (by rfl) rfl rfl (by simp only [mA_, mC_, mN_]; rfl) ?_
   with_reducible refine (numeral_calls a2 _ (HLd.below HB.out) b_a2.1 b_a2.2).mono ?_
   rintro e w3 ⟨rfl, hb⟩
   refine ⟨_, rfl, ?_⟩
   have n0_ := Aside0.mk (blk_below BK.out hb)
   have n1_ := Aside0.mk (below_step HB.out hb)
   clear BK HB hb
   have BK := n0_
   have HB := n1_
   clear n0_ n1_
   refine hK.out _ _ ⟨(blk_cell BK.out 0).trans rfl, (blk_cell BK.out 1).trans rfl, (blk_cell BK.out 2).trans rfl, (blk_cell BK.out 3).trans rfl, (blk_cell BK.out 4).trans rfl, (blk_cell BK.out 5).trans rfl, (blk_cell BK.out 6).trans rfl⟩ (fun hHeld => ?_)
   clear hK K
   refine norm_ (a' := ?_) ?_ ?_
   rotate_left
   ·show Act.put _ (some 20) _ = _
    simp only [Act.put, sI_, z0_, z1_, i64_w, i32_w]
    rfl
   refine one_ (i := 12) (N := some 24) #[true, true, true, true, true, true, true, true, true, true, true, true, true, false, false] rfl rfl (one_of HT_.out (by kernel_rfl)) (by decide) (fun K hK => ?_)
   refine goes_ Tryz.func49 (by kernel_rfl) rfl #[.agg #[.int .u32 a4, .int .u32 a5]] (by rfl) rfl rfl (by simp only [mA_, mC_, mN_]; rfl) ?_
   with_reducible refine (prefix_RangeText.calls a4 a5 t _ (HLd.below HB.out) hT.out).mono ?_
   rintro e w3 ⟨rfl, hb⟩
   refine ⟨_, rfl, ?_⟩
   have n0_ := Aside0.mk (blk_below BK.out hb)
   have n1_ := Aside0.mk (below_step HB.out hb)
   clear BK HB hb
   have BK := n0_
   have HB := n1_
   clear n0_ n1_
   refine hK.out _ _ ⟨(blk_cell BK.out 0).trans rfl, (blk_cell BK.out 1).trans rfl, (blk_cell BK.out 2).trans rfl, (blk_cell BK.out 3).trans rfl, (blk_cell BK.out 4).trans rfl, (blk_cell BK.out 5).trans rfl, (blk_cell BK.out 6).trans rfl⟩ (fun hHeld => ?_)
   clear hK K
   refine norm_ (a' := ?_) ?_ ?_
   rotate_left
   ·show Act.put _ (some 24) _ = _
    simp only [Act.put, sI_, z0_, z1_, i64_w, i32_w]
    rfl
   refine one_ (i := 13) (N := some 25) #[true, true, true, true, true, true, true, true, true, true, true, true, true, true, false] rfl rfl (one_of HT_.out (by kernel_rfl)) (by decide) (fun K hK => ?_)
   refine value_ (w1 := ?_) (v := ?_) (by rfl) rfl ?_ ?_
   rotate_left 2
   ·go_simp
    constructor
    ·rfl
    ·rfl
   have n0_ := Aside0.mk (blk_alloc BK.out (.cells #[.string (numeral a0), .string (numeral a1), .string (numeral a2), .string kd, .string t] 9))
   have HO : Aside0 (Kd.R Kd.string 9 (w3.alloc (.cells #[.string (numeral a0), .string (numeral a1), .string (numeral a2), .string kd, .string t] 9)) w.heap.size (fun _ => True) (.slice (some ⟨w3.heap.size, 0, none⟩) 5 5) [numeral a0, numeral a1, numeral a2, kd, t]) := ⟨R_new_row' Value.string (fun _ => rfl) w3 w.heap.size (below_size HB.out) 9 [numeral a0, numeral a1, numeral a2, kd, t] (show (5 : Nat) ≤ 9223372036854775807 by decide)⟩
   have n1_ := Aside0.mk (below_alloc HB.out (.cells #[.string (numeral a0), .string (numeral a1), .string (numeral a2), .string kd, .string t] 9))
   clear BK HB
   have BK := n0_
   have HB := n1_
   clear n0_ n1_
   refine hK.out _ _ ⟨(blk_cell BK.out 0).trans rfl, (blk_cell BK.out 1).trans rfl, (blk_cell BK.out 2).trans rfl, (blk_cell BK.out 3).trans rfl, (blk_cell BK.out 4).trans rfl, (blk_cell BK.out 5).trans rfl, (blk_cell BK.out 6).trans rfl⟩ (fun hHeld => ?_)
   clear hK K
   refine norm_ (a' := ?_) ?_ ?_
   rotate_left
   ·show Act.put _ (some 25) _ = _
    simp only [Act.put, sI_, z0_, z1_, i64_w, i32_w]
    rfl
   refine pure_ (i := 14) (N := some 4) (v := ?_) (a' := ?_) #[true, true, true, true, true, true, true, true, true, true, true, true, true, true, true] rfl rfl (any_of HT_.out (by kernel_rfl)) (fun _ _ _ h => h) (Or.inl ⟨by rfl, ?_⟩) ?_ ?_
   rotate_left
   ·intro w'
    go_simp
    with_reducible rfl
   rotate_left
   ·simp only [Act.put, sI_, z0_, z1_, i64_w, i32_w]
    rfl
   refine done_ (done_of HT_.out (by kernel_rfl)) ?_
   generalize World.alloc _ _ = w8 at HO BK HB ⊢
   have hc3 := (blk_cell BK.out 3).trans (show _ = some (Value.int .i64 a3) from rfl)
   have hf3 := blk_frozen BK.out 3
   obtain ⟨AA, cc, hv, hcc, hC⟩ := Kd.R_reads HO.out
   cases hv
   have CJ := Lib.hid (join_calls _ _ [numeral a0, numeral a1, numeral a2, kd, t] ⟨#[32]⟩ w8 hC hcc (show (5 : Nat) ≤ 140737488355328 by decide) (by rw [← hkw.out]; exact ruleWords_len a0 a1 a2 a3 t a6 b_a0 b_a1 b_a2 b_a6 hts))
   clear hC hcc
   go_wp2_with (go_at_call 50; refine CJ.out.mono ?_; rintro e w9 ⟨rfl, hb1⟩)
   go_ret
   exact ⟨by have := hr.out; rw [hkw.out] at this; exact congrArg (fun x => Ending.returned (.string x)) this, HB.out.trans (hb1.mono HB.out.size)⟩
end Go.Proofs.YtfjamikpahmfhaaGreatDoor.P
end
section
open List renaming map_toArray → mA_, map_cons → mC_, map_nil → mN_, length_drop → lD_, length_take → lT_, setIfInBounds_toArray → sI_, set_cons_zero → z0_, set_cons_succ → z1_
namespace Go.Proofs.YtfjamikpahmfhaaGreatDoor.P
open Go.RowKit Go.Proofs.YtfjamikpahmfhaaGreatDoorW.PrintWords Go.Proofs.YtfjamikpahmfhaaGreatDoorW.PrintLast Go.Proofs.YtfjamikpahmfhaaGreatDoorW.PrintMore
attribute [local go_sem] max2_int min2_int max_two min_two max_three min_three max_four min_four
set_option linter.unusedVariables false
set_option linter.unusedSimpArgs false
def rule_takes.f (a0_0 : Int) (a0_1 : Int) (a0_2 : Int) (a0_3 : Int) (a0_4 : Int) (a0_5 : Int) (a0_6 : Int) (a1 : Int) (a2 : Int) : Option (Bool) := if a0_1 = a1 then (if a0_4 ≤ a2 then (some (decide (a2 ≤ a0_5))) else (some false)) else (some false)
set_option maxHeartbeats 8000000 in
set_option maxRecDepth 100000 in
theorem rule_takes.calls (a0_0 : Int) (a0_1 : Int) (a0_2 : Int) (a0_3 : Int) (a0_4 : Int) (a0_5 : Int) (a0_6 : Int) (a1 : Int) (a2 : Int) (r : Bool) (w : World) (h : rule_takes.f a0_0 a0_1 a0_2 a0_3 a0_4 a0_5 a0_6 a1 a2 = some r) :
  Calls Tryz.prog 69 #[.agg #[.int .i64 a0_0, .int .i64 a0_1, .int .i64 a0_2, .int .i64 a0_3, .int .u32 a0_4, .int .u32 a0_5, .int .i64 a0_6], .int .i64 a1, .int .u32 a2] w fun e w' => e = .returned (.bool r) ∧ Below w.heap.size w w' := by
 have hu27 := Tryz.underlying27
 have HB := Aside0.mk (Below.refl w.heap.size w)
 have H : (if a0_1 = a1 then (if a0_4 ≤ a2 then (some (decide (a2 ≤ a0_5))) else (some false)) else (some false)) = some r := h
 clear h
 by_cases c4 : a0_1 = a1
 ·rw [if_pos c4] at H
  have c4b0 : (a0_1 == a1) = true := beq_iff_eq.mpr c4
  have c4b1 : (a0_1 != a1) = false := bne_eq_false_iff_eq.mpr c4
  clear c4
  by_cases c5 : a0_4 ≤ a2
  ·rw [if_pos c5] at H
   have c5b0 : decide (a0_4 ≤ a2) = true := decide_eq_true c5
   clear c5
   obtain rfl := Option.some.inj H
   go_enter Tryz.func69, Tryz.ntmps69
   go_wp2_with (first | ((with_reducible refine gate_dst (N := 3) rfl ?_); refine box_event ?hg (N := 3) ?hd (cs := #[.int .i64 a0_0, .int .i64 a0_1, .int .i64 a0_2, .int .i64 a0_3, .int .u32 a0_4, .int .u32 a0_5, .int .i64 a0_6]) (t := 27) ?hr ?_; (case hd => rfl); (case hg => rfl); (case hr => first | (go_simp; done) | (go_simp; rfl)); intro gb441 hg w6 hbox hb; have n0_ := Aside0.mk (below_step (gB HB.out) hb); have n1_ := Aside0.mk (hbox); have n2_ := Aside0.mk ((by rw [hg]; exact (below_size (gB HB.out)) : w.heap.size ≤ gb441)); have n3_ := Aside0.mk ((by rw [hg]; exact (below_size (gB HB.out)) : w.heap.size ≤ gb441)); clear HB; have HB := n0_; have BK441 := n1_; have GW441 := n2_; have GE441 := n3_; clear n0_ n1_ n2_ n3_; clear hb hbox hg; have hcz7_0 : w6.cell? ⟨gb441, 0, none⟩ = some (.int .i64 a0_0) := (blk_cell BK441.out 0).trans rfl; have hcz7_1 : w6.cell? ⟨gb441, 1, none⟩ = some (.int .i64 a0_1) := (blk_cell BK441.out 1).trans rfl; have hcz7_2 : w6.cell? ⟨gb441, 2, none⟩ = some (.int .i64 a0_2) := (blk_cell BK441.out 2).trans rfl; have hcz7_3 : w6.cell? ⟨gb441, 3, none⟩ = some (.int .i64 a0_3) := (blk_cell BK441.out 3).trans rfl; have hcz7_4 : w6.cell? ⟨gb441, 4, none⟩ = some (.int .u32 a0_4) := (blk_cell BK441.out 4).trans rfl; have hcz7_5 : w6.cell? ⟨gb441, 5, none⟩ = some (.int .u32 a0_5) := (blk_cell BK441.out 5).trans rfl; have hcz7_6 : w6.cell? ⟨gb441, 6, none⟩ = some (.int .i64 a0_6) := (blk_cell BK441.out 6).trans rfl; have hfz7_0 := blk_frozen BK441.out 0; have hfz7_1 := blk_frozen BK441.out 1; have hfz7_2 := blk_frozen BK441.out 2; have hfz7_3 := blk_frozen BK441.out 3; have hfz7_4 := blk_frozen BK441.out 4; have hfz7_5 := blk_frozen BK441.out 5; have hfz7_6 := blk_frozen BK441.out 6))
   go_ret
   exact ⟨by first | rfl | (simp [errW_none, errW_some] <;> rfl) | (simp [*, errW_none, errW_some] <;> rfl), by repeat first|(with_reducible first|exact HB.out|apply ba|apply bd|apply b1|refine bs ?_ GE441.out)|exact HB.out⟩
  ·rw [if_neg c5] at H
   have c5b0 : decide (a0_4 ≤ a2) = false := decide_eq_false c5
   clear c5
   obtain rfl := Option.some.inj H
   go_enter Tryz.func69, Tryz.ntmps69
   go_wp2_with (first | ((with_reducible refine gate_dst (N := 3) rfl ?_); refine box_event ?hg (N := 3) ?hd (cs := #[.int .i64 a0_0, .int .i64 a0_1, .int .i64 a0_2, .int .i64 a0_3, .int .u32 a0_4, .int .u32 a0_5, .int .i64 a0_6]) (t := 27) ?hr ?_; (case hd => rfl); (case hg => rfl); (case hr => first | (go_simp; done) | (go_simp; rfl)); intro gb441 hg w8 hbox hb; have n0_ := Aside0.mk (below_step (gB HB.out) hb); have n1_ := Aside0.mk (hbox); have n2_ := Aside0.mk ((by rw [hg]; exact (below_size (gB HB.out)) : w.heap.size ≤ gb441)); have n3_ := Aside0.mk ((by rw [hg]; exact (below_size (gB HB.out)) : w.heap.size ≤ gb441)); clear HB; have HB := n0_; have BK441 := n1_; have GW441 := n2_; have GE441 := n3_; clear n0_ n1_ n2_ n3_; clear hb hbox hg; have hcz9_0 : w8.cell? ⟨gb441, 0, none⟩ = some (.int .i64 a0_0) := (blk_cell BK441.out 0).trans rfl; have hcz9_1 : w8.cell? ⟨gb441, 1, none⟩ = some (.int .i64 a0_1) := (blk_cell BK441.out 1).trans rfl; have hcz9_2 : w8.cell? ⟨gb441, 2, none⟩ = some (.int .i64 a0_2) := (blk_cell BK441.out 2).trans rfl; have hcz9_3 : w8.cell? ⟨gb441, 3, none⟩ = some (.int .i64 a0_3) := (blk_cell BK441.out 3).trans rfl; have hcz9_4 : w8.cell? ⟨gb441, 4, none⟩ = some (.int .u32 a0_4) := (blk_cell BK441.out 4).trans rfl; have hcz9_5 : w8.cell? ⟨gb441, 5, none⟩ = some (.int .u32 a0_5) := (blk_cell BK441.out 5).trans rfl; have hcz9_6 : w8.cell? ⟨gb441, 6, none⟩ = some (.int .i64 a0_6) := (blk_cell BK441.out 6).trans rfl; have hfz9_0 := blk_frozen BK441.out 0; have hfz9_1 := blk_frozen BK441.out 1; have hfz9_2 := blk_frozen BK441.out 2; have hfz9_3 := blk_frozen BK441.out 3; have hfz9_4 := blk_frozen BK441.out 4; have hfz9_5 := blk_frozen BK441.out 5; have hfz9_6 := blk_frozen BK441.out 6))
   go_ret
   exact ⟨by first | rfl | (simp [errW_none, errW_some] <;> rfl) | (simp [*, errW_none, errW_some] <;> rfl), by repeat first|(with_reducible first|exact HB.out|apply ba|apply bd|apply b1|refine bs ?_ GE441.out)|exact HB.out⟩
 ·rw [if_neg c4] at H
  have c4b0 : (a0_1 == a1) = false := beq_eq_false_iff_ne.mpr c4
  have c4b1 : (a0_1 != a1) = true := bne_iff_ne.mpr c4
  obtain rfl := Option.some.inj H
  go_enter Tryz.func69, Tryz.ntmps69
  go_wp2_with (first | ((with_reducible refine gate_dst (N := 3) rfl ?_); refine box_event ?hg (N := 3) ?hd (cs := #[.int .i64 a0_0, .int .i64 a0_1, .int .i64 a0_2, .int .i64 a0_3, .int .u32 a0_4, .int .u32 a0_5, .int .i64 a0_6]) (t := 27) ?hr ?_; (case hd => rfl); (case hg => rfl); (case hr => first | (go_simp; done) | (go_simp; rfl)); intro gb441 hg w10 hbox hb; have n0_ := Aside0.mk (below_step (gB HB.out) hb); have n1_ := Aside0.mk (hbox); have n2_ := Aside0.mk ((by rw [hg]; exact (below_size (gB HB.out)) : w.heap.size ≤ gb441)); have n3_ := Aside0.mk ((by rw [hg]; exact (below_size (gB HB.out)) : w.heap.size ≤ gb441)); clear HB; have HB := n0_; have BK441 := n1_; have GW441 := n2_; have GE441 := n3_; clear n0_ n1_ n2_ n3_; clear hb hbox hg; have hcz11_0 : w10.cell? ⟨gb441, 0, none⟩ = some (.int .i64 a0_0) := (blk_cell BK441.out 0).trans rfl; have hcz11_1 : w10.cell? ⟨gb441, 1, none⟩ = some (.int .i64 a0_1) := (blk_cell BK441.out 1).trans rfl; have hcz11_2 : w10.cell? ⟨gb441, 2, none⟩ = some (.int .i64 a0_2) := (blk_cell BK441.out 2).trans rfl; have hcz11_3 : w10.cell? ⟨gb441, 3, none⟩ = some (.int .i64 a0_3) := (blk_cell BK441.out 3).trans rfl; have hcz11_4 : w10.cell? ⟨gb441, 4, none⟩ = some (.int .u32 a0_4) := (blk_cell BK441.out 4).trans rfl; have hcz11_5 : w10.cell? ⟨gb441, 5, none⟩ = some (.int .u32 a0_5) := (blk_cell BK441.out 5).trans rfl; have hcz11_6 : w10.cell? ⟨gb441, 6, none⟩ = some (.int .i64 a0_6) := (blk_cell BK441.out 6).trans rfl; have hfz11_0 := blk_frozen BK441.out 0; have hfz11_1 := blk_frozen BK441.out 1; have hfz11_2 := blk_frozen BK441.out 2; have hfz11_3 := blk_frozen BK441.out 3; have hfz11_4 := blk_frozen BK441.out 4; have hfz11_5 := blk_frozen BK441.out 5; have hfz11_6 := blk_frozen BK441.out 6))
  go_ret
  exact ⟨by first | rfl | (simp [errW_none, errW_some] <;> rfl) | (simp [*, errW_none, errW_some] <;> rfl), by repeat first|(with_reducible first|exact HB.out|apply ba|apply bd|apply b1|refine bs ?_ GE441.out)|exact HB.out⟩
end Go.Proofs.YtfjamikpahmfhaaGreatDoor.P
end
section
namespace Go.Proofs.YtfjamikpahmfhaaGreatDoor.P
open Go.RowKit Go.Proofs.YtfjamikpahmfhaaGreatDoorW.PrintWords Go.Proofs.YtfjamikpahmfhaaGreatDoorW.PrintLast Go.Proofs.YtfjamikpahmfhaaGreatDoorW.PrintMore
set_option linter.unusedVariables false
set_option linter.unusedSimpArgs false
abbrev Rl := S27
def rcells (x : Rl) : List Value := [.int .i64 x.f0, .int .i64 x.f1, .int .i64 x.f2, .int .i64 x.f3, .int .u32 x.f4.f0, .int .u32 x.f4.f1, .int .i64 x.f5]
def rv (x : Rl) : Value := .agg #[.int .i64 x.f0, .int .i64 x.f1, .int .i64 x.f2, .int .i64 x.f3, .int .u32 x.f4.f0, .int .u32 x.f4.f1, .int .i64 x.f5]
def AskedAt (w1 : World) (g : FuncId) (lb : Array Value) (p : Rl → Bool) : Prop :=
  ∀ w', Below w1.heap.size w1 w' → ∀ x : Rl, Calls Tryz.prog g (#[rv x] ++ lb) w' fun e w'' => e = .returned (.bool (p x)) ∧ Below w'.heap.size w' w''
def takesB (dev a : Int) (x : Rl) : Bool := decide (x.f1 = dev) && decide (x.f4.f0 ≤ a) && decide (a ≤ x.f4.f1)
theorem takes_f (dev a : Int) (x : Rl) : rule_takes.f x.f0 x.f1 x.f2 x.f3 x.f4.f0 x.f4.f1 x.f5 dev a = some (takesB dev a x) := by
  unfold rule_takes.f takesB
  by_cases h1 : x.f1 = dev <;> by_cases h2 : x.f4.f0 ≤ a <;> simp [h1, h2]
set_option maxHeartbeats 1000000 in
theorem match1_asked (w1 : World) (g1 g2 : Nat) (dev a : Int) (hd : w1.cell? ⟨g1, 0, none⟩ = some (.int .i64 dev)) (ha : w1.cell? ⟨g2, 0, none⟩ = some (.int .u32 a)) :
    AskedAt w1 68 #[.pointer (some ⟨g1, 0, none⟩), .pointer (some ⟨g2, 0, none⟩)] (fun x => decide (x.f3 ≤ 1) && takesB dev a x) := by
  intro w hb x
  have hd0 := (hb.cell (World.block_lt_of_cell? w1 _ hd)).trans hd
  have ha0 := (hb.cell (World.block_lt_of_cell? w1 _ ha)).trans ha
  have hT := takes_f dev a x
  have hu45 := Tryz.underlying27
  have HB := Aside0.mk (Below.refl w.heap.size w)
  show Calls Tryz.prog 68 #[rv x, .pointer (some ⟨g1, 0, none⟩), .pointer (some ⟨g2, 0, none⟩)] w fun e w'' => e = .returned (.bool (decide (x.f3 ≤ 1) && takesB dev a x)) ∧ Below w.heap.size w w''
  unfold rv
  generalize takesB dev a x = tb at hT ⊢
  generalize x.f0 = x0 at *
  generalize x.f1 = x1 at *
  generalize x.f2 = x2 at *
  generalize x.f3 = x3 at *
  generalize x.f4.f0 = x4 at *
  generalize x.f4.f1 = x5 at *
  generalize x.f5 = x6 at *
  go_enter Tryz.func68, Tryz.ntmps68
  by_cases hk : x3 ≤ 1
  · have hkd : decide (x3 ≤ 1) = true := decide_eq_true hk
    go_wp2_with (first | ((with_reducible refine gate_dst (N := 3) rfl ?_); refine box_event ?hg (N := 3) ?hd (cs := #[.int .i64 x0, .int .i64 x1, .int .i64 x2, .int .i64 x3, .int .u32 x4, .int .u32 x5, .int .i64 x6]) (t := 27) ?hr ?_; (case hd => rfl); (case hg => rfl); (case hr => first | (go_simp; done) | (go_simp; rfl)); intro g hg w6 hbox hb6; have BK := Aside0.mk hbox; have n1_ := Aside0.mk (below_step HB.out hb6); have hd := (hb6.cell (World.block_lt_of_cell? w _ hd0)).trans hd0; have ha := (hb6.cell (World.block_lt_of_cell? w _ ha0)).trans ha0; clear HB; have HB := n1_; clear n1_ hb6 hbox hg; have hc0 := (blk_cell BK.out 0).trans (show _ = some (Value.int .i64 x0) from rfl); have hc1 := (blk_cell BK.out 1).trans (show _ = some (Value.int .i64 x1) from rfl); have hc2 := (blk_cell BK.out 2).trans (show _ = some (Value.int .i64 x2) from rfl); have hc3 := (blk_cell BK.out 3).trans (show _ = some (Value.int .i64 x3) from rfl); have hc4 := (blk_cell BK.out 4).trans (show _ = some (Value.int .u32 x4) from rfl); have hc5 := (blk_cell BK.out 5).trans (show _ = some (Value.int .u32 x5) from rfl); have hc6 := (blk_cell BK.out 6).trans (show _ = some (Value.int .i64 x6) from rfl)) | (go_at_call 69; refine (rule_takes.calls _ _ _ _ _ _ _ _ _ _ _ hT).mono ?_; rintro e w3 ⟨rfl, hb2⟩))
    go_ret
    exact ⟨by simp [hkd], HB.out.trans (hb2.mono HB.out.size)⟩
  · have hkd : decide (x3 ≤ 1) = false := decide_eq_false hk
    go_wp2_with (first | ((with_reducible refine gate_dst (N := 3) rfl ?_); refine box_event ?hg (N := 3) ?hd (cs := #[.int .i64 x0, .int .i64 x1, .int .i64 x2, .int .i64 x3, .int .u32 x4, .int .u32 x5, .int .i64 x6]) (t := 27) ?hr ?_; (case hd => rfl); (case hg => rfl); (case hr => first | (go_simp; done) | (go_simp; rfl)); intro g hg w6 hbox hb6; have BK := Aside0.mk hbox; have n1_ := Aside0.mk (below_step HB.out hb6); clear HB; have HB := n1_; clear n1_ hb6 hbox hg; have hc3 := (blk_cell BK.out 3).trans (show _ = some (Value.int .i64 x3) from rfl)))
    go_ret
    exact ⟨by simp [hkd], HB.out⟩
set_option maxHeartbeats 1000000 in
theorem denies1_asked (w1 : World) (g1 g2 : Nat) (dev a : Int) (hd : w1.cell? ⟨g1, 0, none⟩ = some (.int .i64 dev)) (ha : w1.cell? ⟨g2, 0, none⟩ = some (.int .u32 a)) :
    AskedAt w1 71 #[.pointer (some ⟨g1, 0, none⟩), .pointer (some ⟨g2, 0, none⟩)] (fun x => decide (1 < x.f3) && takesB dev a x) := by
  intro w hb x
  have hd0 := (hb.cell (World.block_lt_of_cell? w1 _ hd)).trans hd
  have ha0 := (hb.cell (World.block_lt_of_cell? w1 _ ha)).trans ha
  have hT := takes_f dev a x
  have hu45 := Tryz.underlying27
  have HB := Aside0.mk (Below.refl w.heap.size w)
  show Calls Tryz.prog 71 #[rv x, .pointer (some ⟨g1, 0, none⟩), .pointer (some ⟨g2, 0, none⟩)] w fun e w'' => e = .returned (.bool (decide (1 < x.f3) && takesB dev a x)) ∧ Below w.heap.size w w''
  unfold rv
  generalize takesB dev a x = tb at hT ⊢
  generalize x.f0 = x0 at *
  generalize x.f1 = x1 at *
  generalize x.f2 = x2 at *
  generalize x.f3 = x3 at *
  generalize x.f4.f0 = x4 at *
  generalize x.f4.f1 = x5 at *
  generalize x.f5 = x6 at *
  go_enter Tryz.func71, Tryz.ntmps71
  by_cases hk : 1 < x3
  · have hkd : decide (1 < x3) = true := decide_eq_true hk
    have hkd' : decide (x3 > 1) = true := decide_eq_true hk
    go_wp2_with (first | ((with_reducible refine gate_dst (N := 3) rfl ?_); refine box_event ?hg (N := 3) ?hd (cs := #[.int .i64 x0, .int .i64 x1, .int .i64 x2, .int .i64 x3, .int .u32 x4, .int .u32 x5, .int .i64 x6]) (t := 27) ?hr ?_; (case hd => rfl); (case hg => rfl); (case hr => first | (go_simp; done) | (go_simp; rfl)); intro g hg w6 hbox hb6; have BK := Aside0.mk hbox; have n1_ := Aside0.mk (below_step HB.out hb6); have hd := (hb6.cell (World.block_lt_of_cell? w _ hd0)).trans hd0; have ha := (hb6.cell (World.block_lt_of_cell? w _ ha0)).trans ha0; clear HB; have HB := n1_; clear n1_ hb6 hbox hg; have hc0 := (blk_cell BK.out 0).trans (show _ = some (Value.int .i64 x0) from rfl); have hc1 := (blk_cell BK.out 1).trans (show _ = some (Value.int .i64 x1) from rfl); have hc2 := (blk_cell BK.out 2).trans (show _ = some (Value.int .i64 x2) from rfl); have hc3 := (blk_cell BK.out 3).trans (show _ = some (Value.int .i64 x3) from rfl); have hc4 := (blk_cell BK.out 4).trans (show _ = some (Value.int .u32 x4) from rfl); have hc5 := (blk_cell BK.out 5).trans (show _ = some (Value.int .u32 x5) from rfl); have hc6 := (blk_cell BK.out 6).trans (show _ = some (Value.int .i64 x6) from rfl)) | (go_at_call 69; refine (rule_takes.calls _ _ _ _ _ _ _ _ _ _ _ hT).mono ?_; rintro e w3 ⟨rfl, hb2⟩))
    go_ret
    exact ⟨by simp [hkd], HB.out.trans (hb2.mono HB.out.size)⟩
  · have hkd : decide (1 < x3) = false := decide_eq_false hk
    have hkd' : decide (x3 > 1) = false := decide_eq_false hk
    go_wp2_with (first | ((with_reducible refine gate_dst (N := 3) rfl ?_); refine box_event ?hg (N := 3) ?hd (cs := #[.int .i64 x0, .int .i64 x1, .int .i64 x2, .int .i64 x3, .int .u32 x4, .int .u32 x5, .int .i64 x6]) (t := 27) ?hr ?_; (case hd => rfl); (case hg => rfl); (case hr => first | (go_simp; done) | (go_simp; rfl)); intro g hg w6 hbox hb6; have BK := Aside0.mk hbox; have n1_ := Aside0.mk (below_step HB.out hb6); clear HB; have HB := n1_; clear n1_ hb6 hbox hg; have hc3 := (blk_cell BK.out 3).trans (show _ = some (Value.int .i64 x3) from rfl)))
    go_ret
    exact ⟨by simp [hkd], HB.out⟩
set_option maxHeartbeats 1000000 in
theorem first1_asked (w1 : World) (g3 : Nat) (g : FuncId) (lb : Array Value) (p : Rl → Bool) (eg : ∀ args w, (callFunc g args).run Tryz.prog w = .ok (.enter g args) w) (hq : w1.cell? ⟨g3, 0, none⟩ = some (.func (.func g) #[] lb)) (hA : AskedAt w1 g lb p) :
    AskedAt w1 119 #[.pointer (some ⟨g3, 0, none⟩)] (fun x => !p x) := by
  intro w hb x
  have hq0 := (hb.cell (World.block_lt_of_cell? w1 _ hq)).trans hq
  have hA0 : ∀ w', Below w1.heap.size w1 w' → Calls Tryz.prog g (#[rv x] ++ lb) w' fun e w'' => e = .returned (.bool (p x)) ∧ Below w'.heap.size w' w'' := fun w' h => hA w' h x
  have HA := Aside0.mk hA0
  have HW := Aside0.mk hb
  clear hA hA0 hb
  have hu45 := Tryz.underlying27
  have HB := Aside0.mk (Below.refl w.heap.size w)
  show Calls Tryz.prog 119 #[rv x, .pointer (some ⟨g3, 0, none⟩)] w fun e w'' => e = .returned (.bool (!p x)) ∧ Below w.heap.size w w''
  unfold rv at HA ⊢
  generalize p x = px at HA ⊢
  generalize x.f0 = x0 at *
  generalize x.f1 = x1 at *
  generalize x.f2 = x2 at *
  generalize x.f3 = x3 at *
  generalize x.f4.f0 = x4 at *
  generalize x.f4.f1 = x5 at *
  generalize x.f5 = x6 at *
  go_enter Tryz.func119, Tryz.ntmps119
  go_wp2_with (first | ((with_reducible refine gate_dst (N := 2) rfl ?_); refine box_event ?hg (N := 2) ?hd (cs := #[.int .i64 x0, .int .i64 x1, .int .i64 x2, .int .i64 x3, .int .u32 x4, .int .u32 x5, .int .i64 x6]) (t := 27) ?hr ?_; (case hd => rfl); (case hg => rfl); (case hr => first | (go_simp; done) | (go_simp; rfl)); intro g' hg w6 hbox hb6; have BK := Aside0.mk hbox; have n1_ := Aside0.mk (below_step HB.out hb6); have hq := (hb6.cell (World.block_lt_of_cell? w _ hq0)).trans hq0; have hc0 := (blk_cell BK.out 0).trans (show _ = some (Value.int .i64 x0) from rfl); have hc1 := (blk_cell BK.out 1).trans (show _ = some (Value.int .i64 x1) from rfl); have hc2 := (blk_cell BK.out 2).trans (show _ = some (Value.int .i64 x2) from rfl); have hc3 := (blk_cell BK.out 3).trans (show _ = some (Value.int .i64 x3) from rfl); have hc4 := (blk_cell BK.out 4).trans (show _ = some (Value.int .u32 x4) from rfl); have hc5 := (blk_cell BK.out 5).trans (show _ = some (Value.int .u32 x5) from rfl); have hc6 := (blk_cell BK.out 6).trans (show _ = some (Value.int .i64 x6) from rfl); clear HB; have HB := n1_; clear n1_ hb6 hbox hg) | (go_at_fn g; refine (HA.out _ (HW.out.trans (HB.out.mono HW.out.size))).mono ?_; rintro e w3 ⟨rfl, hb2⟩))
  go_ret
  exact ⟨rfl, HB.out.trans (hb2.mono HB.out.size)⟩
def IdxP (p : Rl → Bool) (l : List Rl) (r : Int) : Prop := (r = -1 ∧ ∀ j, j < l.length → p (rd_T27 l (j : Int)) = false) ∨ ∃ k : Nat, k < l.length ∧ r = k ∧ p (rd_T27 l (k : Int)) = true ∧ ∀ j, j < k → p (rd_T27 l (j : Int)) = false
set_option maxHeartbeats 1000000 in
set_option maxRecDepth 100000 in
theorem indexFunc_calls (w1 W : World) (g : FuncId) (lb : Array Value) (p : Rl → Bool) (eg : ∀ args w, (callFunc g args).run Tryz.prog w = .ok (.enter g args) w) (hA : AskedAt w1 g lb p) (hW : Below w1.heap.size w1 W)
    (A : Option Addr) (c : Nat) (l : List Rl) (hC : Kd.C k27 W A l.length l) (hc : l.length ≤ c) (hbig : l.length ≤ 9223372036854775807) :
    Calls Tryz.prog 159 #[.slice A l.length c, .func (.func g) #[] lb] W fun e w' => ∃ r : Int, e = .returned (.int .i64 r) ∧ IdxP p l r ∧ Below W.heap.size W w' := by
  have hu45 := Tryz.underlying27
  have HA := Aside0.mk hA
  have HW := Aside0.mk hW
  have HC := Aside0.mk hC
  clear hA hW hC
  have HB := Aside0.mk (Below.refl W.heap.size W)
  go_enter Tryz.func159, Tryz.ntmps159
  go_wp2
  go_loopg [5, 8] l.length (fun gg _ s8 wr => ∃ kk : Nat, kk ≤ l.length ∧ l.length - kk ≤ gg ∧ s8 = .int .i64 kk ∧ Aside0 (∀ j, j < kk → p (rd_T27 l (j : Int)) = false) ∧ Aside0 (Below W.heap.size W wr))
  case atStart => exact ⟨0, Nat.zero_le _, by omega, rfl, ⟨fun j hj => absurd hj (Nat.not_lt_zero _)⟩, HB⟩
  case round =>
    clear HB
    obtain ⟨kk, hkk, hg, rfl, HN, HB⟩ := hrel
    by_cases hlt : kk < l.length
    · have hltz : (kk : Int) < (l.length : Int) := by omega
      have hltd : decide ((kk : Int) < (l.length : Int)) = true := decide_eq_true hltz
      have hge : (0 : Int) ≤ (kk : Int) := by omega
      have hged : decide ((0 : Int) ≤ (kk : Int)) = true := decide_eq_true hge
      obtain ⟨ad, e0, h0, h1, h2, h3, h4, h5, h6⟩ := at_T27 (Kd.C_below HC.out HB.out) (kk : Int) hge hltz
      cases e0
      simp only [Int.toNat_natCast] at h0 h1 h2 h3 h4 h5 h6
      have HX := Aside0.mk (HA.out _ (HW.out.trans (HB.out.mono HW.out.size)) (rd_T27 l (kk : Int)))
      unfold rv at HX
      obtain ⟨x, hx⟩ : ∃ x, x = rd_T27 l (kk : Int) := ⟨_, rfl⟩
      rw [← hx] at h0 h1 h2 h3 h4 h5 h6 HX
      have HE := Aside0.mk hx
      clear hx
      cases hp : p x
      · rw [hp] at HX
        go_wp2_with (go_at_fn g; refine HX.out.mono ?_; rintro e w3 ⟨rfl, hb2⟩)
        go_roundg (l.length - (kk + 1))
        case measure => omega
        case rel =>
          refine ⟨kk + 1, by omega, by omega, by go_num, ⟨fun j hj => ?_⟩, ⟨HB.out.trans (hb2.mono HB.out.size)⟩⟩
          by_cases e : j = kk
          · subst e
            rw [← HE.out]; exact hp
          · exact HN.out j (by omega)
      · rw [hp] at HX
        go_wp2_with (go_at_fn g; refine HX.out.mono ?_; rintro e w3 ⟨rfl, hb2⟩)
        go_ret
        exact ⟨(kk : Int), rfl, .inr ⟨kk, hlt, rfl, by rw [← HE.out]; exact hp, HN.out⟩, HB.out.trans (hb2.mono HB.out.size)⟩
    · have hltz : ¬ (kk : Int) < (l.length : Int) := by omega
      obtain rfl : kk = l.length := by omega
      go_wp2
      go_ret
      exact ⟨-1, rfl, .inl ⟨rfl, HN.out⟩, HB.out⟩
theorem rd_getElem (l : List Rl) (j : Nat) (hj : j < l.length) : rd_T27 l (j : Int) = l[j] := by
  unfold rd_T27
  simp [List.getD_eq_getElem?_getD, hj]
structure Kept2 (p : Rl → Bool) (l dk : List Rl) (i j : Nat) : Prop where
  lt : i < j
  le : j ≤ l.length
  len : dk.length = l.length
  low : dk.take i = (l.take j).filter fun x => !p x
  high : dk.drop j = l.drop j
theorem Kept2.keep {p : Rl → Bool} {l dk : List Rl} {i j : Nat} (h : Kept2 p l dk i j) (hj : j < l.length) (hp : p l[j] = false) : Kept2 p l (dk.set i l[j]) (i + 1) (j + 1) := by
  have h1 := h.lt
  have h2 := h.len
  refine ⟨by omega, by omega, by rw [List.length_set]; exact h2, ?_, ?_⟩
  · rw [List.take_succ_eq_append_getElem (by rw [List.length_set]; omega), List.take_set_of_le (Nat.le_refl _), List.getElem_set_self, h.low, List.take_succ_eq_append_getElem hj, List.filter_append]
    simp [hp]
  · rw [List.drop_set_of_lt (by omega)]
    have := congrArg (List.drop 1) h.high
    simpa [List.drop_drop] using this
theorem Kept2.skip {p : Rl → Bool} {l dk : List Rl} {i j : Nat} (h : Kept2 p l dk i j) (hj : j < l.length) (hp : p l[j] = true) : Kept2 p l dk i (j + 1) := by
  have h1 := h.lt
  refine ⟨by omega, by omega, h.len, ?_, ?_⟩
  · rw [h.low, List.take_succ_eq_append_getElem hj, List.filter_append]
    simp [hp]
  · have := congrArg (List.drop 1) h.high
    simpa [List.drop_drop] using this
theorem Kept2.at {p : Rl → Bool} {l dk : List Rl} {i j : Nat} (h : Kept2 p l dk i j) (hj : j < l.length) : rd_T27 dk (j : Int) = l[j] := by
  have hd : j < dk.length := by rw [h.len]; exact hj
  rw [rd_getElem dk j hd]
  have := congrArg (fun x => x[0]?) h.high
  simp only [List.getElem?_drop, Nat.add_zero] at this
  rw [List.getElem?_eq_getElem hd, List.getElem?_eq_getElem hj] at this
  exact Option.some.inj this
theorem Kept2.done {p : Rl → Bool} {l dk : List Rl} {i : Nat} (h : Kept2 p l dk i l.length) : dk.take i = l.filter fun x => !p x := by
  rw [h.low, List.take_length]
theorem Kept2.start {p : Rl → Bool} {l : List Rl} {k : Nat} (hk : k < l.length) (hp : p (rd_T27 l (k : Int)) = true) (hn : ∀ j, j < k → p (rd_T27 l (j : Int)) = false) : Kept2 p l l k (k + 1) := by
  refine ⟨by omega, by omega, rfl, ?_, rfl⟩
  rw [List.take_succ_eq_append_getElem hk, List.filter_append]
  rw [rd_getElem l k hk] at hp
  have : (l.take k).filter (fun x => !p x) = l.take k := by
    rw [List.filter_eq_self]
    intro x hx
    obtain ⟨j, hj, rfl⟩ := List.getElem_of_mem hx
    rw [List.length_take] at hj
    have := hn j (by omega)
    rw [rd_getElem l j (by omega)] at this
    simp [this]
  rw [this]
  simp [hp]
theorem filter_none {p : Rl → Bool} {l : List Rl} (hn : ∀ j, j < l.length → p (rd_T27 l (j : Int)) = false) : (l.filter fun x => !p x) = l := by
  rw [List.filter_eq_self]
  intro x hx
  obtain ⟨j, hj, rfl⟩ := List.getElem_of_mem hx
  have := hn j hj
  rw [rd_getElem l j hj] at this
  simp [this]
theorem addr_add0 (b n : Nat) : (⟨b, 0, none⟩ : Addr).add n = ⟨b, n, none⟩ := by
  unfold Addr.add
  split <;> simp_all
theorem kR_sz : (k27).sz = 7 := rfl
theorem zeroCells_len (z : Array Value) (n : Nat) : (Builtin.zeroCells z n).toList.length = n * z.size := by
  simp [Builtin.zeroCells]
theorem zeroCells_one (z : Array Value) (n : Nat) (h0 : 0 < z.size) (h1 : ∀ q ∈ z.toList, q.oneCell' = true) : ∀ q ∈ (Builtin.zeroCells z n).toList, q.oneCell' = true := by
  intro q hq
  simp only [Builtin.zeroCells, Array.toList_map, List.mem_map] at hq
  obtain ⟨i, _, rfl⟩ := hq
  have hm : i % z.size < z.size := Nat.mod_lt _ h0
  rw [getElem!_pos z _ hm]
  exact h1 _ (by simp)
theorem run_clear_row {P : Program} (w : World) (t e ty te : TypeId) (z : Value) (ht : P.underlying t = some (.slice e)) (hv : ∀ w, (zeroValue e).run P w = .ok z w) (h0 : 0 < z.cells.size) (h1 : ∀ q ∈ z.cells.toList, q.oneCell' = true) (b o n c : Nat) (hn : 0 < n) {cur : Array Value}
    (hh : w.heap[b]? = some (.cells cur te (0, 0))) (hfit : o + n * z.cells.size ≤ cur.size) :
    (Builtin.clear_ #[t] ty #[.slice (some ⟨b, o, none⟩) n c]).run P w = .ok (.tuple #[]) (w.setCells b o (Builtin.zeroCells z.cells n).toList) := by
  have hl := zeroCells_len z.cells n
  have hst := run_storeCells_cells (P := P) b o (Builtin.zeroCells z.cells n).toList 0 w (fun j hj => by rw [cell_of_row w b _ cur te (0, 0) hh]; simp; omega) (fun j _ => blk_frozen hh _) (zeroCells_one _ _ h0 h1)
  simp only [Nat.add_zero] at hst
  obtain ⟨m, rfl⟩ : ∃ m, n = m + 1 := ⟨n - 1, by omega⟩
  simp [Builtin.clear_, run_underlying ht, hv, hst]
theorem R_cleared {w0 W : World} {base b n c : Nat} {xs : List Rl} (HO : Kd.R k27 27 W base (fun _ => True) (.slice (some ⟨b, 0, none⟩) n c) xs) (HB : Below base w0 W) (i : Nat) (hi : i ≤ n) (zs : List Value) (hz : zs.length = (n - i) * 7) :
    (∃ cur : Array Value, W.heap[b]? = some (.cells cur 27 (0, 0)) ∧ n * 7 ≤ cur.size) ∧ Kd.R k27 27 (W.setCells b (i * 7) zs) base (fun _ => True) (.slice (some ⟨b, 0, none⟩) i c) (xs.take i) ∧ Below base w0 (W.setCells b (i * 7) zs) := by
  have hn := (Kd.R_reads' HO).1
  have hbb : base ≤ b := Kd.R_base HO b rfl
  obtain ⟨hok, inner, hown, hr⟩ := Kd.R_take HO (m := i) (by omega)
  obtain ⟨_, inner2, hown2, hr2⟩ := HO
  rcases hown2.2 with ⟨hv, _⟩ | ⟨g', cap', cur, hv, hb, hh, hnc, hcm, hcs, htk⟩
  · cases hv
  injection hv with ha _ hc'
  injection ha with ha
  injection ha with hg
  subst hg
  subst hc'
  have hcs' : cur.size = c * 7 := hcs
  have h7 : n * 7 ≤ c * 7 := Nat.mul_le_mul_right _ (by omega)
  refine ⟨⟨cur, hh, by omega⟩, ?_, ?_⟩
  · obtain ⟨cur', h3, h4, h5⟩ := setCells_row zs (i * 7) W cur hh (by omega)
    rcases hown.2 with ⟨hv, _⟩ | ⟨g2, cap2, cur2, hv, _, hh2, hnc2, _, hcs2, htk2⟩
    · cases hv
    injection hv with ha _ hc'
    injection ha with ha
    injection ha with hg
    subst hg
    subst hc'
    have hcc : cur2 = cur := by
      have := hh2.symm.trans hh
      simpa using this
    subst hcc
    refine ⟨fun _ _ => trivial, inner, ⟨hown.1, .inr ⟨b, c, cur', by rw [List.length_take, Nat.min_eq_left (by omega)], hbb, h3, hnc2, hcm, by rw [h4]; exact hcs2, ?_⟩⟩, hr⟩
    rw [h5, ← htk2]
    have e1 : (xs.take i).length = i := by rw [List.length_take]; omega
    rw [e1, kR_sz, List.append_assoc, List.take_append_of_le_length (by simp; omega), List.take_take, Nat.min_self]
  · obtain ⟨s1, s2, s3, s4⟩ := setCells_same b zs (i * 7) W
    refine HB.trans ⟨s1, s2, s3, by rw [s4]; exact Nat.le_refl _, fun k hk => setCells_far zs _ k (by omega)⟩
set_option maxHeartbeats 2000000 in
set_option maxRecDepth 100000 in
theorem deleteFunc_calls (w1 W : World) (g : FuncId) (lb : Array Value) (p : Rl → Bool) (eg : ∀ args w, (callFunc g args).run Tryz.prog w = .ok (.enter g args) w) (hA : AskedAt w1 g lb p) (hW : Below w1.heap.size w1 W)
    (v : Value) (l : List Rl) (HO0 : Kd.R k27 27 W w1.heap.size (fun _ => True) v l) (hbig : l.length ≤ 9223372036854775807) :
    Calls Tryz.prog 118 #[v, .func (.func g) #[] lb] W fun e w' => ∃ v', e = .returned v' ∧ Kd.R k27 27 w' w1.heap.size (fun _ => True) v' (l.filter fun x => !p x) ∧ Below w1.heap.size w1 w' := by
  have hu45 := Tryz.underlying27
  have huS := Tryz.underlying35
  obtain ⟨A, c, hv, hc, hC⟩ := Kd.R_reads HO0
  subst hv
  have CI := Aside0.mk (indexFunc_calls w1 W g lb p eg hA hW A c l hC hc hbig)
  have HO := Aside0.mk HO0
  have HA := Aside0.mk hA
  have HB := Aside0.mk hW
  clear hA hW hC HO0
  go_enter Tryz.func118, Tryz.ntmps118
  go_upto_if 12 with (go_at_call 159; refine CI.out.mono ?_; rintro e w3 ⟨r, rfl, hI, hb⟩; have n0_ := Aside0.mk (Kd.R_below HO.out hb); have n1_ := Aside0.mk (HB.out.trans (hb.mono HB.out.size)); clear HO HB hb; have HO := n0_; have HB := n1_; clear n0_ n1_)
  have HI := Aside0.mk hI
  clear hI CI
  rcases HI.out with ⟨rfl, hn⟩ | ⟨k, hk, rfl, hp, hn⟩
  · clear hn
    go_wp2
    go_ret
    refine ⟨_, rfl, ?_, HB.out⟩
    rcases HI.out with ⟨_, hn⟩ | ⟨k, hk, h0, _⟩
    · rw [filter_none hn]; exact HO.out
    · omega
  · have HS := Aside0.mk (Kept2.start hk hp hn)
    clear hn hp HI
    obtain ⟨bk, rfl⟩ : ∃ bk, A = some ⟨bk, 0, none⟩ := by
      obtain ⟨_, inner, hown, _⟩ := HO.out
      rcases hown.2 with ⟨hv, h0⟩ | ⟨g', cap', cur, hv, _⟩
      · omega
      · injection hv with ha _ _
        exact ⟨g', ha⟩
    have hne : (((k : Int)) == -1) = false := beq_eq_false_iff_ne.2 (by omega)
    have hnd : decide ((k : Int) = -1) = false := decide_eq_false (by omega)
    have hnp : ((k : Int) = -1) = False := eq_false (by omega)
    go_wp2_with fail
    go_loopg [5, 6, 7] l.length (fun gg s5 s6 _ wr => ∃ (i j : Nat) (dk : List Rl), s5 = .int .i64 i ∧ s6 = .int .i64 j ∧ j ≤ l.length ∧ l.length - j ≤ gg ∧ Aside0 (Kept2 p l dk i j) ∧ Aside0 (Kd.R k27 27 wr w1.heap.size (fun _ => True) (.slice (some ⟨bk, 0, none⟩) l.length c) dk) ∧ Aside0 (Below w1.heap.size w1 wr))
    case atStart => exact ⟨k, k + 1, l, rfl, by go_num, by omega, by omega, HS, HO, HB⟩
    case round =>
      clear HO HB HS
      obtain ⟨i, j, dk, rfl, rfl, hjl, hgg, HS, HO, HB⟩ := hrel
      have hlen := HS.out.len
      have hij := HS.out.lt
      by_cases hlt : j < l.length
      · have hltz : (j : Int) < (l.length : Int) := by omega
        have hltd : decide ((j : Int) < (l.length : Int)) = true := decide_eq_true hltz
        have hge : (0 : Int) ≤ (j : Int) := by omega
        have hged : decide ((0 : Int) ≤ (j : Int)) = true := decide_eq_true hge
        have hCd := (Kd.R_reads' HO.out).2.2
        obtain ⟨ad, e0, h0, h1, h2, h3, h4, h5, h6⟩ := at_T27 hCd (j : Int) hge (by rw [hlen]; exact hltz)
        cases e0
        clear hCd
        rw [HS.out.at hlt] at h0 h1 h2 h3 h4 h5 h6
        have HX := Aside0.mk (fun w' hw => HA.out w' hw (l[j]))
        unfold rv at HX
        obtain ⟨x, hx⟩ : ∃ x, x = l[j] := ⟨_, rfl⟩
        rw [← hx] at h0 h1 h2 h3 h4 h5 h6 HX
        have HE := Aside0.mk hx
        clear hx
        simp only [Int.toNat_natCast, addr_add0] at h0 h1 h2 h3 h4 h5 h6
        cases hp : p x
        · rw [hp] at HX
          go_upto_if 29 with (go_at_fn g; refine (HX.out _ (below_alloc HB.out _)).mono ?_; rintro e w3 ⟨rfl, hb2⟩)
          have BV := Aside0.mk (blk_below (blk_new wr _) hb2)
          have n0_ := Aside0.mk (Kd.R_below (Kd.R_alloc HO.out _) hb2)
          have n1_ := Aside0.mk (below_step (below_alloc HB.out _) hb2)
          clear HO HB hb2 h0 h1 h2 h3 h4 h5 h6
          have HO := n0_
          have HB := n1_
          clear n0_ n1_
          have c0 := (blk_cell BV.out 0).trans (show _ = some (Value.int .i64 x.f0) from rfl)
          have c1 := (blk_cell BV.out 1).trans (show _ = some (Value.int .i64 x.f1) from rfl)
          have c2 := (blk_cell BV.out 2).trans (show _ = some (Value.int .i64 x.f2) from rfl)
          have c3 := (blk_cell BV.out 3).trans (show _ = some (Value.int .i64 x.f3) from rfl)
          have c4 := (blk_cell BV.out 4).trans (show _ = some (Value.int .u32 x.f4.f0) from rfl)
          have c5 := (blk_cell BV.out 5).trans (show _ = some (Value.int .u32 x.f4.f1) from rfl)
          have c6 := (blk_cell BV.out 6).trans (show _ = some (Value.int .i64 x.f5) from rfl)
          have hilt : (i : Int) < (l.length : Int) := by omega
          have hiltd : decide ((i : Int) < (l.length : Int)) = true := decide_eq_true hilt
          have hige : (0 : Int) ≤ (i : Int) := by omega
          have higed : decide ((0 : Int) ≤ (i : Int)) = true := decide_eq_true hige
          obtain ⟨ad, cc, ea, hcl, _, hcc⟩ := Kd.C_get ((Kd.R_reads' HO.out).2.2) z27 (i : Int) hige (by rw [hlen]; exact hilt)
          cases ea
          simp only [addr_add0] at hcc
          have HCC := Aside0.mk hcc
          clear hcc
          go_wp2_with ((with_reducible refine gate_ (.store 27 (.tmp 33) (.tmp 32)) rfl ?_); refine Kd.R_store k27 (w0 := w1) w1.heap.size rfl rfl 27 (.tmp 33) (.tmp 32) rfl 27 (g := bk) (n := l.length) (cap := c) (i : Int) 0 dk x (rv x) (rcells x) cc (fun _ => True) (fun _ => False) rfl ?hoff rfl rfl (by kernel_rfl) ?h1 HO.out hige hilt hcl HCC.out ?hj ?hM (fun _ hk => hk.elim) HB.out ?_; (case hoff => simp [kR_sz]); (case h1 => intro q hq; simp only [rcells, List.mem_cons, List.not_mem_nil, or_false] at hq; rcases hq with rfl | rfl | rfl | rfl | rfl | rfl | rfl <;> rfl); (case hj => exact Nat.le_refl 7); (case hM => have e7 : List.drop (0 + (rcells x).length) cc = [] := List.drop_eq_nil_of_le (by rw [hcl]; exact Nat.le_refl 7); rw [e7]; exact k27_mkM _ _ _ x); intro w5 ho hb3 _)
          go_roundg (l.length - (j + 1))
          case measure => omega
          case rel =>
            have hs : Kept2 p l (dk.set i l[j]) (i + 1) (j + 1) := HS.out.keep hlt (by rw [← HE.out]; exact hp)
            rw [← HE.out] at hs
            exact ⟨i + 1, j + 1, dk.set i x, by go_num, by go_num, by omega, by omega, ⟨hs⟩, ⟨ho⟩, ⟨hb3⟩⟩
        · rw [hp] at HX
          go_wp2_with (go_at_fn g; refine (HX.out _ (below_alloc HB.out _)).mono ?_; rintro e w3 ⟨rfl, hb2⟩)
          go_roundg (l.length - (j + 1))
          case measure => omega
          case rel => exact ⟨i, j + 1, dk, rfl, by go_num, by omega, by omega, ⟨HS.out.skip hlt (by rw [← HE.out]; exact hp)⟩, ⟨Kd.R_below (Kd.R_alloc HO.out _) hb2⟩, ⟨below_step (below_alloc HB.out _) hb2⟩⟩
      · obtain rfl : j = l.length := by omega
        have hltz : ¬ (l.length : Int) < (l.length : Int) := by omega
        have HZ := fun (zs : List Value) (hz : zs.length = (l.length - i) * 7) => R_cleared HO.out HB.out i (by omega) zs hz
        have v45 : ∀ w, (zeroValue 27).run Tryz.prog w = .ok (rv z27) w := fun _ => by kernel_rfl
        obtain ⟨⟨cur, hcur, hfit⟩, HO5, HB5⟩ := HZ (Builtin.zeroCells (rv z27).cells (l.length - i)).toList (zeroCells_len _ _)
        have hcl : ∀ ty, (Builtin.clear_ #[35] ty #[.slice (some ⟨bk, i * 7, none⟩) (l.length - i) (c - i)]).run Tryz.prog wr = .ok (.tuple #[]) (wr.setCells bk (i * 7) (Builtin.zeroCells (rv z27).cells (l.length - i)).toList) :=
          fun ty => run_clear_row wr _ _ ty _ _ huS v45 (show (0 : Nat) < 7 by decide) (by intro q hq; simp only [rv, Value.cells, List.mem_cons, List.not_mem_nil, or_false] at hq; rcases hq with rfl | rfl | rfl | rfl | rfl | rfl | rfl <;> rfl) bk (i * 7) _ _ (by omega) hcur (by show i * 7 + (l.length - i) * 7 ≤ cur.size; omega)
        generalize wr.setCells bk (i * 7) (Builtin.zeroCells (rv z27).cells (l.length - i)).toList = w5 at hcl HO5 HB5
        have HO5 := Aside0.mk HO5
        have HB5 := Aside0.mk HB5
        clear HZ v45 hcur hfit HO HB
        go_wp2
        go_ret
        exact ⟨_, rfl, by rw [← HS.out.done]; exact HO5.out, HB5.out⟩
end Go.Proofs.YtfjamikpahmfhaaGreatDoor.P
end
section
open List renaming map_toArray → mA_, map_cons → mC_, map_nil → mN_, length_drop → lD_, length_take → lT_, setIfInBounds_toArray → sI_, set_cons_zero → z0_, set_cons_succ → z1_
namespace Go.Proofs.YtfjamikpahmfhaaGreatDoor.P
open Go.RowKit Go.Proofs.YtfjamikpahmfhaaGreatDoorW.PrintWords Go.Proofs.YtfjamikpahmfhaaGreatDoorW.PrintLast Go.Proofs.YtfjamikpahmfhaaGreatDoorW.PrintMore
attribute [local go_sem] max2_int min2_int max_two min_two max_three min_three max_four min_four
set_option linter.unusedVariables false
set_option linter.unusedSimpArgs false
def cmp_isNaN_int.f (a0 : Int) : Option (Bool) := some (a0 != a0)
set_option maxHeartbeats 8000000 in
set_option maxRecDepth 100000 in
theorem cmp_isNaN_int.calls (a0 : Int) (r : Bool) (w : World) (h : cmp_isNaN_int.f a0 = some r) :
  Calls Tryz.prog 117 #[.int .i64 a0] w fun e w' => e = .returned (.bool r) ∧ Drawn0 w w' := by
 have H : (some (a0 != a0)) = some r := h
 clear h
 obtain rfl := Option.some.inj H
 go_enter Tryz.func117, Tryz.ntmps117
 go_wp2
 go_ret
 exact ⟨by first | rfl | (simp; done) | (simp [*]; done), by repeat (first | exact Drawn0.refl _ | apply Drawn0.step)⟩
def cmp_Compare_int.f (a0 : Int) (a1 : Int) : Option (Int) := (cmp_isNaN_int.f a0).bind fun t430 => ((cmp_isNaN_int.f a1).bind fun t431 => (if t430 = true then (if t431 = true then (some 0) else (some (-1))) else (if t431 = true then (some 1) else (if a0 < a1 then (some (-1)) else (if a0 > a1 then (some 1) else (some 0))))))
set_option maxHeartbeats 8000000 in
set_option maxRecDepth 100000 in
theorem cmp_Compare_int.calls (a0 : Int) (a1 : Int) (r : Int) (w : World) (h : cmp_Compare_int.f a0 a1 = some r) :
  Calls Tryz.prog 66 #[.int .i64 a0, .int .i64 a1] w fun e w' => e = .returned (.int .i64 r) ∧ Drawn0 w w' := by
 have H : ((cmp_isNaN_int.f a0).bind fun t430 => ((cmp_isNaN_int.f a1).bind fun t431 => (if t430 = true then (if t431 = true then (some 0) else (some (-1))) else (if t431 = true then (some 1) else (if a0 < a1 then (some (-1)) else (if a0 > a1 then (some 1) else (some 0))))))) = some r := h
 clear h
 replace H := Option.bind_eq_some_iff.mp H
 obtain ⟨t430, A30, H⟩ := H
 try dsimp only at H
 have A3 := Aside0.mk A30
 clear A30
 replace H := Option.bind_eq_some_iff.mp H
 obtain ⟨t431, A40, H⟩ := H
 try dsimp only at H
 have A4 := Aside0.mk A40
 clear A40
 by_cases c5 : t430 = true
 ·subst c5
  rw [if_pos rfl] at H
  by_cases c6 : t431 = true
  ·subst c6
   rw [if_pos rfl] at H
   obtain rfl := Option.some.inj H
   go_enter Tryz.func66, Tryz.ntmps66
   go_wp2_with (first | ((with_reducible refine gate_callee (f := 117) rfl ?_); refine goesL_ (some 8) rfl rfl Tryz.func117 (by kernel_rfl) rfl #[.int .i64 a0] rfl (by (try simp only [mA_, mC_, mN_]); first|done|rfl|(simp only [lD_, lT_]; rfl)) ?_; (with_reducible refine (cmp_isNaN_int.calls a0 true _ A3.out).mono ?_); rintro e w' ⟨rfl, ⟨nd, rfl⟩⟩; refine ⟨_, rfl, ?_⟩) | ((with_reducible refine gate_callee (f := 117) rfl ?_); refine goesL_ (some 10) rfl rfl Tryz.func117 (by kernel_rfl) rfl #[.int .i64 a1] rfl (by (try simp only [mA_, mC_, mN_]); first|done|rfl|(simp only [lD_, lT_]; rfl)) ?_; (with_reducible refine (cmp_isNaN_int.calls a1 true _ A4.out).mono ?_); rintro e w' ⟨rfl, ⟨nd, rfl⟩⟩; refine ⟨_, rfl, ?_⟩))
   go_ret
   exact ⟨by first | rfl | (simp; done) | (simp [*]; done), by repeat (first | exact Drawn0.refl _ | apply Drawn0.step)⟩
  ·replace c6 := Bool.eq_false_iff.mpr c6
   subst c6
   rw [if_neg (show ¬ (false = true) by decide)] at H
   obtain rfl := Option.some.inj H
   go_enter Tryz.func66, Tryz.ntmps66
   go_wp2_with (first | ((with_reducible refine gate_callee (f := 117) rfl ?_); refine goesL_ (some 8) rfl rfl Tryz.func117 (by kernel_rfl) rfl #[.int .i64 a0] rfl (by (try simp only [mA_, mC_, mN_]); first|done|rfl|(simp only [lD_, lT_]; rfl)) ?_; (with_reducible refine (cmp_isNaN_int.calls a0 true _ A3.out).mono ?_); rintro e w' ⟨rfl, ⟨nd, rfl⟩⟩; refine ⟨_, rfl, ?_⟩) | ((with_reducible refine gate_callee (f := 117) rfl ?_); refine goesL_ (some 10) rfl rfl Tryz.func117 (by kernel_rfl) rfl #[.int .i64 a1] rfl (by (try simp only [mA_, mC_, mN_]); first|done|rfl|(simp only [lD_, lT_]; rfl)) ?_; (with_reducible refine (cmp_isNaN_int.calls a1 false _ A4.out).mono ?_); rintro e w' ⟨rfl, ⟨nd, rfl⟩⟩; refine ⟨_, rfl, ?_⟩))
   go_ret
   exact ⟨by first | rfl | (simp; done) | (simp [*]; done), by repeat (first | exact Drawn0.refl _ | apply Drawn0.step)⟩
 ·replace c5 := Bool.eq_false_iff.mpr c5
  subst c5
  rw [if_neg (show ¬ (false = true) by decide)] at H
  by_cases c7 : t431 = true
  ·subst c7
   rw [if_pos rfl] at H
   obtain rfl := Option.some.inj H
   go_enter Tryz.func66, Tryz.ntmps66
   go_wp2_with (first | ((with_reducible refine gate_callee (f := 117) rfl ?_); refine goesL_ (some 8) rfl rfl Tryz.func117 (by kernel_rfl) rfl #[.int .i64 a0] rfl (by (try simp only [mA_, mC_, mN_]); first|done|rfl|(simp only [lD_, lT_]; rfl)) ?_; (with_reducible refine (cmp_isNaN_int.calls a0 false _ A3.out).mono ?_); rintro e w' ⟨rfl, ⟨nd, rfl⟩⟩; refine ⟨_, rfl, ?_⟩) | ((with_reducible refine gate_callee (f := 117) rfl ?_); refine goesL_ (some 10) rfl rfl Tryz.func117 (by kernel_rfl) rfl #[.int .i64 a1] rfl (by (try simp only [mA_, mC_, mN_]); first|done|rfl|(simp only [lD_, lT_]; rfl)) ?_; (with_reducible refine (cmp_isNaN_int.calls a1 true _ A4.out).mono ?_); rintro e w' ⟨rfl, ⟨nd, rfl⟩⟩; refine ⟨_, rfl, ?_⟩))
   go_ret
   exact ⟨by first | rfl | (simp; done) | (simp [*]; done), by repeat (first | exact Drawn0.refl _ | apply Drawn0.step)⟩
  ·replace c7 := Bool.eq_false_iff.mpr c7
   subst c7
   rw [if_neg (show ¬ (false = true) by decide)] at H
   by_cases c8 : a0 < a1
   ·rw [if_pos c8] at H
    have c8b0 : decide (a0 < a1) = true := decide_eq_true c8
    clear c8
    obtain rfl := Option.some.inj H
    go_enter Tryz.func66, Tryz.ntmps66
    go_wp2_with (first | ((with_reducible refine gate_callee (f := 117) rfl ?_); refine goesL_ (some 8) rfl rfl Tryz.func117 (by kernel_rfl) rfl #[.int .i64 a0] rfl (by (try simp only [mA_, mC_, mN_]); first|done|rfl|(simp only [lD_, lT_]; rfl)) ?_; (with_reducible refine (cmp_isNaN_int.calls a0 false _ A3.out).mono ?_); rintro e w' ⟨rfl, ⟨nd, rfl⟩⟩; refine ⟨_, rfl, ?_⟩) | ((with_reducible refine gate_callee (f := 117) rfl ?_); refine goesL_ (some 10) rfl rfl Tryz.func117 (by kernel_rfl) rfl #[.int .i64 a1] rfl (by (try simp only [mA_, mC_, mN_]); first|done|rfl|(simp only [lD_, lT_]; rfl)) ?_; (with_reducible refine (cmp_isNaN_int.calls a1 false _ A4.out).mono ?_); rintro e w' ⟨rfl, ⟨nd, rfl⟩⟩; refine ⟨_, rfl, ?_⟩))
    go_ret
    exact ⟨by first | rfl | (simp; done) | (simp [*]; done), by repeat (first | exact Drawn0.refl _ | apply Drawn0.step)⟩
   ·rw [if_neg c8] at H
    have c8b0 : decide (a0 < a1) = false := decide_eq_false c8
    clear c8
    by_cases c9 : a0 > a1
    ·rw [if_pos c9] at H
     have c9b0 : decide (a1 < a0) = true := decide_eq_true c9
     clear c9
     obtain rfl := Option.some.inj H
     go_enter Tryz.func66, Tryz.ntmps66
     go_wp2_with (first | ((with_reducible refine gate_callee (f := 117) rfl ?_); refine goesL_ (some 8) rfl rfl Tryz.func117 (by kernel_rfl) rfl #[.int .i64 a0] rfl (by (try simp only [mA_, mC_, mN_]); first|done|rfl|(simp only [lD_, lT_]; rfl)) ?_; (with_reducible refine (cmp_isNaN_int.calls a0 false _ A3.out).mono ?_); rintro e w' ⟨rfl, ⟨nd, rfl⟩⟩; refine ⟨_, rfl, ?_⟩) | ((with_reducible refine gate_callee (f := 117) rfl ?_); refine goesL_ (some 10) rfl rfl Tryz.func117 (by kernel_rfl) rfl #[.int .i64 a1] rfl (by (try simp only [mA_, mC_, mN_]); first|done|rfl|(simp only [lD_, lT_]; rfl)) ?_; (with_reducible refine (cmp_isNaN_int.calls a1 false _ A4.out).mono ?_); rintro e w' ⟨rfl, ⟨nd, rfl⟩⟩; refine ⟨_, rfl, ?_⟩))
     go_ret
     exact ⟨by first | rfl | (simp; done) | (simp [*]; done), by repeat (first | exact Drawn0.refl _ | apply Drawn0.step)⟩
    ·rw [if_neg c9] at H
     have c9b0 : decide (a1 < a0) = false := decide_eq_false c9
     clear c9
     obtain rfl := Option.some.inj H
     go_enter Tryz.func66, Tryz.ntmps66
     go_wp2_with (first | ((with_reducible refine gate_callee (f := 117) rfl ?_); refine goesL_ (some 8) rfl rfl Tryz.func117 (by kernel_rfl) rfl #[.int .i64 a0] rfl (by (try simp only [mA_, mC_, mN_]); first|done|rfl|(simp only [lD_, lT_]; rfl)) ?_; (with_reducible refine (cmp_isNaN_int.calls a0 false _ A3.out).mono ?_); rintro e w' ⟨rfl, ⟨nd, rfl⟩⟩; refine ⟨_, rfl, ?_⟩) | ((with_reducible refine gate_callee (f := 117) rfl ?_); refine goesL_ (some 10) rfl rfl Tryz.func117 (by kernel_rfl) rfl #[.int .i64 a1] rfl (by (try simp only [mA_, mC_, mN_]); first|done|rfl|(simp only [lD_, lT_]; rfl)) ?_; (with_reducible refine (cmp_isNaN_int.calls a1 false _ A4.out).mono ?_); rintro e w' ⟨rfl, ⟨nd, rfl⟩⟩; refine ⟨_, rfl, ?_⟩))
     go_ret
     exact ⟨by first | rfl | (simp; done) | (simp [*]; done), by repeat (first | exact Drawn0.refl _ | apply Drawn0.step)⟩
def cmp_Or_int.l0 : Nat → Int → List Int → Int → Int → Option (Int)
 | 0, _, _, _, _ => none
 | k + 1, x3, x6, x7, x8 => if x8 < x7 then (if 0 ≤ x8 then (if x8 < (x6.length : Int) then (if (rd x6 x8) = x3 then (cmp_Or_int.l0 k x3 x6 x7 (wrap64 (x8 + 1))) else (some (rd x6 x8))) else (none)) else (none)) else (some x3)
def cmp_Or_int.f (k : Nat) (l0 : List Int) : Option (Int) := cmp_Or_int.l0 k 0 l0 (l0.length : Int) 0
set_option maxHeartbeats 8000000 in
set_option maxRecDepth 100000 in
theorem cmp_Or_int.calls (k : Nat) (A0 : Option Addr) (c0 : Nat) (l0 : List Int) (r : Int) (w : World) (hr0 : Kd.C (Kd.int .i64) w A0 l0.length l0) (hc0 : l0.length ≤ c0) (h : cmp_Or_int.f k l0 = some r) :
  Calls Tryz.prog 160 #[.slice A0 l0.length c0] w fun e w' => e = .returned (.int .i64 r) ∧ Drawn0 w w' := by
 have HR0 := Aside0.mk hr0
 have HC0 := Aside0.mk hc0
 clear hr0 hc0
 have H : (cmp_Or_int.l0 k 0 l0 (l0.length : Int) 0) = some r := h
 clear h
 have H' := Aside0.mk H
 clear H
 go_enter Tryz.func160, Tryz.ntmps160
 go_wp2
 go_loopg [8] k (fun kq v8 w' => ∃ (x8_1 : Int), v8 = .int .i64 x8_1 ∧ Aside0 (cmp_Or_int.l0 kq 0 l0 (l0.length : Int) x8_1 = some r) ∧ Aside0 (kq ≤ k) ∧ Drawn0 w w')
 case atStart => exact ⟨(0), (by first | rfl | (simp; done) | (simp [*]; done)), H', ⟨Nat.le_refl _⟩, by repeat (first | exact Drawn0.refl _ | apply Drawn0.step)⟩
 case round =>
  clear H'
  try clear c1
  obtain ⟨x8_1, rfl, HA, HK1, ⟨m1, rfl⟩⟩ := hrel
  cases gk with
  | zero => exact absurd HA.out (by simp [cmp_Or_int.l0])
  | succ k1 =>
   have H := HA.out
   clear HA
   simp only [cmp_Or_int.l0] at H
   by_cases c2 : x8_1 < (l0.length : Int)
   ·rw [if_pos c2] at H
    have c2b0 : decide (x8_1 < (l0.length : Int)) = true := decide_eq_true c2
    clear c2
    by_cases c3 : 0 ≤ x8_1
    ·rw [if_pos c3] at H
     have c3b0 : decide (0 ≤ x8_1) = true := decide_eq_true c3
     clear c3
     by_cases c4 : x8_1 < (l0.length : Int)
     ·rw [if_pos c4] at H
      have c4b0 : decide (x8_1 < (l0.length : Int)) = true := decide_eq_true c4
      clear c4
      by_cases c5 : (rd l0 x8_1) = 0
      ·rw [if_pos c5] at H
       have c5b0 : ((rd l0 x8_1) == 0) = true := beq_iff_eq.mpr c5
       have c5b1 : ((rd l0 x8_1) != 0) = false := bne_eq_false_iff_eq.mpr c5
       clear c5
       have H' := Aside0.mk H
       clear H
       have p432 : 0 ≤ (x8_1 : Int) := of_decide_eq_true (by first | (with_reducible assumption) | assumption)
       have q432 : x8_1 < (l0.length : Int) := of_decide_eq_true (by first | (with_reducible assumption) | assumption)
       obtain ⟨ad432, e432, hx432_0⟩ := Kd.at_int HR0.out x8_1 p432 q432
       cases e432
       replace p432 := eq_true p432
       replace q432 := eq_true q432
       go_wp2
       go_roundg k1
       case measure => have := HK1.out; omega
       case rel => exact ⟨(wrap64 (x8_1 + 1)), (by first | rfl | (simp; done) | (simp [*]; done)), H', ⟨by have := HK1.out; omega⟩, by repeat (first | exact Drawn0.refl _ | apply Drawn0.step)⟩
      ·rw [if_neg c5] at H
       have c5b0 : ((rd l0 x8_1) == 0) = false := beq_eq_false_iff_ne.mpr c5
       have c5b1 : ((rd l0 x8_1) != 0) = true := bne_iff_ne.mpr c5
       obtain rfl := Option.some.inj H
       have p432 : 0 ≤ (x8_1 : Int) := of_decide_eq_true (by first | (with_reducible assumption) | assumption)
       have q432 : x8_1 < (l0.length : Int) := of_decide_eq_true (by first | (with_reducible assumption) | assumption)
       obtain ⟨ad432, e432, hx432_0⟩ := Kd.at_int HR0.out x8_1 p432 q432
       cases e432
       replace p432 := eq_true p432
       replace q432 := eq_true q432
       go_wp2
       go_ret
       exact ⟨by first | rfl | (simp; done) | (simp [*]; done), by repeat (first | exact Drawn0.refl _ | apply Drawn0.step)⟩
     ·rw [if_neg c4] at H
      exact absurd H (by simp)
    ·rw [if_neg c3] at H
     exact absurd H (by simp)
   ·rw [if_neg c2] at H
    have c2b0 : decide (x8_1 < (l0.length : Int)) = false := decide_eq_false c2
    clear c2
    obtain rfl := Option.some.inj H
    go_wp2
    go_ret
    exact ⟨by first | rfl | (simp; done) | (simp [*]; done), by repeat (first | exact Drawn0.refl _ | apply Drawn0.step)⟩
def rule_ahead.f (k : Nat) (a0_0 : Int) (a0_1 : Int) (a0_2 : Int) (a0_3 : Int) (a0_4 : Int) (a0_5 : Int) (a0_6 : Int) (a1_0 : Int) (a1_1 : Int) (a1_2 : Int) (a1_3 : Int) (a1_4 : Int) (a1_5 : Int) (a1_6 : Int) : Option (Int) := (cmp_Compare_int.f a1_2 a0_2).bind fun t435 => ((cmp_Compare_int.f a0_0 a1_0).bind fun t436 => ((cmp_Or_int.f k (([t435, t436] : List Int))).bind fun t440 => (some t440)))
def rule_ahead.T1 : Bool × List (List Nat × List Nat) := (true, [([], []), ([0], [0]), ([], []), ([2], [2]), ([1, 3], [1, 3]), ([], []), ([5], [5]), ([], []), ([7], [7]), ([6, 8, 4], [6, 8]), ([4, 9], [4, 9]), ([10, 9], [10]), ([11, 11, 0, 1, 2, 3, 4, 5, 6, 7, 8, 9, 10, 11], [11])])
def rule_ahead.B1 : List Nat := [0, 1, 0, 4, 15, 0, 32, 0, 128, 511, 1023, 2047, 4095]
theorem rule_ahead.tab1 : rtab .any (opsOf Tryz.f121 1) = rule_ahead.T1 := by kernel_rfl
theorem rule_ahead.bits1 : waitsOk rule_ahead.T1.2 rule_ahead.B1 = true := by kernel_rfl
set_option maxHeartbeats 8000000 in
set_option maxRecDepth 100000 in
theorem rule_ahead.calls (k : Nat) (a0_0 : Int) (a0_1 : Int) (a0_2 : Int) (a0_3 : Int) (a0_4 : Int) (a0_5 : Int) (a0_6 : Int) (a1_0 : Int) (a1_1 : Int) (a1_2 : Int) (a1_3 : Int) (a1_4 : Int) (a1_5 : Int) (a1_6 : Int) (r : Int) (w : World) (h : rule_ahead.f k a0_0 a0_1 a0_2 a0_3 a0_4 a0_5 a0_6 a1_0 a1_1 a1_2 a1_3 a1_4 a1_5 a1_6 = some r) :
  Calls Tryz.prog 121 #[.agg #[.int .i64 a0_0, .int .i64 a0_1, .int .i64 a0_2, .int .i64 a0_3, .int .u32 a0_4, .int .u32 a0_5, .int .i64 a0_6], .agg #[.int .i64 a1_0, .int .i64 a1_1, .int .i64 a1_2, .int .i64 a1_3, .int .u32 a1_4, .int .u32 a1_5, .int .i64 a1_6]] w fun e w' => e = .returned (.int .i64 r) ∧ Below w.heap.size w w' := by
 have hu27 := Tryz.underlying27
 have HB := Aside0.mk (Below.refl w.heap.size w)
 have H : ((cmp_Compare_int.f a1_2 a0_2).bind fun t435 => ((cmp_Compare_int.f a0_0 a1_0).bind fun t436 => ((cmp_Or_int.f k (([t435, t436] : List Int))).bind fun t440 => (some t440)))) = some r := h
 clear h
 replace H := Option.bind_eq_some_iff.mp H
 obtain ⟨t435, A30, H⟩ := H
 try dsimp only at H
 have A3 := Aside0.mk A30
 clear A30
 replace H := Option.bind_eq_some_iff.mp H
 obtain ⟨t436, A40, H⟩ := H
 try dsimp only at H
 have A4 := Aside0.mk A40
 clear A40
 obtain ⟨y437, hy437⟩ : ∃ y_ : List Int, y_ = (([t435, t436] : List Int)) := ⟨_, rfl⟩
 replace H : ((cmp_Or_int.f k y437).bind fun t440 => (some t440)) = some r := by first | (rw [hy437]; with_reducible exact H) | (have H2_ := (Option.bind_some _ _).symm.trans H; rw [hy437]; with_reducible exact H2_) | (have H2_ := (Option.bind_some _ _).symm.trans H; with_reducible exact H2_) | with_reducible exact H | (rw [hy437]; exact H) | exact H
 have Ny437 := Aside0.mk hy437
 clear hy437
 replace H := Option.bind_eq_some_iff.mp H
 obtain ⟨t440, A50, H⟩ := H
 try dsimp only at H
 have A5 := Aside0.mk A50
 clear A50
 obtain rfl := Option.some.inj H
 go_enter Tryz.func121, Tryz.ntmps121
 try go_wp2_with (first | ((with_reducible refine gate_dst (N := 2) rfl ?_); refine box_event ?hg (N := 2) ?hd (cs := #[.int .i64 a0_0, .int .i64 a0_1, .int .i64 a0_2, .int .i64 a0_3, .int .u32 a0_4, .int .u32 a0_5, .int .i64 a0_6]) (t := 27) ?hr ?_; (case hd => rfl); (case hg => rfl); (case hr => first | (go_simp; done) | (go_simp; rfl)); intro gb433 hg w6 hbox hb; have n0_ := Aside0.mk (below_step (gB HB.out) hb); have n1_ := Aside0.mk (hbox); have n2_ := Aside0.mk ((by rw [hg]; exact (below_size (gB HB.out)) : w.heap.size ≤ gb433)); have n3_ := Aside0.mk ((by rw [hg]; exact (below_size (gB HB.out)) : w.heap.size ≤ gb433)); clear HB; have HB := n0_; have BK433 := n1_; have GW433 := n2_; have GE433 := n3_; clear n0_ n1_ n2_ n3_; clear hb hbox hg) | ((with_reducible refine gate_dst (N := 3) rfl ?_); refine box_event ?hg (N := 3) ?hd (cs := #[.int .i64 a1_0, .int .i64 a1_1, .int .i64 a1_2, .int .i64 a1_3, .int .u32 a1_4, .int .u32 a1_5, .int .i64 a1_6]) (t := 27) ?hr ?_; (case hd => rfl); (case hg => rfl); (case hr => first | (go_simp; done) | (go_simp; rfl)); intro gb434 hg w7 hbox hb; have n0_ := Aside0.mk (blk_below (g := gb433) (o := .cells #[.int .i64 a0_0, .int .i64 a0_1, .int .i64 a0_2, .int .i64 a0_3, .int .u32 a0_4, .int .u32 a0_5, .int .i64 a0_6] 27 (0, 0)) (gK BK433.out) hb); have n1_ := Aside0.mk (below_step (by repeat first|(with_reducible first|exact HB.out|apply ba|apply bd|apply b1|refine bs ?_ GE433.out)|exact HB.out) hb); have n2_ := Aside0.mk (hbox); have n3_ := Aside0.mk ((by rw [hg]; exact (below_size (by repeat first|(with_reducible first|exact HB.out|apply ba|apply bd|apply b1|refine bs ?_ GE433.out)|exact HB.out)) : w.heap.size ≤ gb434)); have n4_ := Aside0.mk ((by rw [hg]; exact (below_size (by repeat first|(with_reducible first|exact HB.out|apply ba|apply bd|apply b1|refine bs ?_ GE433.out)|exact HB.out)) : w.heap.size ≤ gb434)); have n5_ := Aside0.mk ((by rw [hg]; exact Nat.ne_of_lt (blk_lt (g := gb433) (o := .cells #[.int .i64 a0_0, .int .i64 a0_1, .int .i64 a0_2, .int .i64 a0_3, .int .u32 a0_4, .int .u32 a0_5, .int .i64 a0_6] 27 (0, 0)) (gK BK433.out)) : gb433 ≠ gb434)); have n6_ := Aside0.mk ((by rw [hg]; exact Nat.ne_of_gt (blk_lt (g := gb433) (o := .cells #[.int .i64 a0_0, .int .i64 a0_1, .int .i64 a0_2, .int .i64 a0_3, .int .u32 a0_4, .int .u32 a0_5, .int .i64 a0_6] 27 (0, 0)) (gK BK433.out)) : gb434 ≠ gb433)); clear BK433; clear HB; have BK433 := n0_; have HB := n1_; have BK434 := n2_; have GW434 := n3_; have GE434 := n4_; have NB433_434 := n5_; have NB434_433 := n6_; clear n0_ n1_ n2_ n3_ n4_ n5_ n6_; clear hb hbox hg))
 have n0_ := Aside0.mk (blk_drew BK433.out)
 have n1_ := Aside0.mk (blk_drew BK434.out)
 have n2_ := Aside0.mk (below_drew1 HB.out)
 clear BK433
 clear BK434
 clear HB
 have BK433 := n0_
 have BK434 := n1_
 have HB := n2_
 clear n0_ n1_ n2_
 refine start_ (n := 13) (S := fun w' => w'.cell? ⟨gb434, 0, none⟩ = some (.int .i64 a1_0) ∧ w'.cell? ⟨gb434, 1, none⟩ = some (.int .i64 a1_1) ∧ w'.cell? ⟨gb434, 2, none⟩ = some (.int .i64 a1_2) ∧ w'.cell? ⟨gb434, 3, none⟩ = some (.int .i64 a1_3) ∧ w'.cell? ⟨gb434, 4, none⟩ = some (.int .u32 a1_4) ∧ w'.cell? ⟨gb434, 5, none⟩ = some (.int .u32 a1_5) ∧ w'.cell? ⟨gb434, 6, none⟩ = some (.int .i64 a1_6) ∧ w'.cell? ⟨gb433, 0, none⟩ = some (.int .i64 a0_0) ∧ w'.cell? ⟨gb433, 1, none⟩ = some (.int .i64 a0_1) ∧ w'.cell? ⟨gb433, 2, none⟩ = some (.int .i64 a0_2) ∧ w'.cell? ⟨gb433, 3, none⟩ = some (.int .i64 a0_3) ∧ w'.cell? ⟨gb433, 4, none⟩ = some (.int .u32 a0_4) ∧ w'.cell? ⟨gb433, 5, none⟩ = some (.int .u32 a0_5) ∧ w'.cell? ⟨gb433, 6, none⟩ = some (.int .i64 a0_6)) (ds := []) #[false, false, false, false, false, false, false, false, false, false, false, false, false] (by kernel_rfl) rfl rfl ⟨(blk_cell BK434.out 0).trans rfl, (blk_cell BK434.out 1).trans rfl, (blk_cell BK434.out 2).trans rfl, (blk_cell BK434.out 3).trans rfl, (blk_cell BK434.out 4).trans rfl, (blk_cell BK434.out 5).trans rfl, (blk_cell BK434.out 6).trans rfl, (blk_cell BK433.out 0).trans rfl, (blk_cell BK433.out 1).trans rfl, (blk_cell BK433.out 2).trans rfl, (blk_cell BK433.out 3).trans rfl, (blk_cell BK433.out 4).trans rfl, (blk_cell BK433.out 5).trans rfl, (blk_cell BK433.out 6).trans rfl⟩ (fun hHeld => ?_); refine with_tabW rule_ahead.tab1 rule_ahead.bits1 (fun HT_ HW_ => ?_)
 generalize w7.drew = w8 at BK433 BK434 HB hHeld ⊢
 refine pure_ (i := 0) (N := some 5) (v := ?_) (a' := ?_) #[true, false, false, false, false, false, false, false, false, false, false, false, false] rfl rfl (any_of HT_.out (by kernel_rfl)) (fun _ _ _ h => h) (Or.inl ⟨by rfl, ?_⟩) ?_ ?_
 rotate_left
 ·intro w'
  go_simp
  with_reducible rfl
 rotate_left
 ·simp only [Act.put, sI_, z0_, z1_, i64_w, i32_w]
  rfl
 refine pure_ (i := 2) (N := some 7) (v := ?_) (a' := ?_) #[true, false, true, false, false, false, false, false, false, false, false, false, false] rfl rfl (any_of HT_.out (by kernel_rfl)) (fun _ _ _ h => h) (Or.inl ⟨by rfl, ?_⟩) ?_ ?_
 rotate_left
 ·intro w'
  go_simp
  with_reducible rfl
 rotate_left
 ·simp only [Act.put, sI_, z0_, z1_, i64_w, i32_w]
  rfl
 refine pure_ (i := 5) (N := some 10) (v := ?_) (a' := ?_) #[true, false, true, false, false, true, false, false, false, false, false, false, false] rfl rfl (any_of HT_.out (by kernel_rfl)) (fun _ _ _ h => h) (Or.inl ⟨by rfl, ?_⟩) ?_ ?_
 rotate_left
 ·intro w'
  go_simp
  with_reducible rfl
 rotate_left
 ·simp only [Act.put, sI_, z0_, z1_, i64_w, i32_w]
  rfl
 refine pure_ (i := 7) (N := some 12) (v := ?_) (a' := ?_) #[true, false, true, false, false, true, false, true, false, false, false, false, false] rfl rfl (any_of HT_.out (by kernel_rfl)) (fun _ _ _ h => h) (Or.inl ⟨by rfl, ?_⟩) ?_ ?_
 rotate_left
 ·intro w'
  go_simp
  with_reducible rfl
 rotate_left
 ·simp only [Act.put, sI_, z0_, z1_, i64_w, i32_w]
  rfl
 refine take_ (i := 1) (N := some 6) (v := ?_) (a' := ?_) #[true, true, true, false, false, true, false, true, false, false, false, false, false] rfl rfl (take_ofW HT_.out HW_.out (by kernel_rfl)) (fun _ _ _ h => h) (Or.inl ⟨by rfl, ?_⟩) hHeld ?_ ?_
 rotate_left
 ·rintro w' ⟨s0, s1, s2, s3, s4, s5, s6, s7, s8, s9, s10, s11, s12, s13⟩
  go_simp
  with_reducible rfl
 rotate_left
 ·simp only [Act.put, sI_, z0_, z1_, i64_w, i32_w]
  rfl
 refine take_ (i := 3) (N := some 8) (v := ?_) (a' := ?_) #[true, true, true, true, false, true, false, true, false, false, false, false, false] rfl rfl (take_ofW HT_.out HW_.out (by kernel_rfl)) (fun _ _ _ h => h) (Or.inl ⟨by rfl, ?_⟩) hHeld ?_ ?_
 rotate_left
 ·rintro w' ⟨s0, s1, s2, s3, s4, s5, s6, s7, s8, s9, s10, s11, s12, s13⟩
  go_simp
  with_reducible rfl
 rotate_left
 ·simp only [Act.put, sI_, z0_, z1_, i64_w, i32_w]
  rfl
 refine take_ (i := 6) (N := some 11) (v := ?_) (a' := ?_) #[true, true, true, true, false, true, true, true, false, false, false, false, false] rfl rfl (take_ofW HT_.out HW_.out (by kernel_rfl)) (fun _ _ _ h => h) (Or.inl ⟨by rfl, ?_⟩) hHeld ?_ ?_
 rotate_left
 ·rintro w' ⟨s0, s1, s2, s3, s4, s5, s6, s7, s8, s9, s10, s11, s12, s13⟩
  go_simp
  with_reducible rfl
 rotate_left
 ·simp only [Act.put, sI_, z0_, z1_, i64_w, i32_w]
  rfl
 refine take_ (i := 8) (N := some 13) (v := ?_) (a' := ?_) #[true, true, true, true, false, true, true, true, true, false, false, false, false] rfl rfl (take_ofW HT_.out HW_.out (by kernel_rfl)) (fun _ _ _ h => h) (Or.inl ⟨by rfl, ?_⟩) hHeld ?_ ?_
 rotate_left
 ·rintro w' ⟨s0, s1, s2, s3, s4, s5, s6, s7, s8, s9, s10, s11, s12, s13⟩
  go_simp
  with_reducible rfl
 rotate_left
 ·simp only [Act.put, sI_, z0_, z1_, i64_w, i32_w]
  rfl
 refine one_ (i := 4) (N := some 9) #[true, true, true, true, true, true, true, true, true, false, false, false, false] rfl rfl (one_of HT_.out (by kernel_rfl)) (by decide) (fun K hK => ?_)
 refine goes_ Tryz.func66 (by kernel_rfl) rfl #[.int .i64 a1_2, .int .i64 a0_2] (by rfl) rfl rfl (by (try simp only [mA_, mC_, mN_]); first|done|rfl|(simp only [lD_, lT_]; rfl)) ?_
 with_reducible refine (cmp_Compare_int.calls a1_2 a0_2 t435 _ A3.out).mono ?_
 rintro e w' ⟨rfl, ⟨nd, rfl⟩⟩
 refine ⟨_, rfl, ?_⟩
 refine hK.out _ _ ⟨(blk_cell BK434.out 0).trans rfl, (blk_cell BK434.out 1).trans rfl, (blk_cell BK434.out 2).trans rfl, (blk_cell BK434.out 3).trans rfl, (blk_cell BK434.out 4).trans rfl, (blk_cell BK434.out 5).trans rfl, (blk_cell BK434.out 6).trans rfl, (blk_cell BK433.out 0).trans rfl, (blk_cell BK433.out 1).trans rfl, (blk_cell BK433.out 2).trans rfl, (blk_cell BK433.out 3).trans rfl, (blk_cell BK433.out 4).trans rfl, (blk_cell BK433.out 5).trans rfl, (blk_cell BK433.out 6).trans rfl⟩ (fun hHeld => ?_)
 clear hK K
 refine norm_ (a' := ?_) ?_ ?_
 rotate_left
 ·show Act.put _ (some 9) _ = _
  simp only [Act.put, sI_, z0_, z1_, i64_w, i32_w]
  rfl
 refine one_ (i := 9) (N := some 14) #[true, true, true, true, true, true, true, true, true, true, false, false, false] rfl rfl (one_of HT_.out (by kernel_rfl)) (by decide) (fun K hK => ?_)
 refine goes_ Tryz.func66 (by kernel_rfl) rfl #[.int .i64 a0_0, .int .i64 a1_0] (by rfl) rfl rfl (by (try simp only [mA_, mC_, mN_]); first|done|rfl|(simp only [lD_, lT_]; rfl)) ?_
 with_reducible refine (cmp_Compare_int.calls a0_0 a1_0 t436 _ A4.out).mono ?_
 rintro e w' ⟨rfl, ⟨nd, rfl⟩⟩
 refine ⟨_, rfl, ?_⟩
 refine hK.out _ _ ⟨(blk_cell BK434.out 0).trans rfl, (blk_cell BK434.out 1).trans rfl, (blk_cell BK434.out 2).trans rfl, (blk_cell BK434.out 3).trans rfl, (blk_cell BK434.out 4).trans rfl, (blk_cell BK434.out 5).trans rfl, (blk_cell BK434.out 6).trans rfl, (blk_cell BK433.out 0).trans rfl, (blk_cell BK433.out 1).trans rfl, (blk_cell BK433.out 2).trans rfl, (blk_cell BK433.out 3).trans rfl, (blk_cell BK433.out 4).trans rfl, (blk_cell BK433.out 5).trans rfl, (blk_cell BK433.out 6).trans rfl⟩ (fun hHeld => ?_)
 clear hK K
 refine norm_ (a' := ?_) ?_ ?_
 rotate_left
 ·show Act.put _ (some 14) _ = _
  simp only [Act.put, sI_, z0_, z1_, i64_w, i32_w]
  rfl
 refine one_ (i := 10) (N := some 15) #[true, true, true, true, true, true, true, true, true, true, true, false, false] rfl rfl (one_of HT_.out (by kernel_rfl)) (by decide) (fun K hK => ?_)
 refine Kd.R_lit_step (Kd.int .i64) _ 3 ?hg (N := 15) ?hd (xs := ([t435, t436] : List Int)) (inner := [.int .i64 t435, .int .i64 t436]) (ok := fun _ => True) (okp := fun _ => True) ?hr ?hp (fun _ hk => hk) trivial (Below.refl _ _) (Nat.le_refl _) (by simp) ?_; (case hd => rfl); (case hg => rfl); (case hr => first | (go_simp; done) | (go_simp; rfl)); (case hp => exact (Reps.one (show Kd.M (Kd.int .i64) _ _ _ t435 [.int .i64 t435] from rfl) (Reps.one (show Kd.M (Kd.int .i64) _ _ _ t436 [.int .i64 t436] from rfl) (Reps.none _ _))))
 intro v438 w9 ho10 hb hg_ hnew_
 clear hg_ hnew_
 (first | rw [← Ny437.out] at ho10 | (simp only [Int.reduceToNat] at ho10; rw [← Ny437.out] at ho10))
 have n0_ := Aside0.mk (Kd.R_lower ho10 (below_size (by repeat first|(with_reducible first|exact HB.out|apply ba|apply bd|apply b1|refine bs ?_ GE433.out|refine bs ?_ GE434.out)|exact HB.out)))
 have n1_ := Aside0.mk (blk_below (g := gb433) (o := .cells #[.int .i64 a0_0, .int .i64 a0_1, .int .i64 a0_2, .int .i64 a0_3, .int .u32 a0_4, .int .u32 a0_5, .int .i64 a0_6] 27 (0, 0)) (gK BK433.out) hb)
 have n2_ := Aside0.mk (blk_below (g := gb434) (o := .cells #[.int .i64 a1_0, .int .i64 a1_1, .int .i64 a1_2, .int .i64 a1_3, .int .u32 a1_4, .int .u32 a1_5, .int .i64 a1_6] 27 (0, 0)) (gK BK434.out) hb)
 have n3_ := Aside0.mk (below_step (by repeat first|(with_reducible first|exact HB.out|apply ba|apply bd|apply b1|refine bs ?_ GE433.out|refine bs ?_ GE434.out)|exact HB.out) hb)
 clear BK433
 clear BK434
 clear HB
 have HO439 := n0_
 have BK433 := n1_
 have BK434 := n2_
 have HB := n3_
 clear n0_ n1_ n2_ n3_
 clear hb ho10
 obtain ⟨Ao11, co11, eo11⟩ := Kd.R_slice HO439.out
 (first | subst eo11 | (injection eo11 with f1_ f2_ f3_; have f4_ := f1_.symm; have f5_ := f3_.symm; clear f1_ f2_ f3_; subst f4_; subst f5_))
 refine hK.out _ _ ⟨(blk_cell BK434.out 0).trans rfl, (blk_cell BK434.out 1).trans rfl, (blk_cell BK434.out 2).trans rfl, (blk_cell BK434.out 3).trans rfl, (blk_cell BK434.out 4).trans rfl, (blk_cell BK434.out 5).trans rfl, (blk_cell BK434.out 6).trans rfl, (blk_cell BK433.out 0).trans rfl, (blk_cell BK433.out 1).trans rfl, (blk_cell BK433.out 2).trans rfl, (blk_cell BK433.out 3).trans rfl, (blk_cell BK433.out 4).trans rfl, (blk_cell BK433.out 5).trans rfl, (blk_cell BK433.out 6).trans rfl⟩ (fun hHeld => ?_)
 clear hK K
 refine norm_ (a' := ?_) ?_ ?_
 rotate_left
 ·show Act.put _ (some 15) _ = _
  simp only [Act.put, sI_, z0_, z1_, i64_w, i32_w]
  rfl
 refine one_ (i := 11) (N := some 16) #[true, true, true, true, true, true, true, true, true, true, true, true, false] rfl rfl (one_of HT_.out (by kernel_rfl)) (by decide) (fun K hK => ?_)
 refine goes_ Tryz.func160 (by kernel_rfl) rfl #[.slice Ao11 y437.length co11] (by rfl) rfl rfl (by (try simp only [mA_, mC_, mN_]); first|done|rfl|(simp only [lD_, lT_]; rfl)) ?_
 with_reducible refine (cmp_Or_int.calls k _ _ y437 t440 _ ?side1 ?side2 A5.out).mono ?_
 (case side1 => repeat (first | exact (Kd.R_reads' HO439.out).2.2 | (with_reducible refine Kd.C_alloc ?_ _) | (with_reducible refine Kd.C_drewN ?_ _) | (with_reducible refine Kd.C_drew ?_)))
 (case side2 => exact (Kd.R_reads' HO439.out).2.1)
 rintro e w' ⟨rfl, ⟨nd, rfl⟩⟩
 refine ⟨_, rfl, ?_⟩
 refine hK.out _ _ ⟨(blk_cell BK434.out 0).trans rfl, (blk_cell BK434.out 1).trans rfl, (blk_cell BK434.out 2).trans rfl, (blk_cell BK434.out 3).trans rfl, (blk_cell BK434.out 4).trans rfl, (blk_cell BK434.out 5).trans rfl, (blk_cell BK434.out 6).trans rfl, (blk_cell BK433.out 0).trans rfl, (blk_cell BK433.out 1).trans rfl, (blk_cell BK433.out 2).trans rfl, (blk_cell BK433.out 3).trans rfl, (blk_cell BK433.out 4).trans rfl, (blk_cell BK433.out 5).trans rfl, (blk_cell BK433.out 6).trans rfl⟩ (fun hHeld => ?_)
 clear hK K
 refine norm_ (a' := ?_) ?_ ?_
 rotate_left
 ·show Act.put _ (some 16) _ = _
  simp only [Act.put, sI_, z0_, z1_, i64_w, i32_w]
  rfl
 refine pure_ (i := 12) (N := some 4) (v := ?_) (a' := ?_) #[true, true, true, true, true, true, true, true, true, true, true, true, true] rfl rfl (any_of HT_.out (by kernel_rfl)) (fun _ _ _ h => h) (Or.inl ⟨by rfl, ?_⟩) ?_ ?_
 rotate_left
 ·intro w'
  go_simp
  with_reducible rfl
 rotate_left
 ·simp only [Act.put, sI_, z0_, z1_, i64_w, i32_w]
  rfl
 refine done_ (done_of HT_.out (by kernel_rfl)) ?_
 try go_wp2
 go_ret
 exact ⟨by first | rfl | (simp [errW_none, errW_some] <;> rfl) | (simp [*, errW_none, errW_some] <;> rfl), by repeat first|(with_reducible first|exact HB.out|apply ba|apply bd|apply b1|refine bs ?_ GE433.out|refine bs ?_ GE434.out)|exact HB.out⟩
end Go.Proofs.YtfjamikpahmfhaaGreatDoor.P
end
section
open List renaming map_toArray → mA_, map_cons → mC_, map_nil → mN_, length_drop → lD_, length_take → lT_, setIfInBounds_toArray → sI_, set_cons_zero → z0_, set_cons_succ → z1_
namespace Go.Proofs.YtfjamikpahmfhaaGreatDoor.P
open Go.RowKit Go.Proofs.YtfjamikpahmfhaaGreatDoorW.PrintWords Go.Proofs.YtfjamikpahmfhaaGreatDoorW.PrintLast Go.Proofs.YtfjamikpahmfhaaGreatDoorW.PrintMore
set_option linter.unusedVariables false
set_option linter.unusedSimpArgs false
section
variable {P : Program} {ops : Array Oper} {rest : List Oper} {o : Oper} {a : Act} {Q : Exit → Act → World → Prop}
theorem store_block {W : World} (hN : o.dst = none) (hgd : o.guard = none) (t : TypeId) (p x : Operand) (ho : o.op = .store t p x) {g : Nat} {te : TypeId} {cur : Array Value} (u : Value) (seg : List Value) (haddr : a.eval p = .pointer (some ⟨g, 0, none⟩)) (hx : a.eval x = u) (hu : u.cells.toList = seg)
  (ht : (P.info? t).map (·.size) = some seg.length) (h1 : ∀ q ∈ seg, q.oneCell' = true) (hh : W.heap[g]? = some (.cells cur te (0, 0))) (hsz : cur.size = seg.length)
  (h : ∀ w1, w1.heap[g]? = some (.cells seg.toArray te (0, 0)) → W.grownBy w1 (some g) → wpList P ops Q rest a w1) : wpList P ops Q (o :: rest) a W := by
 obtain ⟨cur', h3, h4, h5⟩ := setCells_row seg 0 W cur hh (by omega)
 obtain ⟨s1, s2, s3, s4⟩ := setCells_same g seg 0 W
 have hg : W.grownBy (W.setCells g 0 seg) (some g) := ⟨s1, s2, s3, by rw [s4]; exact Nat.le_refl _, fun k _ hk => setCells_far seg 0 k (fun he => hk (by rw [he]))⟩
 have hc : cur' = seg.toArray := by
  apply Array.ext'
  rw [h5]
  simp [List.drop_eq_nil_of_le, hsz]
 subst hc
 refine wpList_plain hgd fun K hK => ?_
 have hrun : (Instr.storeAt t (.pointer (some ⟨g, 0, none⟩)) u).run P W = .ok () (W.setCells g 0 seg) := run_store_run t u seg hh hu ht (by omega) h1
 unfold Oper.wp execOp
 simp only [ho, haddr, hx, Sem.run_bind, Sem.run_pure, Result.andThen_ok, hrun]
 show K (a.put o.dst undef) _
 rw [hN]
 exact hK a _ (h _ h3 hg)
theorem goesV_ {oi : Oper} {N : Option Tmp} {w : World} {K : Act → World → Prop} {f : FuncId} {fn : Func} {x : Operand} {aa : Array Operand} {ts : Array TypeId} (hf : P.funcs[f]? = some fn) (hname : (fn.name == "runtime.NumGoroutine") = false) (hb : fn.body.isSome = true) (args lb : Array Value)
  (hw : Region.wanted oi (yielded ops a.tmps) = true) (hN : oi.dst = N) (hop : oi.op = .call { callee := .value x, args := aa, argTypes := ts }) (hx : a.eval x = .func (.func f) #[] lb) (hargs : aa.map a.eval = args)
  (h : Calls P f (args ++ lb) w fun e w' => ∃ v, e = .returned v ∧ K (a.put N v) w') : if Region.wanted oi (yielded ops a.tmps) = true then Oper.wp P oi a w K Q else K (a.put N undef) w := by
 refine call_ f (args ++ lb) hw hN ?_ h
 have he := enters_ hf hname hb (args ++ lb) w
 unfold execOp
 simp [hop, resolve, Deferred.ofValue, invoke, hx, hargs, he]
end
def aheadI (x y : Rl) : Int := if y.f2 < x.f2 then -1 else if x.f2 < y.f2 then 1 else if x.f0 < y.f0 then -1 else if y.f0 < x.f0 then 1 else 0
theorem compare_f (a b : Int) : cmp_Compare_int.f a b = some (if a < b then -1 else if b < a then 1 else 0) := by
 unfold cmp_Compare_int.f cmp_isNaN_int.f
 simp
 split
 ·rfl
 ·split <;> rfl
theorem or_f (a b : Int) : cmp_Or_int.f 3 [a, b] = some (if a = 0 then b else a) := by
 have r0 : rd [a, b] 0 = a := rfl
 have r1 : rd [a, b] 1 = b := rfl
 have w1 : wrap64 (0 + 1) = 1 := by kernel_rfl
 have w2 : wrap64 (1 + 1) = 2 := by kernel_rfl
 have hl : (([a, b] : List Int).length : Int) = 2 := rfl
 unfold cmp_Or_int.f
 simp only [cmp_Or_int.l0, hl, r0, w1, r1, w2]
 by_cases h : a = 0
 ·subst h
  by_cases h2 : b = 0
  ·subst h2; simp
  ·simp [h2]
 ·simp [h]
theorem ahead_f (x y : Rl) : rule_ahead.f 3 x.f0 x.f1 x.f2 x.f3 x.f4.f0 x.f4.f1 x.f5 y.f0 y.f1 y.f2 y.f3 y.f4.f0 y.f4.f1 y.f5 = some (aheadI x y) := by
 unfold rule_ahead.f
 rw [compare_f]
 simp only [Option.bind_some]
 rw [compare_f]
 simp only [Option.bind_some]
 rw [or_f]
 simp only [Option.bind_some]
 unfold aheadI
 by_cases h1 : y.f2 < x.f2
 ·simp [h1]
 ·by_cases h2 : x.f2 < y.f2
  ·simp [h1, h2]
  ·simp [h1, h2]
theorem ahead_calls (x y : Rl) (w : World) : Calls Tryz.prog 121 #[rv x, rv y] w fun e w' => e = .returned (.int .i64 (aheadI x y)) ∧ Below w.heap.size w w' :=
 rule_ahead.calls 3 _ _ _ _ _ _ _ _ _ _ _ _ _ _ _ w (ahead_f x y)
set_option maxHeartbeats 1000000 in
set_option maxRecDepth 100000 in
theorem clone_calls (W : World) (A : Option Addr) (c : Nat) (l : List Rl) (hC : Kd.C k27 W A l.length l) (hc : l.length ≤ c) (hsz : l.length * 48 ≤ 140737488351232) :
  Calls Tryz.prog 75 #[.slice A l.length c] W fun e w' => ∃ v, e = .returned v ∧ Kd.R k27 27 w' W.heap.size (fun _ => True) v l ∧ Below W.heap.size W w' := by
 have huS := Tryz.underlying35
 rcases A with _ | ad
 ·have hl : l = [] := by
   rcases Nat.eq_zero_or_pos l.length with h0 | h0
   ·exact List.eq_nil_of_length_eq_zero h0
   ·obtain ⟨ad, h, _⟩ := hC.2.2 h0
    cases h
  subst hl
  go_enter Tryz.func75, Tryz.ntmps75
  have hnil : ∀ w, (binOp BinOp.eql 35 (.slice none 0 c) (.slice none 0 0)).run Tryz.prog w = .ok (.bool true) w := fun _ => by kernel_rfl
  go_wp2
  go_ret
  exact ⟨_, rfl, Kd.R_nil _ _ _ _ _, Below.refl _ _⟩
 ·have HC := Aside0.mk hC
  clear hC
  have HO : Aside0 (Kd.R k27 27 (W.alloc (.cells #[] 27)) W.heap.size (fun _ => True) (.slice (some ⟨W.heap.size, 0, none⟩) 0 0) []) := ⟨fun _ _ => trivial, [], ⟨rfl, .inr ⟨W.heap.size, 0, #[], rfl, Nat.le_refl _, blk_new W _, Nat.le_refl _, Nat.zero_le _, rfl, rfl⟩⟩, Reps.none _ _⟩
  have HB := Aside0.mk (below_alloc (Below.refl W.heap.size W) (.cells #[] 27))
  have hnil : ∀ w, (binOp BinOp.eql 35 (.slice (some ad) l.length c) (.slice none 0 0)).run Tryz.prog w = .ok (.bool false) w := fun _ => by kernel_rfl
  go_enter Tryz.func75, Tryz.ntmps75
  go_wp2_with (at_builtin; refine Kd.R_append_rows k27 (w0 := W) W.heap.size rfl (.tmp 5) (.tmp 6) 35 27 (rv z27) 48 rfl Tryz.underlying35 info27 rfl (by decide) (by omega) (.slice (some ⟨W.heap.size, 0, none⟩) 0 0) [] l _ _ _ (fun _ => True) (fun _ => False) rfl rfl HO.out (Kd.C_alloc HC.out _) (fun _ _ h => h) (fun _ h => h.elim) (fun _ _ => trivial) HB.out HB.out.size (by simp only [List.length_nil]; omega) ?_; intro v2 w2 ho hb hg hat)
  go_ret
  exact ⟨_, rfl, ho, hb⟩
def minR (m : Rl) : List Rl → Rl
 | [] => m
 | x :: r => minR (if aheadI x m < 0 then x else m) r
theorem minR_snoc (m : Rl) (l : List Rl) (x : Rl) : minR m (l ++ [x]) = if aheadI x (minR m l) < 0 then x else minR m l := by
 induction l generalizing m with
 | nil => rfl
 | cons y r ih => exact ih _
theorem results_c1 {P : Program} {fn : Func} {p : Tmp} {ty : TypeId} (h : fn.results = #[.cell p ty]) (tmps : Array Value) (w : World) (g : Nat) (t : TypeId) (cs : Array Value) (fr : Nat × Nat) (d : TypeDesc)
  (hp : tmps.getD p undef = .pointer (some ⟨g, 0, none⟩)) (hg : w.heap[g]? = some (.cells cs t fr))
  (hu : P.underlying ty = some d) (hd : (match d with | .struct _ | .array _ _ => true | _ => false) = true) (hi : (P.info? ty).map (·.size) = some cs.size) :
  (results fn tmps).run P w = .ok (.agg cs) w := by
 have hp' : tmps[p]?.getD undef = .pointer (some ⟨g, 0, none⟩) := by simpa using hp
 simp [results, h, hp', asAddr, run_loadVar_row w g t ty cs fr d hg hu hd hi]
theorem addr_add_block (a : Addr) (k : Nat) : (a.add k).block = a.block := by
 unfold Addr.add
 split <;> rfl
theorem C_grown7 {W w1 : World} {ad : Addr} {n g : Nat} {l : List Rl} (h : Kd.C k27 W (some ad) n l) (hg : W.grownBy w1 (some g)) (hne : ad.block ≠ g) : Kd.C k27 w1 (some ad) n l := by
 refine ⟨h.1, h.2.1, fun h0 => ?_⟩
 obtain ⟨ad', e, hc⟩ := h.2.2 h0
 cases e
 refine ⟨ad, rfl, fun j p hj => ?_⟩
 obtain ⟨c, hl, hk, hcs⟩ := hc j p hj
 refine ⟨c, hl, hk, fun i u hi => ?_⟩
 have h1 := hcs i u hi
 have hlt := World.block_lt_of_cell? W _ h1
 rw [addr_add_block] at hlt
 have hb := hg.block ad.block hlt (fun he => hne (by injection he))
 rw [← h1]
 unfold World.cell?
 rw [addr_add_block, hb]
theorem rcells_one (x : Rl) : ∀ q ∈ rcells x, q.oneCell' = true := by
 intro q hq
 simp only [rcells, List.mem_cons, List.not_mem_nil, or_false] at hq
 rcases hq with rfl | rfl | rfl | rfl | rfl | rfl | rfl <;> rfl
def minFunc.T7 : Bool × List (List Nat × List Nat) := (true, [([], []), ([], []), ([], []), ([1, 2], [1, 2]), ([3], [3]), ([], []), ([0, 4, 5], [0, 4, 5]), ([6], [6])])
def minFunc.B7 : List Nat := [0, 0, 0, 6, 14, 0, 63, 127]
theorem minFunc.tab7 : rtab .any (opsOf Tryz.f120 7) = minFunc.T7 := by kernel_rfl
theorem minFunc.bits7 : waitsOk minFunc.T7.2 minFunc.B7 = true := by kernel_rfl
set_option maxHeartbeats 4000000 in
set_option maxRecDepth 100000 in
theorem minFunc_calls (W : World) (A : Option Addr) (c : Nat) (x0 : Rl) (l : List Rl) (hC : Kd.C k27 W A (x0 :: l).length (x0 :: l)) (hc : (x0 :: l).length ≤ c) (hbig : (x0 :: l).length ≤ 9223372036854775807) :
  Calls Tryz.prog 120 #[.slice A (x0 :: l).length c, .func (.func 121) #[] #[]] W fun e w' => e = .returned (rv (minR x0 l)) ∧ Below W.heap.size W w' := by
 have hu45 := Tryz.underlying27
 obtain ⟨L, hL⟩ : ∃ L, L = x0 :: l := ⟨_, rfl⟩
 have hn : 0 < L.length := by rw [hL]; exact Nat.succ_pos _
 rw [← hL] at hC hc hbig ⊢
 have HL := Aside0.mk hL
 clear hL
 have hn1 : ¬ (L.length : Int) < 1 := by omega
 have hn2 : decide ((L.length : Int) < 1) = false := decide_eq_false hn1
 have hn3 : (0 : Int) < (L.length : Int) := by omega
 have hn4 : decide ((0 : Int) < (L.length : Int)) = true := decide_eq_true hn3
 obtain ⟨ad, e0, h0, h1, h2, h3, h4, h5, h6⟩ := at_T27 hC 0 (by omega) hn3
 cases e0
 have hx0 : rd_T27 L 0 = x0 := by rw [HL.out]; rfl
 rw [hx0] at h0 h1 h2 h3 h4 h5 h6
 clear hx0
 simp only [Int.toNat_zero, Nat.zero_mul, Addr.add_zero'] at h0 h1 h2 h3 h4 h5 h6
 have HC := Aside0.mk hC
 clear hC
 have HB := Aside0.mk (Below.refl W.heap.size W)
 go_enter Tryz.func120, Tryz.ntmps120
 go_upto_region 4 with (first | ((with_reducible refine gate_dst (N := 4) rfl ?_); refine box_event ?hg (N := 4) ?hd (cs := #[.int .i64 0, .int .i64 0, .int .i64 0, .int .i64 0, .int .u32 0, .int .u32 0, .int .i64 0]) (t := 27) ?hr ?_; (case hd => rfl); (case hg => rfl); (case hr => first | (go_simp; done) | (go_simp; rfl)); intro g4 hg w6 hbox hb; have BM4 := Aside0.mk hbox; have n1_ := Aside0.mk (below_step HB.out hb); have GE4 := Aside0.mk (show W.heap.size ≤ g4 by rw [hg]; exact below_size HB.out); have n2_ := Aside0.mk (Kd.C_below HC.out hb); replace h0 := (hb.cell (World.block_lt_of_cell? _ _ h0)).trans h0; replace h1 := (hb.cell (World.block_lt_of_cell? _ _ h1)).trans h1; replace h2 := (hb.cell (World.block_lt_of_cell? _ _ h2)).trans h2; replace h3 := (hb.cell (World.block_lt_of_cell? _ _ h3)).trans h3; replace h4 := (hb.cell (World.block_lt_of_cell? _ _ h4)).trans h4; replace h5 := (hb.cell (World.block_lt_of_cell? _ _ h5)).trans h5; replace h6 := (hb.cell (World.block_lt_of_cell? _ _ h6)).trans h6; clear HB HC; have HB := n1_; have HC := n2_; clear n1_ n2_ hb hbox hg) | ((with_reducible refine gate_dst (N := 5) rfl ?_); refine box_event ?hg (N := 5) ?hd (cs := #[.int .i64 0, .int .i64 0, .int .i64 0, .int .i64 0, .int .u32 0, .int .u32 0, .int .i64 0]) (t := 27) ?hr ?_; (case hd => rfl); (case hg => rfl); (case hr => first | (go_simp; done) | (go_simp; rfl)); intro g5 hg w6 hbox hb; have BM5 := Aside0.mk hbox; have n1_ := Aside0.mk (below_step HB.out hb); have GE5 := Aside0.mk (show W.heap.size ≤ g5 by rw [hg]; exact below_size HB.out); have n2_ := Aside0.mk (Kd.C_below HC.out hb); have NE := Aside0.mk (show some g4 ≠ some g5 by have := blk_lt BM4.out; intro he; injection he with he; omega); have CG := Aside0.mk (show ad.block ≠ g5 by have := World.block_lt_of_cell? _ _ h0; omega); have n3_ := Aside0.mk (blk_below BM4.out hb); clear BM4; have BM4 := n3_; clear n3_; clear HB HC; have HB := n1_; have HC := n2_; clear n1_ n2_ hb hbox hg) | ((with_reducible refine gate_ (.store 27 (.tmp 5) (.tmp 13)) rfl ?_); refine store_block rfl rfl 27 (.tmp 5) (.tmp 13) rfl (rv x0) (rcells x0) rfl rfl rfl (by kernel_rfl) (rcells_one _) BM5.out rfl ?_; intro w8 hm hgr; have n1_ := Aside0.mk (pw_below_grown HB.out (some g5) HB.out.size hgr (fun k hk => by injection hk with hk; subst hk; exact GE5.out)); have n0_ := Aside0.mk (C_grown7 HC.out hgr CG.out); have n2_ := Aside0.mk (blk_grown BM4.out hgr NE.out); have n3_ := Aside0.mk hm; clear HB HC BM4 BM5 hm hgr; have HB := n1_; have HC := n0_; have BM4 := n2_; have BM := n3_; clear n0_ n1_ n2_ n3_))
 clear h0 h1 h2 h3 h4 h5 h6
 go_wp2_with fail
 go_loopg [6] L.length (fun gg s6 wr => ∃ i : Nat, 1 ≤ i ∧ i ≤ L.length ∧ L.length - i ≤ gg ∧ s6 = .int .i64 i ∧ Aside0 (wr.heap[g5]? = some (.cells (rcells (minR x0 (l.take (i - 1)))).toArray 27 (0, 0))) ∧ Aside0 (wr.heap[g4]? = some (.cells #[.int .i64 0, .int .i64 0, .int .i64 0, .int .i64 0, .int .u32 0, .int .u32 0, .int .i64 0] 27 (0, 0))) ∧ Aside0 (Kd.C k27 wr (some ad) L.length L) ∧ Aside0 (Below W.heap.size W wr))
 case atStart => exact ⟨1, Nat.le_refl _, hn, by omega, by go_num, ⟨BM.out⟩, BM4, HC, HB⟩
 case round =>
  clear BM BM4 HC HB
  obtain ⟨i, hi1, hi2, hg, rfl, BM, BM4, HC, HB⟩ := hrel
  by_cases hlt : i < L.length
  ·have hltz : (i : Int) < (L.length : Int) := by omega
   have hltd : decide ((i : Int) < (L.length : Int)) = true := decide_eq_true hltz
   have hge : (0 : Int) ≤ (i : Int) := by omega
   have hged : decide ((0 : Int) ≤ (i : Int)) = true := decide_eq_true hge
   obtain ⟨m, hm⟩ : ∃ m, m = minR x0 (l.take (i - 1)) := ⟨_, rfl⟩
   rw [← hm] at BM
   have HM := Aside0.mk hm
   clear hm
   obtain ⟨x, hx⟩ : ∃ x, x = rd_T27 L (i : Int) := ⟨_, rfl⟩
   have HX := Aside0.mk hx
   clear hx
   have hnext : Aside0 (minR x0 (l.take (i + 1 - 1)) = if aheadI x m < 0 then x else m) := by
    constructor
    have hil : i - 1 < l.length := by have := HL.out; rw [this] at hlt; simp only [List.length_cons] at hlt; omega
    have e1 : l.take (i + 1 - 1) = l.take (i - 1) ++ [l[i - 1]] := by
     rw [show i + 1 - 1 = (i - 1) + 1 by omega, List.take_succ_eq_append_getElem hil]
    have e2 : x = l[i - 1] := by
     rw [HX.out, rd_getElem L i hlt]
     simp only [HL.out]
     rw [List.getElem_cons, dif_neg (by omega)]
    rw [e1, minR_snoc, ← HM.out, ← e2]
   go_upto_region 7 with fail
   obtain ⟨ad', e0, h0, h1, h2, h3, h4, h5, h6⟩ := at_T27 HC.out (i : Int) hge hltz
   cases e0
   rw [← HX.out] at h0 h1 h2 h3 h4 h5 h6
   simp only [Int.toNat_natCast] at h0 h1 h2 h3 h4 h5 h6
   have n0_ := Aside0.mk (blk_drew BM.out)
   have n1_ := Aside0.mk (below_drew1 HB.out)
   have n2_ := Aside0.mk (Kd.C_below HC.out (below_drew1 (Below.refl _ _)))
   have n3_ := Aside0.mk (blk_drew BM4.out)
   clear BM HB HC BM4
   have BM := n0_
   have HB := n1_
   have HC := n2_
   have BM4 := n3_
   clear n0_ n1_ n2_ n3_
   refine start_ (n := 8) (S := fun w' => w'.cell? (ad.add (i * 7)) = some (.int .i64 x.f0) ∧ w'.cell? ⟨(ad.add (i * 7)).block, (ad.add (i * 7)).off + 1, none⟩ = some (.int .i64 x.f1) ∧ w'.cell? ⟨(ad.add (i * 7)).block, (ad.add (i * 7)).off + 2, none⟩ = some (.int .i64 x.f2) ∧ w'.cell? ⟨(ad.add (i * 7)).block, (ad.add (i * 7)).off + 3, none⟩ = some (.int .i64 x.f3) ∧ w'.cell? ⟨(ad.add (i * 7)).block, (ad.add (i * 7)).off + 4, none⟩ = some (.int .u32 x.f4.f0) ∧ w'.cell? ⟨(ad.add (i * 7)).block, (ad.add (i * 7)).off + 5, none⟩ = some (.int .u32 x.f4.f1) ∧ w'.cell? ⟨(ad.add (i * 7)).block, (ad.add (i * 7)).off + 6, none⟩ = some (.int .i64 x.f5) ∧ w'.cell? ⟨g5, 0, none⟩ = some (.int .i64 m.f0) ∧ w'.cell? ⟨g5, 1, none⟩ = some (.int .i64 m.f1) ∧ w'.cell? ⟨g5, 2, none⟩ = some (.int .i64 m.f2) ∧ w'.cell? ⟨g5, 3, none⟩ = some (.int .i64 m.f3) ∧ w'.cell? ⟨g5, 4, none⟩ = some (.int .u32 m.f4.f0) ∧ w'.cell? ⟨g5, 5, none⟩ = some (.int .u32 m.f4.f1) ∧ w'.cell? ⟨g5, 6, none⟩ = some (.int .i64 m.f5)) (ds := [6]) #[false, false, false, false, false, false, false, false] (by kernel_rfl) rfl rfl ⟨h0, h1, h2, h3, h4, h5, h6, (blk_cell BM.out 0).trans rfl, (blk_cell BM.out 1).trans rfl, (blk_cell BM.out 2).trans rfl, (blk_cell BM.out 3).trans rfl, (blk_cell BM.out 4).trans rfl, (blk_cell BM.out 5).trans rfl, (blk_cell BM.out 6).trans rfl⟩ (fun hHeld => ?_)
   refine with_tabW minFunc.tab7 minFunc.bits7 (fun HT_ HW_ => ?_)
   generalize World.drew _ = w7 at BM HB HC BM4 hHeld ⊢
   clear h0 h1 h2 h3 h4 h5 h6
   refine pure_ (i := 0) (N := some 20) (v := ?_) (a' := ?_) #[true, false, false, false, false, false, false, false] rfl rfl (any_of HT_.out (by kernel_rfl)) (fun _ _ _ h => h) (Or.inl ⟨by rfl, ?_⟩) ?_ ?_
   rotate_left
   ·intro w'
    go_simp
    with_reducible rfl
   rotate_left
   ·simp only [Act.put, sI_, z0_, z1_, i64_w, i32_w]
    rfl
   refine pure_ (i := 1) (N := some 21) (v := ?_) (a' := ?_) #[true, true, false, false, false, false, false, false] rfl rfl (any_of HT_.out (by kernel_rfl)) (fun _ _ _ h => h) (Or.inl ⟨by rfl, ?_⟩) ?_ ?_
   rotate_left
   ·intro w'
    go_simp
    with_reducible rfl
   rotate_left
   ·simp only [Act.put, sI_, z0_, z1_, i64_w, i32_w]
    rfl
   refine pure_ (i := 2) (N := some 22) (v := ?_) (a' := ?_) #[true, true, true, false, false, false, false, false] rfl rfl (any_of HT_.out (by kernel_rfl)) (fun _ _ _ h => h) (Or.inl ⟨by rfl, ?_⟩) ?_ ?_
   rotate_left
   ·intro w'
    go_simp
    with_reducible rfl
   rotate_left
   ·simp only [Act.put, sI_, z0_, z1_, i64_w, i32_w]
    rfl
   refine pure_ (i := 3) (N := some 23) (v := ?_) (a' := ?_) #[true, true, true, true, false, false, false, false] rfl rfl (any_of HT_.out (by kernel_rfl)) (fun _ _ _ h => h) (Or.inl ⟨by rfl, ?_⟩) ?_ ?_
   rotate_left
   ·intro w'
    go_simp
    with_reducible rfl
   rotate_left
   ·simp only [Act.put, sI_, z0_, z1_, i64_w, i32_w]
    rfl
   refine take_ (i := 4) (N := some 24) (v := ?_) (a' := ?_) #[true, true, true, true, true, false, false, false] rfl rfl (take_ofW HT_.out HW_.out (by kernel_rfl)) (fun _ _ _ h => h) (Or.inl ⟨by rfl, ?_⟩) hHeld ?_ ?_
   rotate_left
   ·rintro w' ⟨s0, s1, s2, s3, s4, s5, s6, s7, s8, s9, s10, s11, s12, s13⟩
    go_simp
    with_reducible rfl
   rotate_left
   ·simp only [Act.put, sI_, z0_, z1_, i64_w, i32_w]
    rfl
   refine take_ (i := 5) (N := some 25) (v := ?_) (a' := ?_) #[true, true, true, true, true, true, false, false] rfl rfl (take_ofW HT_.out HW_.out (by kernel_rfl)) (fun _ _ _ h => h) (Or.inl ⟨by rfl, ?_⟩) hHeld ?_ ?_
   rotate_left
   ·rintro w' ⟨s0, s1, s2, s3, s4, s5, s6, s7, s8, s9, s10, s11, s12, s13⟩
    go_simp
    with_reducible rfl
   rotate_left
   ·simp only [Act.put, sI_, z0_, z1_, i64_w, i32_w]
    rfl
   refine last_ (i := 6) (N := some 26) #[true, true, true, true, true, true, true, false] rfl rfl (one_of HT_.out (by kernel_rfl)) (by decide) (fun K hK => ?_)
   refine goesV_ Tryz.func121 (by kernel_rfl) rfl #[rv x, rv m] #[] (by rfl) rfl rfl (by rfl) (by simp only [mA_, mC_, mN_]; rfl) ?_
   show Calls Tryz.prog 121 #[rv x, rv m] _ _
   with_reducible refine (ahead_calls x m _).mono ?_
   rintro e w3 ⟨rfl, hb⟩
   refine ⟨_, rfl, ?_⟩
   have n0_ := Aside0.mk (blk_below BM.out hb)
   have n1_ := Aside0.mk (below_step HB.out hb)
   have n2_ := Aside0.mk (Kd.C_below HC.out hb)
   have n3_ := Aside0.mk (blk_below BM4.out hb)
   clear BM HB HC BM4 hb
   have BM := n0_
   have HB := n1_
   have HC := n2_
   have BM4 := n3_
   clear n0_ n1_ n2_ n3_
   refine hK.out _ _ ?_
   clear hK K
   refine norm_ (a' := ?_) ?_ ?_
   rotate_left
   ·show Act.put _ (some 26) _ = _
    simp only [Act.put, sI_, z0_, z1_, i64_w, i32_w]
    rfl
   refine pure_ (i := 7) (N := some 27) (v := ?_) (a' := ?_) #[true, true, true, true, true, true, true, true] rfl rfl (any_of HT_.out (by kernel_rfl)) (fun _ _ _ h => h) (Or.inl ⟨by rfl, ?_⟩) ?_ ?_
   rotate_left
   ·intro w'
    go_simp
    with_reducible rfl
   rotate_left
   ·simp only [Act.put, sI_, z0_, z1_, i64_w, i32_w]
    rfl
   refine done_ (done_of HT_.out (by kernel_rfl)) ?_
   clear HW_ HT_ hHeld
   by_cases hA : aheadI x m < 0
   ·have hA1 : decide (aheadI x m < 0) = true := decide_eq_true hA
    obtain ⟨ad', e0, h0, h1, h2, h3, h4, h5, h6⟩ := at_T27 HC.out (i : Int) hge hltz
    cases e0
    rw [← HX.out] at h0 h1 h2 h3 h4 h5 h6
    simp only [Int.toNat_natCast] at h0 h1 h2 h3 h4 h5 h6
    go_wp2_with ((with_reducible refine gate_ (.store 27 (.tmp 5) (.tmp 31)) rfl ?_); refine store_block rfl rfl 27 (.tmp 5) (.tmp 31) rfl (rv x) (rcells x) rfl rfl rfl (by kernel_rfl) (rcells_one _) BM.out rfl ?_; intro w8 hm hgr)
    go_roundg (L.length - (i + 1))
    case measure => omega
    case rel =>
     refine ⟨i + 1, by omega, by omega, by omega, by go_num, ⟨?_⟩, ⟨blk_grown BM4.out hgr NE.out⟩, ⟨C_grown7 HC.out hgr CG.out⟩, ⟨pw_below_grown HB.out (some g5) HB.out.size hgr (fun k hk => by injection hk with hk; subst hk; exact GE5.out)⟩⟩
     rw [hnext.out, if_pos hA]
     exact hm
   ·have hA1 : decide (aheadI x m < 0) = false := decide_eq_false hA
    go_wp2
    go_roundg (L.length - (i + 1))
    case measure => omega
    case rel =>
     refine ⟨i + 1, by omega, by omega, by omega, by go_num, ⟨?_⟩, BM4, HC, HB⟩
     rw [hnext.out, if_neg (by omega)]
     exact BM.out
  ·obtain rfl : i = L.length := by omega
   have hltz : ¬ (L.length : Int) < (L.length : Int) := by omega
   have hll : l.take (L.length - 1) = l := by
    rw [HL.out]
    exact List.take_length
   rw [hll] at BM
   clear hll
   obtain ⟨m, hm⟩ : ∃ m, m = minR x0 l := ⟨_, rfl⟩
   rw [← hm] at BM
   have HM := Aside0.mk hm
   clear hm
   have c0 := (blk_cell BM.out 0).trans (show _ = some (Value.int .i64 m.f0) from rfl)
   have c1 := (blk_cell BM.out 1).trans (show _ = some (Value.int .i64 m.f1) from rfl)
   have c2 := (blk_cell BM.out 2).trans (show _ = some (Value.int .i64 m.f2) from rfl)
   have c3 := (blk_cell BM.out 3).trans (show _ = some (Value.int .i64 m.f3) from rfl)
   have c4 := (blk_cell BM.out 4).trans (show _ = some (Value.int .u32 m.f4.f0) from rfl)
   have c5 := (blk_cell BM.out 5).trans (show _ = some (Value.int .u32 m.f4.f1) from rfl)
   have c6 := (blk_cell BM.out 6).trans (show _ = some (Value.int .i64 m.f5) from rfl)
   go_wp2_with ((with_reducible refine gate_ (.store 27 (.tmp 4) (.tmp 32)) rfl ?_); refine store_block rfl rfl 27 (.tmp 4) (.tmp 32) rfl (rv m) (rcells m) rfl rfl rfl (by kernel_rfl) (rcells_one _) BM4.out rfl ?_; intro w8 hm hgr; clear c0 c1 c2 c3 c4 c5 c6)
   refine bodyPost_ret (results_c1 rfl _ _ g4 27 (rcells m).toArray (0, 0) _ rfl hm Tryz.underlying27 rfl (by kernel_rfl)) rfl ?_
   refine ⟨?_, pw_below_grown HB.out (some g4) HB.out.size hgr (fun k hk => by injection hk with hk; subst hk; exact GE4.out)⟩
   rw [← HM.out]
   rfl
end Go.Proofs.YtfjamikpahmfhaaGreatDoor.P
end
section
open List renaming map_toArray → mA_, map_cons → mC_, map_nil → mN_, length_drop → lD_, length_take → lT_, setIfInBounds_toArray → sI_, set_cons_zero → z0_, set_cons_succ → z1_
namespace Go.Proofs.YtfjamikpahmfhaaGreatDoor.P
open Go.RowKit Go.Proofs.YtfjamikpahmfhaaGreatDoorW.PrintWords Go.Proofs.YtfjamikpahmfhaaGreatDoorW.PrintLast Go.Proofs.YtfjamikpahmfhaaGreatDoorW.PrintMore
attribute [local go_sem] max2_int min2_int max_two min_two max_three min_three max_four min_four
set_option linter.unusedVariables false
set_option linter.unusedSimpArgs false
def rule_Right.f (a0_0 : Int) (a0_1 : Int) (a0_2 : Int) (a0_3 : Int) (a0_4 : Int) (a0_5 : Int) (a0_6 : Int) : Option (Bool) := (rule_within.f a0_0 1 1048576).bind fun t136 => (if t136 = true then ((rule_within.f a0_1 0 7).bind fun t137 => (if t137 = true then ((rule_within.f a0_2 0 1024).bind fun t138 => (if t138 = true then ((rule_within.f a0_3 0 3).bind fun t139 => ((rule_within.f a0_6 0 3).bind fun t140 => (if t140 = true then (if a0_3 = 0 then (if t139 = true then (some (decide (a0_4 ≤ a0_5))) else (some false)) else (if t139 = true then (if a0_6 = 0 then (some (decide (a0_4 ≤ a0_5))) else (some false)) else (some false))) else (if t139 = true then (some false) else (some false))))) else ((rule_within.f a0_6 0 3).bind fun t141 => (if t141 = true then (if a0_3 = 0 then (some false) else (some false)) else (some false))))) else ((rule_within.f a0_6 0 3).bind fun t142 => (if t142 = true then (if a0_3 = 0 then (some false) else (some false)) else (some false))))) else ((rule_within.f a0_6 0 3).bind fun t143 => (if t143 = true then (if a0_3 = 0 then (some false) else (some false)) else (some false))))
set_option maxHeartbeats 8000000 in
set_option maxRecDepth 100000 in
theorem rule_Right.calls (a0_0 : Int) (a0_1 : Int) (a0_2 : Int) (a0_3 : Int) (a0_4 : Int) (a0_5 : Int) (a0_6 : Int) (r : Bool) (w : World) (h : rule_Right.f a0_0 a0_1 a0_2 a0_3 a0_4 a0_5 a0_6 = some r) :
  Calls Tryz.prog 60 #[.agg #[.int .i64 a0_0, .int .i64 a0_1, .int .i64 a0_2, .int .i64 a0_3, .int .u32 a0_4, .int .u32 a0_5, .int .i64 a0_6]] w fun e w' => e = .returned (.bool r) ∧ Below w.heap.size w w' := by
 have hu27 := Tryz.underlying27
 have HB := Aside0.mk (Below.refl w.heap.size w)
 have H : ((rule_within.f a0_0 1 1048576).bind fun t136 => (if t136 = true then ((rule_within.f a0_1 0 7).bind fun t137 => (if t137 = true then ((rule_within.f a0_2 0 1024).bind fun t138 => (if t138 = true then ((rule_within.f a0_3 0 3).bind fun t139 => ((rule_within.f a0_6 0 3).bind fun t140 => (if t140 = true then (if a0_3 = 0 then (if t139 = true then (some (decide (a0_4 ≤ a0_5))) else (some false)) else (if t139 = true then (if a0_6 = 0 then (some (decide (a0_4 ≤ a0_5))) else (some false)) else (some false))) else (if t139 = true then (some false) else (some false))))) else ((rule_within.f a0_6 0 3).bind fun t141 => (if t141 = true then (if a0_3 = 0 then (some false) else (some false)) else (some false))))) else ((rule_within.f a0_6 0 3).bind fun t142 => (if t142 = true then (if a0_3 = 0 then (some false) else (some false)) else (some false))))) else ((rule_within.f a0_6 0 3).bind fun t143 => (if t143 = true then (if a0_3 = 0 then (some false) else (some false)) else (some false))))) = some r := h
 clear h
 replace H := Option.bind_eq_some_iff.mp H
 obtain ⟨t136, A20, H⟩ := H
 try dsimp only at H
 have A2 := Aside0.mk A20
 clear A20
 by_cases c3 : t136 = true
 ·subst c3
  rw [if_pos rfl] at H
  replace H := Option.bind_eq_some_iff.mp H
  obtain ⟨t137, A40, H⟩ := H
  try dsimp only at H
  have A4 := Aside0.mk A40
  clear A40
  by_cases c5 : t137 = true
  ·subst c5
   rw [if_pos rfl] at H
   replace H := Option.bind_eq_some_iff.mp H
   obtain ⟨t138, A60, H⟩ := H
   try dsimp only at H
   have A6 := Aside0.mk A60
   clear A60
   by_cases c7 : t138 = true
   ·subst c7
    rw [if_pos rfl] at H
    replace H := Option.bind_eq_some_iff.mp H
    obtain ⟨t139, A80, H⟩ := H
    try dsimp only at H
    have A8 := Aside0.mk A80
    clear A80
    replace H := Option.bind_eq_some_iff.mp H
    obtain ⟨t140, A90, H⟩ := H
    try dsimp only at H
    have A9 := Aside0.mk A90
    clear A90
    by_cases c10 : t140 = true
    ·subst c10
     rw [if_pos rfl] at H
     by_cases c11 : a0_3 = 0
     ·rw [if_pos c11] at H
      have c11b0 : (a0_3 == 0) = true := beq_iff_eq.mpr c11
      have c11b1 : (a0_3 != 0) = false := bne_eq_false_iff_eq.mpr c11
      clear c11
      by_cases c12 : t139 = true
      ·subst c12
       rw [if_pos rfl] at H
       obtain rfl := Option.some.inj H
       go_enter Tryz.func60, Tryz.ntmps60
       go_wp2_with (first | ((with_reducible refine gate_dst (N := 1) rfl ?_); refine box_event ?hg (N := 1) ?hd (cs := #[.int .i64 a0_0, .int .i64 a0_1, .int .i64 a0_2, .int .i64 a0_3, .int .u32 a0_4, .int .u32 a0_5, .int .i64 a0_6]) (t := 27) ?hr ?_; (case hd => rfl); (case hg => rfl); (case hr => first | (go_simp; done) | (go_simp; rfl)); intro gb135 hg w13 hbox hb; have n0_ := Aside0.mk (below_step (gB HB.out) hb); have n1_ := Aside0.mk (hbox); have n2_ := Aside0.mk ((by rw [hg]; exact (below_size (gB HB.out)) : w.heap.size ≤ gb135)); have n3_ := Aside0.mk ((by rw [hg]; exact (below_size (gB HB.out)) : w.heap.size ≤ gb135)); clear HB; have HB := n0_; have BK135 := n1_; have GW135 := n2_; have GE135 := n3_; clear n0_ n1_ n2_ n3_; clear hb hbox hg; have hcz14_0 : w13.cell? ⟨gb135, 0, none⟩ = some (.int .i64 a0_0) := (blk_cell BK135.out 0).trans rfl; have hcz14_1 : w13.cell? ⟨gb135, 1, none⟩ = some (.int .i64 a0_1) := (blk_cell BK135.out 1).trans rfl; have hcz14_2 : w13.cell? ⟨gb135, 2, none⟩ = some (.int .i64 a0_2) := (blk_cell BK135.out 2).trans rfl; have hcz14_3 : w13.cell? ⟨gb135, 3, none⟩ = some (.int .i64 a0_3) := (blk_cell BK135.out 3).trans rfl; have hcz14_4 : w13.cell? ⟨gb135, 4, none⟩ = some (.int .u32 a0_4) := (blk_cell BK135.out 4).trans rfl; have hcz14_5 : w13.cell? ⟨gb135, 5, none⟩ = some (.int .u32 a0_5) := (blk_cell BK135.out 5).trans rfl; have hcz14_6 : w13.cell? ⟨gb135, 6, none⟩ = some (.int .i64 a0_6) := (blk_cell BK135.out 6).trans rfl; have hfz14_0 := blk_frozen BK135.out 0; have hfz14_1 := blk_frozen BK135.out 1; have hfz14_2 := blk_frozen BK135.out 2; have hfz14_3 := blk_frozen BK135.out 3; have hfz14_4 := blk_frozen BK135.out 4; have hfz14_5 := blk_frozen BK135.out 5; have hfz14_6 := blk_frozen BK135.out 6) | ((with_reducible refine gate_callee (f := 46) rfl ?_); refine goesL_ (some 7) rfl rfl Tryz.func46 (by kernel_rfl) rfl #[.int .i64 a0_0, .int .i64 1, .int .i64 1048576] rfl (by (try simp only [mA_, mC_, mN_]); first|done|rfl|(simp only [lD_, lT_]; rfl)) ?_; (with_reducible refine (rule_within.calls a0_0 1 1048576 true _ A2.out).mono ?_); rintro e w' ⟨rfl, ⟨nd, rfl⟩⟩; refine ⟨_, rfl, ?_⟩) | (go_at_call 46; (with_reducible refine (rule_within.calls a0_1 0 7 true _ A4.out).mono ?_); rintro e w' ⟨rfl, ⟨nd, rfl⟩⟩) | (go_at_call 46; (with_reducible refine (rule_within.calls a0_2 0 1024 true _ A6.out).mono ?_); rintro e w' ⟨rfl, ⟨nd, rfl⟩⟩) | (go_at_call 46; (with_reducible refine (rule_within.calls a0_3 0 3 true _ A8.out).mono ?_); rintro e w' ⟨rfl, ⟨nd, rfl⟩⟩) | ((with_reducible refine gate_callee (f := 46) rfl ?_); refine goesL_ (some 25) rfl rfl Tryz.func46 (by kernel_rfl) rfl #[.int .i64 a0_6, .int .i64 0, .int .i64 3] rfl (by (try simp only [mA_, mC_, mN_]); first|done|rfl|(simp only [lD_, lT_]; rfl)) ?_; (with_reducible refine (rule_within.calls a0_6 0 3 true _ A9.out).mono ?_); rintro e w' ⟨rfl, ⟨nd, rfl⟩⟩; refine ⟨_, rfl, ?_⟩))
       go_ret
       exact ⟨by first | rfl | (simp [errW_none, errW_some] <;> rfl) | (simp [*, errW_none, errW_some] <;> rfl), by repeat first|(with_reducible first|exact HB.out|apply ba|apply bd|apply b1|refine bs ?_ GE135.out)|exact HB.out⟩
      ·replace c12 := Bool.eq_false_iff.mpr c12
       subst c12
       rw [if_neg (show ¬ (false = true) by decide)] at H
       obtain rfl := Option.some.inj H
       go_enter Tryz.func60, Tryz.ntmps60
       go_wp2_with (first | ((with_reducible refine gate_dst (N := 1) rfl ?_); refine box_event ?hg (N := 1) ?hd (cs := #[.int .i64 a0_0, .int .i64 a0_1, .int .i64 a0_2, .int .i64 a0_3, .int .u32 a0_4, .int .u32 a0_5, .int .i64 a0_6]) (t := 27) ?hr ?_; (case hd => rfl); (case hg => rfl); (case hr => first | (go_simp; done) | (go_simp; rfl)); intro gb135 hg w15 hbox hb; have n0_ := Aside0.mk (below_step (gB HB.out) hb); have n1_ := Aside0.mk (hbox); have n2_ := Aside0.mk ((by rw [hg]; exact (below_size (gB HB.out)) : w.heap.size ≤ gb135)); have n3_ := Aside0.mk ((by rw [hg]; exact (below_size (gB HB.out)) : w.heap.size ≤ gb135)); clear HB; have HB := n0_; have BK135 := n1_; have GW135 := n2_; have GE135 := n3_; clear n0_ n1_ n2_ n3_; clear hb hbox hg; have hcz16_0 : w15.cell? ⟨gb135, 0, none⟩ = some (.int .i64 a0_0) := (blk_cell BK135.out 0).trans rfl; have hcz16_1 : w15.cell? ⟨gb135, 1, none⟩ = some (.int .i64 a0_1) := (blk_cell BK135.out 1).trans rfl; have hcz16_2 : w15.cell? ⟨gb135, 2, none⟩ = some (.int .i64 a0_2) := (blk_cell BK135.out 2).trans rfl; have hcz16_3 : w15.cell? ⟨gb135, 3, none⟩ = some (.int .i64 a0_3) := (blk_cell BK135.out 3).trans rfl; have hcz16_4 : w15.cell? ⟨gb135, 4, none⟩ = some (.int .u32 a0_4) := (blk_cell BK135.out 4).trans rfl; have hcz16_5 : w15.cell? ⟨gb135, 5, none⟩ = some (.int .u32 a0_5) := (blk_cell BK135.out 5).trans rfl; have hcz16_6 : w15.cell? ⟨gb135, 6, none⟩ = some (.int .i64 a0_6) := (blk_cell BK135.out 6).trans rfl; have hfz16_0 := blk_frozen BK135.out 0; have hfz16_1 := blk_frozen BK135.out 1; have hfz16_2 := blk_frozen BK135.out 2; have hfz16_3 := blk_frozen BK135.out 3; have hfz16_4 := blk_frozen BK135.out 4; have hfz16_5 := blk_frozen BK135.out 5; have hfz16_6 := blk_frozen BK135.out 6) | ((with_reducible refine gate_callee (f := 46) rfl ?_); refine goesL_ (some 7) rfl rfl Tryz.func46 (by kernel_rfl) rfl #[.int .i64 a0_0, .int .i64 1, .int .i64 1048576] rfl (by (try simp only [mA_, mC_, mN_]); first|done|rfl|(simp only [lD_, lT_]; rfl)) ?_; (with_reducible refine (rule_within.calls a0_0 1 1048576 true _ A2.out).mono ?_); rintro e w' ⟨rfl, ⟨nd, rfl⟩⟩; refine ⟨_, rfl, ?_⟩) | (go_at_call 46; (with_reducible refine (rule_within.calls a0_1 0 7 true _ A4.out).mono ?_); rintro e w' ⟨rfl, ⟨nd, rfl⟩⟩) | (go_at_call 46; (with_reducible refine (rule_within.calls a0_2 0 1024 true _ A6.out).mono ?_); rintro e w' ⟨rfl, ⟨nd, rfl⟩⟩) | (go_at_call 46; (with_reducible refine (rule_within.calls a0_3 0 3 false _ A8.out).mono ?_); rintro e w' ⟨rfl, ⟨nd, rfl⟩⟩) | ((with_reducible refine gate_callee (f := 46) rfl ?_); refine goesL_ (some 25) rfl rfl Tryz.func46 (by kernel_rfl) rfl #[.int .i64 a0_6, .int .i64 0, .int .i64 3] rfl (by (try simp only [mA_, mC_, mN_]); first|done|rfl|(simp only [lD_, lT_]; rfl)) ?_; (with_reducible refine (rule_within.calls a0_6 0 3 true _ A9.out).mono ?_); rintro e w' ⟨rfl, ⟨nd, rfl⟩⟩; refine ⟨_, rfl, ?_⟩))
       go_ret
       exact ⟨by first | rfl | (simp [errW_none, errW_some] <;> rfl) | (simp [*, errW_none, errW_some] <;> rfl), by repeat first|(with_reducible first|exact HB.out|apply ba|apply bd|apply b1|refine bs ?_ GE135.out)|exact HB.out⟩
     ·rw [if_neg c11] at H
      have c11b0 : (a0_3 == 0) = false := beq_eq_false_iff_ne.mpr c11
      have c11b1 : (a0_3 != 0) = true := bne_iff_ne.mpr c11
      by_cases c17 : t139 = true
      ·subst c17
       rw [if_pos rfl] at H
       by_cases c18 : a0_6 = 0
       ·rw [if_pos c18] at H
        have c18b0 : (a0_6 == 0) = true := beq_iff_eq.mpr c18
        have c18b1 : (a0_6 != 0) = false := bne_eq_false_iff_eq.mpr c18
        clear c18
        obtain rfl := Option.some.inj H
        go_enter Tryz.func60, Tryz.ntmps60
        go_wp2_with (first | ((with_reducible refine gate_dst (N := 1) rfl ?_); refine box_event ?hg (N := 1) ?hd (cs := #[.int .i64 a0_0, .int .i64 a0_1, .int .i64 a0_2, .int .i64 a0_3, .int .u32 a0_4, .int .u32 a0_5, .int .i64 a0_6]) (t := 27) ?hr ?_; (case hd => rfl); (case hg => rfl); (case hr => first | (go_simp; done) | (go_simp; rfl)); intro gb135 hg w19 hbox hb; have n0_ := Aside0.mk (below_step (gB HB.out) hb); have n1_ := Aside0.mk (hbox); have n2_ := Aside0.mk ((by rw [hg]; exact (below_size (gB HB.out)) : w.heap.size ≤ gb135)); have n3_ := Aside0.mk ((by rw [hg]; exact (below_size (gB HB.out)) : w.heap.size ≤ gb135)); clear HB; have HB := n0_; have BK135 := n1_; have GW135 := n2_; have GE135 := n3_; clear n0_ n1_ n2_ n3_; clear hb hbox hg; have hcz20_0 : w19.cell? ⟨gb135, 0, none⟩ = some (.int .i64 a0_0) := (blk_cell BK135.out 0).trans rfl; have hcz20_1 : w19.cell? ⟨gb135, 1, none⟩ = some (.int .i64 a0_1) := (blk_cell BK135.out 1).trans rfl; have hcz20_2 : w19.cell? ⟨gb135, 2, none⟩ = some (.int .i64 a0_2) := (blk_cell BK135.out 2).trans rfl; have hcz20_3 : w19.cell? ⟨gb135, 3, none⟩ = some (.int .i64 a0_3) := (blk_cell BK135.out 3).trans rfl; have hcz20_4 : w19.cell? ⟨gb135, 4, none⟩ = some (.int .u32 a0_4) := (blk_cell BK135.out 4).trans rfl; have hcz20_5 : w19.cell? ⟨gb135, 5, none⟩ = some (.int .u32 a0_5) := (blk_cell BK135.out 5).trans rfl; have hcz20_6 : w19.cell? ⟨gb135, 6, none⟩ = some (.int .i64 a0_6) := (blk_cell BK135.out 6).trans rfl; have hfz20_0 := blk_frozen BK135.out 0; have hfz20_1 := blk_frozen BK135.out 1; have hfz20_2 := blk_frozen BK135.out 2; have hfz20_3 := blk_frozen BK135.out 3; have hfz20_4 := blk_frozen BK135.out 4; have hfz20_5 := blk_frozen BK135.out 5; have hfz20_6 := blk_frozen BK135.out 6) | ((with_reducible refine gate_callee (f := 46) rfl ?_); refine goesL_ (some 7) rfl rfl Tryz.func46 (by kernel_rfl) rfl #[.int .i64 a0_0, .int .i64 1, .int .i64 1048576] rfl (by (try simp only [mA_, mC_, mN_]); first|done|rfl|(simp only [lD_, lT_]; rfl)) ?_; (with_reducible refine (rule_within.calls a0_0 1 1048576 true _ A2.out).mono ?_); rintro e w' ⟨rfl, ⟨nd, rfl⟩⟩; refine ⟨_, rfl, ?_⟩) | (go_at_call 46; (with_reducible refine (rule_within.calls a0_1 0 7 true _ A4.out).mono ?_); rintro e w' ⟨rfl, ⟨nd, rfl⟩⟩) | (go_at_call 46; (with_reducible refine (rule_within.calls a0_2 0 1024 true _ A6.out).mono ?_); rintro e w' ⟨rfl, ⟨nd, rfl⟩⟩) | (go_at_call 46; (with_reducible refine (rule_within.calls a0_3 0 3 true _ A8.out).mono ?_); rintro e w' ⟨rfl, ⟨nd, rfl⟩⟩) | ((with_reducible refine gate_callee (f := 46) rfl ?_); refine goesL_ (some 25) rfl rfl Tryz.func46 (by kernel_rfl) rfl #[.int .i64 a0_6, .int .i64 0, .int .i64 3] rfl (by (try simp only [mA_, mC_, mN_]); first|done|rfl|(simp only [lD_, lT_]; rfl)) ?_; (with_reducible refine (rule_within.calls a0_6 0 3 true _ A9.out).mono ?_); rintro e w' ⟨rfl, ⟨nd, rfl⟩⟩; refine ⟨_, rfl, ?_⟩))
        go_ret
        exact ⟨by first | rfl | (simp [errW_none, errW_some] <;> rfl) | (simp [*, errW_none, errW_some] <;> rfl), by repeat first|(with_reducible first|exact HB.out|apply ba|apply bd|apply b1|refine bs ?_ GE135.out)|exact HB.out⟩
       ·rw [if_neg c18] at H
        have c18b0 : (a0_6 == 0) = false := beq_eq_false_iff_ne.mpr c18
        have c18b1 : (a0_6 != 0) = true := bne_iff_ne.mpr c18
        obtain rfl := Option.some.inj H
        go_enter Tryz.func60, Tryz.ntmps60
        go_wp2_with (first | ((with_reducible refine gate_dst (N := 1) rfl ?_); refine box_event ?hg (N := 1) ?hd (cs := #[.int .i64 a0_0, .int .i64 a0_1, .int .i64 a0_2, .int .i64 a0_3, .int .u32 a0_4, .int .u32 a0_5, .int .i64 a0_6]) (t := 27) ?hr ?_; (case hd => rfl); (case hg => rfl); (case hr => first | (go_simp; done) | (go_simp; rfl)); intro gb135 hg w21 hbox hb; have n0_ := Aside0.mk (below_step (gB HB.out) hb); have n1_ := Aside0.mk (hbox); have n2_ := Aside0.mk ((by rw [hg]; exact (below_size (gB HB.out)) : w.heap.size ≤ gb135)); have n3_ := Aside0.mk ((by rw [hg]; exact (below_size (gB HB.out)) : w.heap.size ≤ gb135)); clear HB; have HB := n0_; have BK135 := n1_; have GW135 := n2_; have GE135 := n3_; clear n0_ n1_ n2_ n3_; clear hb hbox hg; have hcz22_0 : w21.cell? ⟨gb135, 0, none⟩ = some (.int .i64 a0_0) := (blk_cell BK135.out 0).trans rfl; have hcz22_1 : w21.cell? ⟨gb135, 1, none⟩ = some (.int .i64 a0_1) := (blk_cell BK135.out 1).trans rfl; have hcz22_2 : w21.cell? ⟨gb135, 2, none⟩ = some (.int .i64 a0_2) := (blk_cell BK135.out 2).trans rfl; have hcz22_3 : w21.cell? ⟨gb135, 3, none⟩ = some (.int .i64 a0_3) := (blk_cell BK135.out 3).trans rfl; have hcz22_4 : w21.cell? ⟨gb135, 4, none⟩ = some (.int .u32 a0_4) := (blk_cell BK135.out 4).trans rfl; have hcz22_5 : w21.cell? ⟨gb135, 5, none⟩ = some (.int .u32 a0_5) := (blk_cell BK135.out 5).trans rfl; have hcz22_6 : w21.cell? ⟨gb135, 6, none⟩ = some (.int .i64 a0_6) := (blk_cell BK135.out 6).trans rfl; have hfz22_0 := blk_frozen BK135.out 0; have hfz22_1 := blk_frozen BK135.out 1; have hfz22_2 := blk_frozen BK135.out 2; have hfz22_3 := blk_frozen BK135.out 3; have hfz22_4 := blk_frozen BK135.out 4; have hfz22_5 := blk_frozen BK135.out 5; have hfz22_6 := blk_frozen BK135.out 6) | ((with_reducible refine gate_callee (f := 46) rfl ?_); refine goesL_ (some 7) rfl rfl Tryz.func46 (by kernel_rfl) rfl #[.int .i64 a0_0, .int .i64 1, .int .i64 1048576] rfl (by (try simp only [mA_, mC_, mN_]); first|done|rfl|(simp only [lD_, lT_]; rfl)) ?_; (with_reducible refine (rule_within.calls a0_0 1 1048576 true _ A2.out).mono ?_); rintro e w' ⟨rfl, ⟨nd, rfl⟩⟩; refine ⟨_, rfl, ?_⟩) | (go_at_call 46; (with_reducible refine (rule_within.calls a0_1 0 7 true _ A4.out).mono ?_); rintro e w' ⟨rfl, ⟨nd, rfl⟩⟩) | (go_at_call 46; (with_reducible refine (rule_within.calls a0_2 0 1024 true _ A6.out).mono ?_); rintro e w' ⟨rfl, ⟨nd, rfl⟩⟩) | (go_at_call 46; (with_reducible refine (rule_within.calls a0_3 0 3 true _ A8.out).mono ?_); rintro e w' ⟨rfl, ⟨nd, rfl⟩⟩) | ((with_reducible refine gate_callee (f := 46) rfl ?_); refine goesL_ (some 25) rfl rfl Tryz.func46 (by kernel_rfl) rfl #[.int .i64 a0_6, .int .i64 0, .int .i64 3] rfl (by (try simp only [mA_, mC_, mN_]); first|done|rfl|(simp only [lD_, lT_]; rfl)) ?_; (with_reducible refine (rule_within.calls a0_6 0 3 true _ A9.out).mono ?_); rintro e w' ⟨rfl, ⟨nd, rfl⟩⟩; refine ⟨_, rfl, ?_⟩))
        go_ret
        exact ⟨by first | rfl | (simp [errW_none, errW_some] <;> rfl) | (simp [*, errW_none, errW_some] <;> rfl), by repeat first|(with_reducible first|exact HB.out|apply ba|apply bd|apply b1|refine bs ?_ GE135.out)|exact HB.out⟩
      ·replace c17 := Bool.eq_false_iff.mpr c17
       subst c17
       rw [if_neg (show ¬ (false = true) by decide)] at H
       obtain rfl := Option.some.inj H
       go_enter Tryz.func60, Tryz.ntmps60
       go_wp2_with (first | ((with_reducible refine gate_dst (N := 1) rfl ?_); refine box_event ?hg (N := 1) ?hd (cs := #[.int .i64 a0_0, .int .i64 a0_1, .int .i64 a0_2, .int .i64 a0_3, .int .u32 a0_4, .int .u32 a0_5, .int .i64 a0_6]) (t := 27) ?hr ?_; (case hd => rfl); (case hg => rfl); (case hr => first | (go_simp; done) | (go_simp; rfl)); intro gb135 hg w23 hbox hb; have n0_ := Aside0.mk (below_step (gB HB.out) hb); have n1_ := Aside0.mk (hbox); have n2_ := Aside0.mk ((by rw [hg]; exact (below_size (gB HB.out)) : w.heap.size ≤ gb135)); have n3_ := Aside0.mk ((by rw [hg]; exact (below_size (gB HB.out)) : w.heap.size ≤ gb135)); clear HB; have HB := n0_; have BK135 := n1_; have GW135 := n2_; have GE135 := n3_; clear n0_ n1_ n2_ n3_; clear hb hbox hg; have hcz24_0 : w23.cell? ⟨gb135, 0, none⟩ = some (.int .i64 a0_0) := (blk_cell BK135.out 0).trans rfl; have hcz24_1 : w23.cell? ⟨gb135, 1, none⟩ = some (.int .i64 a0_1) := (blk_cell BK135.out 1).trans rfl; have hcz24_2 : w23.cell? ⟨gb135, 2, none⟩ = some (.int .i64 a0_2) := (blk_cell BK135.out 2).trans rfl; have hcz24_3 : w23.cell? ⟨gb135, 3, none⟩ = some (.int .i64 a0_3) := (blk_cell BK135.out 3).trans rfl; have hcz24_4 : w23.cell? ⟨gb135, 4, none⟩ = some (.int .u32 a0_4) := (blk_cell BK135.out 4).trans rfl; have hcz24_5 : w23.cell? ⟨gb135, 5, none⟩ = some (.int .u32 a0_5) := (blk_cell BK135.out 5).trans rfl; have hcz24_6 : w23.cell? ⟨gb135, 6, none⟩ = some (.int .i64 a0_6) := (blk_cell BK135.out 6).trans rfl; have hfz24_0 := blk_frozen BK135.out 0; have hfz24_1 := blk_frozen BK135.out 1; have hfz24_2 := blk_frozen BK135.out 2; have hfz24_3 := blk_frozen BK135.out 3; have hfz24_4 := blk_frozen BK135.out 4; have hfz24_5 := blk_frozen BK135.out 5; have hfz24_6 := blk_frozen BK135.out 6) | ((with_reducible refine gate_callee (f := 46) rfl ?_); refine goesL_ (some 7) rfl rfl Tryz.func46 (by kernel_rfl) rfl #[.int .i64 a0_0, .int .i64 1, .int .i64 1048576] rfl (by (try simp only [mA_, mC_, mN_]); first|done|rfl|(simp only [lD_, lT_]; rfl)) ?_; (with_reducible refine (rule_within.calls a0_0 1 1048576 true _ A2.out).mono ?_); rintro e w' ⟨rfl, ⟨nd, rfl⟩⟩; refine ⟨_, rfl, ?_⟩) | (go_at_call 46; (with_reducible refine (rule_within.calls a0_1 0 7 true _ A4.out).mono ?_); rintro e w' ⟨rfl, ⟨nd, rfl⟩⟩) | (go_at_call 46; (with_reducible refine (rule_within.calls a0_2 0 1024 true _ A6.out).mono ?_); rintro e w' ⟨rfl, ⟨nd, rfl⟩⟩) | (go_at_call 46; (with_reducible refine (rule_within.calls a0_3 0 3 false _ A8.out).mono ?_); rintro e w' ⟨rfl, ⟨nd, rfl⟩⟩) | ((with_reducible refine gate_callee (f := 46) rfl ?_); refine goesL_ (some 25) rfl rfl Tryz.func46 (by kernel_rfl) rfl #[.int .i64 a0_6, .int .i64 0, .int .i64 3] rfl (by (try simp only [mA_, mC_, mN_]); first|done|rfl|(simp only [lD_, lT_]; rfl)) ?_; (with_reducible refine (rule_within.calls a0_6 0 3 true _ A9.out).mono ?_); rintro e w' ⟨rfl, ⟨nd, rfl⟩⟩; refine ⟨_, rfl, ?_⟩))
       go_ret
       exact ⟨by first | rfl | (simp [errW_none, errW_some] <;> rfl) | (simp [*, errW_none, errW_some] <;> rfl), by repeat first|(with_reducible first|exact HB.out|apply ba|apply bd|apply b1|refine bs ?_ GE135.out)|exact HB.out⟩
    ·replace c10 := Bool.eq_false_iff.mpr c10
     subst c10
     rw [if_neg (show ¬ (false = true) by decide)] at H
     by_cases c25 : t139 = true
     ·subst c25
      rw [if_pos rfl] at H
      obtain rfl := Option.some.inj H
      go_enter Tryz.func60, Tryz.ntmps60
      go_wp2_with (first | ((with_reducible refine gate_dst (N := 1) rfl ?_); refine box_event ?hg (N := 1) ?hd (cs := #[.int .i64 a0_0, .int .i64 a0_1, .int .i64 a0_2, .int .i64 a0_3, .int .u32 a0_4, .int .u32 a0_5, .int .i64 a0_6]) (t := 27) ?hr ?_; (case hd => rfl); (case hg => rfl); (case hr => first | (go_simp; done) | (go_simp; rfl)); intro gb135 hg w26 hbox hb; have n0_ := Aside0.mk (below_step (gB HB.out) hb); have n1_ := Aside0.mk (hbox); have n2_ := Aside0.mk ((by rw [hg]; exact (below_size (gB HB.out)) : w.heap.size ≤ gb135)); have n3_ := Aside0.mk ((by rw [hg]; exact (below_size (gB HB.out)) : w.heap.size ≤ gb135)); clear HB; have HB := n0_; have BK135 := n1_; have GW135 := n2_; have GE135 := n3_; clear n0_ n1_ n2_ n3_; clear hb hbox hg; have hcz27_0 : w26.cell? ⟨gb135, 0, none⟩ = some (.int .i64 a0_0) := (blk_cell BK135.out 0).trans rfl; have hcz27_1 : w26.cell? ⟨gb135, 1, none⟩ = some (.int .i64 a0_1) := (blk_cell BK135.out 1).trans rfl; have hcz27_2 : w26.cell? ⟨gb135, 2, none⟩ = some (.int .i64 a0_2) := (blk_cell BK135.out 2).trans rfl; have hcz27_3 : w26.cell? ⟨gb135, 3, none⟩ = some (.int .i64 a0_3) := (blk_cell BK135.out 3).trans rfl; have hcz27_4 : w26.cell? ⟨gb135, 4, none⟩ = some (.int .u32 a0_4) := (blk_cell BK135.out 4).trans rfl; have hcz27_5 : w26.cell? ⟨gb135, 5, none⟩ = some (.int .u32 a0_5) := (blk_cell BK135.out 5).trans rfl; have hcz27_6 : w26.cell? ⟨gb135, 6, none⟩ = some (.int .i64 a0_6) := (blk_cell BK135.out 6).trans rfl; have hfz27_0 := blk_frozen BK135.out 0; have hfz27_1 := blk_frozen BK135.out 1; have hfz27_2 := blk_frozen BK135.out 2; have hfz27_3 := blk_frozen BK135.out 3; have hfz27_4 := blk_frozen BK135.out 4; have hfz27_5 := blk_frozen BK135.out 5; have hfz27_6 := blk_frozen BK135.out 6) | ((with_reducible refine gate_callee (f := 46) rfl ?_); refine goesL_ (some 7) rfl rfl Tryz.func46 (by kernel_rfl) rfl #[.int .i64 a0_0, .int .i64 1, .int .i64 1048576] rfl (by (try simp only [mA_, mC_, mN_]); first|done|rfl|(simp only [lD_, lT_]; rfl)) ?_; (with_reducible refine (rule_within.calls a0_0 1 1048576 true _ A2.out).mono ?_); rintro e w' ⟨rfl, ⟨nd, rfl⟩⟩; refine ⟨_, rfl, ?_⟩) | (go_at_call 46; (with_reducible refine (rule_within.calls a0_1 0 7 true _ A4.out).mono ?_); rintro e w' ⟨rfl, ⟨nd, rfl⟩⟩) | (go_at_call 46; (with_reducible refine (rule_within.calls a0_2 0 1024 true _ A6.out).mono ?_); rintro e w' ⟨rfl, ⟨nd, rfl⟩⟩) | (go_at_call 46; (with_reducible refine (rule_within.calls a0_3 0 3 true _ A8.out).mono ?_); rintro e w' ⟨rfl, ⟨nd, rfl⟩⟩) | ((with_reducible refine gate_callee (f := 46) rfl ?_); refine goesL_ (some 25) rfl rfl Tryz.func46 (by kernel_rfl) rfl #[.int .i64 a0_6, .int .i64 0, .int .i64 3] rfl (by (try simp only [mA_, mC_, mN_]); first|done|rfl|(simp only [lD_, lT_]; rfl)) ?_; (with_reducible refine (rule_within.calls a0_6 0 3 false _ A9.out).mono ?_); rintro e w' ⟨rfl, ⟨nd, rfl⟩⟩; refine ⟨_, rfl, ?_⟩))
      go_ret
      exact ⟨by first | rfl | (simp [errW_none, errW_some] <;> rfl) | (simp [*, errW_none, errW_some] <;> rfl), by repeat first|(with_reducible first|exact HB.out|apply ba|apply bd|apply b1|refine bs ?_ GE135.out)|exact HB.out⟩
     ·replace c25 := Bool.eq_false_iff.mpr c25
      subst c25
      rw [if_neg (show ¬ (false = true) by decide)] at H
      obtain rfl := Option.some.inj H
      go_enter Tryz.func60, Tryz.ntmps60
      go_wp2_with (first | ((with_reducible refine gate_dst (N := 1) rfl ?_); refine box_event ?hg (N := 1) ?hd (cs := #[.int .i64 a0_0, .int .i64 a0_1, .int .i64 a0_2, .int .i64 a0_3, .int .u32 a0_4, .int .u32 a0_5, .int .i64 a0_6]) (t := 27) ?hr ?_; (case hd => rfl); (case hg => rfl); (case hr => first | (go_simp; done) | (go_simp; rfl)); intro gb135 hg w28 hbox hb; have n0_ := Aside0.mk (below_step (gB HB.out) hb); have n1_ := Aside0.mk (hbox); have n2_ := Aside0.mk ((by rw [hg]; exact (below_size (gB HB.out)) : w.heap.size ≤ gb135)); have n3_ := Aside0.mk ((by rw [hg]; exact (below_size (gB HB.out)) : w.heap.size ≤ gb135)); clear HB; have HB := n0_; have BK135 := n1_; have GW135 := n2_; have GE135 := n3_; clear n0_ n1_ n2_ n3_; clear hb hbox hg; have hcz29_0 : w28.cell? ⟨gb135, 0, none⟩ = some (.int .i64 a0_0) := (blk_cell BK135.out 0).trans rfl; have hcz29_1 : w28.cell? ⟨gb135, 1, none⟩ = some (.int .i64 a0_1) := (blk_cell BK135.out 1).trans rfl; have hcz29_2 : w28.cell? ⟨gb135, 2, none⟩ = some (.int .i64 a0_2) := (blk_cell BK135.out 2).trans rfl; have hcz29_3 : w28.cell? ⟨gb135, 3, none⟩ = some (.int .i64 a0_3) := (blk_cell BK135.out 3).trans rfl; have hcz29_4 : w28.cell? ⟨gb135, 4, none⟩ = some (.int .u32 a0_4) := (blk_cell BK135.out 4).trans rfl; have hcz29_5 : w28.cell? ⟨gb135, 5, none⟩ = some (.int .u32 a0_5) := (blk_cell BK135.out 5).trans rfl; have hcz29_6 : w28.cell? ⟨gb135, 6, none⟩ = some (.int .i64 a0_6) := (blk_cell BK135.out 6).trans rfl; have hfz29_0 := blk_frozen BK135.out 0; have hfz29_1 := blk_frozen BK135.out 1; have hfz29_2 := blk_frozen BK135.out 2; have hfz29_3 := blk_frozen BK135.out 3; have hfz29_4 := blk_frozen BK135.out 4; have hfz29_5 := blk_frozen BK135.out 5; have hfz29_6 := blk_frozen BK135.out 6) | ((with_reducible refine gate_callee (f := 46) rfl ?_); refine goesL_ (some 7) rfl rfl Tryz.func46 (by kernel_rfl) rfl #[.int .i64 a0_0, .int .i64 1, .int .i64 1048576] rfl (by (try simp only [mA_, mC_, mN_]); first|done|rfl|(simp only [lD_, lT_]; rfl)) ?_; (with_reducible refine (rule_within.calls a0_0 1 1048576 true _ A2.out).mono ?_); rintro e w' ⟨rfl, ⟨nd, rfl⟩⟩; refine ⟨_, rfl, ?_⟩) | (go_at_call 46; (with_reducible refine (rule_within.calls a0_1 0 7 true _ A4.out).mono ?_); rintro e w' ⟨rfl, ⟨nd, rfl⟩⟩) | (go_at_call 46; (with_reducible refine (rule_within.calls a0_2 0 1024 true _ A6.out).mono ?_); rintro e w' ⟨rfl, ⟨nd, rfl⟩⟩) | (go_at_call 46; (with_reducible refine (rule_within.calls a0_3 0 3 false _ A8.out).mono ?_); rintro e w' ⟨rfl, ⟨nd, rfl⟩⟩) | ((with_reducible refine gate_callee (f := 46) rfl ?_); refine goesL_ (some 25) rfl rfl Tryz.func46 (by kernel_rfl) rfl #[.int .i64 a0_6, .int .i64 0, .int .i64 3] rfl (by (try simp only [mA_, mC_, mN_]); first|done|rfl|(simp only [lD_, lT_]; rfl)) ?_; (with_reducible refine (rule_within.calls a0_6 0 3 false _ A9.out).mono ?_); rintro e w' ⟨rfl, ⟨nd, rfl⟩⟩; refine ⟨_, rfl, ?_⟩))
      go_ret
      exact ⟨by first | rfl | (simp [errW_none, errW_some] <;> rfl) | (simp [*, errW_none, errW_some] <;> rfl), by repeat first|(with_reducible first|exact HB.out|apply ba|apply bd|apply b1|refine bs ?_ GE135.out)|exact HB.out⟩
   ·replace c7 := Bool.eq_false_iff.mpr c7
    subst c7
    rw [if_neg (show ¬ (false = true) by decide)] at H
    replace H := Option.bind_eq_some_iff.mp H
    obtain ⟨t141, A300, H⟩ := H
    try dsimp only at H
    have A30 := Aside0.mk A300
    clear A300
    by_cases c31 : t141 = true
    ·subst c31
     rw [if_pos rfl] at H
     by_cases c32 : a0_3 = 0
     ·rw [if_pos c32] at H
      have c32b0 : (a0_3 == 0) = true := beq_iff_eq.mpr c32
      have c32b1 : (a0_3 != 0) = false := bne_eq_false_iff_eq.mpr c32
      clear c32
      obtain rfl := Option.some.inj H
      go_enter Tryz.func60, Tryz.ntmps60
      go_wp2_with (first | ((with_reducible refine gate_dst (N := 1) rfl ?_); refine box_event ?hg (N := 1) ?hd (cs := #[.int .i64 a0_0, .int .i64 a0_1, .int .i64 a0_2, .int .i64 a0_3, .int .u32 a0_4, .int .u32 a0_5, .int .i64 a0_6]) (t := 27) ?hr ?_; (case hd => rfl); (case hg => rfl); (case hr => first | (go_simp; done) | (go_simp; rfl)); intro gb135 hg w33 hbox hb; have n0_ := Aside0.mk (below_step (gB HB.out) hb); have n1_ := Aside0.mk (hbox); have n2_ := Aside0.mk ((by rw [hg]; exact (below_size (gB HB.out)) : w.heap.size ≤ gb135)); have n3_ := Aside0.mk ((by rw [hg]; exact (below_size (gB HB.out)) : w.heap.size ≤ gb135)); clear HB; have HB := n0_; have BK135 := n1_; have GW135 := n2_; have GE135 := n3_; clear n0_ n1_ n2_ n3_; clear hb hbox hg; have hcz34_0 : w33.cell? ⟨gb135, 0, none⟩ = some (.int .i64 a0_0) := (blk_cell BK135.out 0).trans rfl; have hcz34_1 : w33.cell? ⟨gb135, 1, none⟩ = some (.int .i64 a0_1) := (blk_cell BK135.out 1).trans rfl; have hcz34_2 : w33.cell? ⟨gb135, 2, none⟩ = some (.int .i64 a0_2) := (blk_cell BK135.out 2).trans rfl; have hcz34_3 : w33.cell? ⟨gb135, 3, none⟩ = some (.int .i64 a0_3) := (blk_cell BK135.out 3).trans rfl; have hcz34_4 : w33.cell? ⟨gb135, 4, none⟩ = some (.int .u32 a0_4) := (blk_cell BK135.out 4).trans rfl; have hcz34_5 : w33.cell? ⟨gb135, 5, none⟩ = some (.int .u32 a0_5) := (blk_cell BK135.out 5).trans rfl; have hcz34_6 : w33.cell? ⟨gb135, 6, none⟩ = some (.int .i64 a0_6) := (blk_cell BK135.out 6).trans rfl; have hfz34_0 := blk_frozen BK135.out 0; have hfz34_1 := blk_frozen BK135.out 1; have hfz34_2 := blk_frozen BK135.out 2; have hfz34_3 := blk_frozen BK135.out 3; have hfz34_4 := blk_frozen BK135.out 4; have hfz34_5 := blk_frozen BK135.out 5; have hfz34_6 := blk_frozen BK135.out 6) | ((with_reducible refine gate_callee (f := 46) rfl ?_); refine goesL_ (some 7) rfl rfl Tryz.func46 (by kernel_rfl) rfl #[.int .i64 a0_0, .int .i64 1, .int .i64 1048576] rfl (by (try simp only [mA_, mC_, mN_]); first|done|rfl|(simp only [lD_, lT_]; rfl)) ?_; (with_reducible refine (rule_within.calls a0_0 1 1048576 true _ A2.out).mono ?_); rintro e w' ⟨rfl, ⟨nd, rfl⟩⟩; refine ⟨_, rfl, ?_⟩) | (go_at_call 46; (with_reducible refine (rule_within.calls a0_1 0 7 true _ A4.out).mono ?_); rintro e w' ⟨rfl, ⟨nd, rfl⟩⟩) | (go_at_call 46; (with_reducible refine (rule_within.calls a0_2 0 1024 false _ A6.out).mono ?_); rintro e w' ⟨rfl, ⟨nd, rfl⟩⟩) | ((with_reducible refine gate_callee (f := 46) rfl ?_); refine goesL_ (some 25) rfl rfl Tryz.func46 (by kernel_rfl) rfl #[.int .i64 a0_6, .int .i64 0, .int .i64 3] rfl (by (try simp only [mA_, mC_, mN_]); first|done|rfl|(simp only [lD_, lT_]; rfl)) ?_; (with_reducible refine (rule_within.calls a0_6 0 3 true _ A30.out).mono ?_); rintro e w' ⟨rfl, ⟨nd, rfl⟩⟩; refine ⟨_, rfl, ?_⟩))
      go_ret
      exact ⟨by first | rfl | (simp [errW_none, errW_some] <;> rfl) | (simp [*, errW_none, errW_some] <;> rfl), by repeat first|(with_reducible first|exact HB.out|apply ba|apply bd|apply b1|refine bs ?_ GE135.out)|exact HB.out⟩
     ·rw [if_neg c32] at H
      have c32b0 : (a0_3 == 0) = false := beq_eq_false_iff_ne.mpr c32
      have c32b1 : (a0_3 != 0) = true := bne_iff_ne.mpr c32
      obtain rfl := Option.some.inj H
      go_enter Tryz.func60, Tryz.ntmps60
      go_wp2_with (first | ((with_reducible refine gate_dst (N := 1) rfl ?_); refine box_event ?hg (N := 1) ?hd (cs := #[.int .i64 a0_0, .int .i64 a0_1, .int .i64 a0_2, .int .i64 a0_3, .int .u32 a0_4, .int .u32 a0_5, .int .i64 a0_6]) (t := 27) ?hr ?_; (case hd => rfl); (case hg => rfl); (case hr => first | (go_simp; done) | (go_simp; rfl)); intro gb135 hg w35 hbox hb; have n0_ := Aside0.mk (below_step (gB HB.out) hb); have n1_ := Aside0.mk (hbox); have n2_ := Aside0.mk ((by rw [hg]; exact (below_size (gB HB.out)) : w.heap.size ≤ gb135)); have n3_ := Aside0.mk ((by rw [hg]; exact (below_size (gB HB.out)) : w.heap.size ≤ gb135)); clear HB; have HB := n0_; have BK135 := n1_; have GW135 := n2_; have GE135 := n3_; clear n0_ n1_ n2_ n3_; clear hb hbox hg; have hcz36_0 : w35.cell? ⟨gb135, 0, none⟩ = some (.int .i64 a0_0) := (blk_cell BK135.out 0).trans rfl; have hcz36_1 : w35.cell? ⟨gb135, 1, none⟩ = some (.int .i64 a0_1) := (blk_cell BK135.out 1).trans rfl; have hcz36_2 : w35.cell? ⟨gb135, 2, none⟩ = some (.int .i64 a0_2) := (blk_cell BK135.out 2).trans rfl; have hcz36_3 : w35.cell? ⟨gb135, 3, none⟩ = some (.int .i64 a0_3) := (blk_cell BK135.out 3).trans rfl; have hcz36_4 : w35.cell? ⟨gb135, 4, none⟩ = some (.int .u32 a0_4) := (blk_cell BK135.out 4).trans rfl; have hcz36_5 : w35.cell? ⟨gb135, 5, none⟩ = some (.int .u32 a0_5) := (blk_cell BK135.out 5).trans rfl; have hcz36_6 : w35.cell? ⟨gb135, 6, none⟩ = some (.int .i64 a0_6) := (blk_cell BK135.out 6).trans rfl; have hfz36_0 := blk_frozen BK135.out 0; have hfz36_1 := blk_frozen BK135.out 1; have hfz36_2 := blk_frozen BK135.out 2; have hfz36_3 := blk_frozen BK135.out 3; have hfz36_4 := blk_frozen BK135.out 4; have hfz36_5 := blk_frozen BK135.out 5; have hfz36_6 := blk_frozen BK135.out 6) | ((with_reducible refine gate_callee (f := 46) rfl ?_); refine goesL_ (some 7) rfl rfl Tryz.func46 (by kernel_rfl) rfl #[.int .i64 a0_0, .int .i64 1, .int .i64 1048576] rfl (by (try simp only [mA_, mC_, mN_]); first|done|rfl|(simp only [lD_, lT_]; rfl)) ?_; (with_reducible refine (rule_within.calls a0_0 1 1048576 true _ A2.out).mono ?_); rintro e w' ⟨rfl, ⟨nd, rfl⟩⟩; refine ⟨_, rfl, ?_⟩) | (go_at_call 46; (with_reducible refine (rule_within.calls a0_1 0 7 true _ A4.out).mono ?_); rintro e w' ⟨rfl, ⟨nd, rfl⟩⟩) | (go_at_call 46; (with_reducible refine (rule_within.calls a0_2 0 1024 false _ A6.out).mono ?_); rintro e w' ⟨rfl, ⟨nd, rfl⟩⟩) | ((with_reducible refine gate_callee (f := 46) rfl ?_); refine goesL_ (some 25) rfl rfl Tryz.func46 (by kernel_rfl) rfl #[.int .i64 a0_6, .int .i64 0, .int .i64 3] rfl (by (try simp only [mA_, mC_, mN_]); first|done|rfl|(simp only [lD_, lT_]; rfl)) ?_; (with_reducible refine (rule_within.calls a0_6 0 3 true _ A30.out).mono ?_); rintro e w' ⟨rfl, ⟨nd, rfl⟩⟩; refine ⟨_, rfl, ?_⟩))
      go_ret
      exact ⟨by first | rfl | (simp [errW_none, errW_some] <;> rfl) | (simp [*, errW_none, errW_some] <;> rfl), by repeat first|(with_reducible first|exact HB.out|apply ba|apply bd|apply b1|refine bs ?_ GE135.out)|exact HB.out⟩
    ·replace c31 := Bool.eq_false_iff.mpr c31
     subst c31
     rw [if_neg (show ¬ (false = true) by decide)] at H
     obtain rfl := Option.some.inj H
     go_enter Tryz.func60, Tryz.ntmps60
     go_wp2_with (first | ((with_reducible refine gate_dst (N := 1) rfl ?_); refine box_event ?hg (N := 1) ?hd (cs := #[.int .i64 a0_0, .int .i64 a0_1, .int .i64 a0_2, .int .i64 a0_3, .int .u32 a0_4, .int .u32 a0_5, .int .i64 a0_6]) (t := 27) ?hr ?_; (case hd => rfl); (case hg => rfl); (case hr => first | (go_simp; done) | (go_simp; rfl)); intro gb135 hg w37 hbox hb; have n0_ := Aside0.mk (below_step (gB HB.out) hb); have n1_ := Aside0.mk (hbox); have n2_ := Aside0.mk ((by rw [hg]; exact (below_size (gB HB.out)) : w.heap.size ≤ gb135)); have n3_ := Aside0.mk ((by rw [hg]; exact (below_size (gB HB.out)) : w.heap.size ≤ gb135)); clear HB; have HB := n0_; have BK135 := n1_; have GW135 := n2_; have GE135 := n3_; clear n0_ n1_ n2_ n3_; clear hb hbox hg; have hcz38_0 : w37.cell? ⟨gb135, 0, none⟩ = some (.int .i64 a0_0) := (blk_cell BK135.out 0).trans rfl; have hcz38_1 : w37.cell? ⟨gb135, 1, none⟩ = some (.int .i64 a0_1) := (blk_cell BK135.out 1).trans rfl; have hcz38_2 : w37.cell? ⟨gb135, 2, none⟩ = some (.int .i64 a0_2) := (blk_cell BK135.out 2).trans rfl; have hcz38_3 : w37.cell? ⟨gb135, 3, none⟩ = some (.int .i64 a0_3) := (blk_cell BK135.out 3).trans rfl; have hcz38_4 : w37.cell? ⟨gb135, 4, none⟩ = some (.int .u32 a0_4) := (blk_cell BK135.out 4).trans rfl; have hcz38_5 : w37.cell? ⟨gb135, 5, none⟩ = some (.int .u32 a0_5) := (blk_cell BK135.out 5).trans rfl; have hcz38_6 : w37.cell? ⟨gb135, 6, none⟩ = some (.int .i64 a0_6) := (blk_cell BK135.out 6).trans rfl; have hfz38_0 := blk_frozen BK135.out 0; have hfz38_1 := blk_frozen BK135.out 1; have hfz38_2 := blk_frozen BK135.out 2; have hfz38_3 := blk_frozen BK135.out 3; have hfz38_4 := blk_frozen BK135.out 4; have hfz38_5 := blk_frozen BK135.out 5; have hfz38_6 := blk_frozen BK135.out 6) | ((with_reducible refine gate_callee (f := 46) rfl ?_); refine goesL_ (some 7) rfl rfl Tryz.func46 (by kernel_rfl) rfl #[.int .i64 a0_0, .int .i64 1, .int .i64 1048576] rfl (by (try simp only [mA_, mC_, mN_]); first|done|rfl|(simp only [lD_, lT_]; rfl)) ?_; (with_reducible refine (rule_within.calls a0_0 1 1048576 true _ A2.out).mono ?_); rintro e w' ⟨rfl, ⟨nd, rfl⟩⟩; refine ⟨_, rfl, ?_⟩) | (go_at_call 46; (with_reducible refine (rule_within.calls a0_1 0 7 true _ A4.out).mono ?_); rintro e w' ⟨rfl, ⟨nd, rfl⟩⟩) | (go_at_call 46; (with_reducible refine (rule_within.calls a0_2 0 1024 false _ A6.out).mono ?_); rintro e w' ⟨rfl, ⟨nd, rfl⟩⟩) | ((with_reducible refine gate_callee (f := 46) rfl ?_); refine goesL_ (some 25) rfl rfl Tryz.func46 (by kernel_rfl) rfl #[.int .i64 a0_6, .int .i64 0, .int .i64 3] rfl (by (try simp only [mA_, mC_, mN_]); first|done|rfl|(simp only [lD_, lT_]; rfl)) ?_; (with_reducible refine (rule_within.calls a0_6 0 3 false _ A30.out).mono ?_); rintro e w' ⟨rfl, ⟨nd, rfl⟩⟩; refine ⟨_, rfl, ?_⟩))
     go_ret
     exact ⟨by first | rfl | (simp [errW_none, errW_some] <;> rfl) | (simp [*, errW_none, errW_some] <;> rfl), by repeat first|(with_reducible first|exact HB.out|apply ba|apply bd|apply b1|refine bs ?_ GE135.out)|exact HB.out⟩
  ·replace c5 := Bool.eq_false_iff.mpr c5
   subst c5
   rw [if_neg (show ¬ (false = true) by decide)] at H
   replace H := Option.bind_eq_some_iff.mp H
   obtain ⟨t142, A390, H⟩ := H
   try dsimp only at H
   have A39 := Aside0.mk A390
   clear A390
   by_cases c40 : t142 = true
   ·subst c40
    rw [if_pos rfl] at H
    by_cases c41 : a0_3 = 0
    ·rw [if_pos c41] at H
     have c41b0 : (a0_3 == 0) = true := beq_iff_eq.mpr c41
     have c41b1 : (a0_3 != 0) = false := bne_eq_false_iff_eq.mpr c41
     clear c41
     obtain rfl := Option.some.inj H
     go_enter Tryz.func60, Tryz.ntmps60
     go_wp2_with (first | ((with_reducible refine gate_dst (N := 1) rfl ?_); refine box_event ?hg (N := 1) ?hd (cs := #[.int .i64 a0_0, .int .i64 a0_1, .int .i64 a0_2, .int .i64 a0_3, .int .u32 a0_4, .int .u32 a0_5, .int .i64 a0_6]) (t := 27) ?hr ?_; (case hd => rfl); (case hg => rfl); (case hr => first | (go_simp; done) | (go_simp; rfl)); intro gb135 hg w42 hbox hb; have n0_ := Aside0.mk (below_step (gB HB.out) hb); have n1_ := Aside0.mk (hbox); have n2_ := Aside0.mk ((by rw [hg]; exact (below_size (gB HB.out)) : w.heap.size ≤ gb135)); have n3_ := Aside0.mk ((by rw [hg]; exact (below_size (gB HB.out)) : w.heap.size ≤ gb135)); clear HB; have HB := n0_; have BK135 := n1_; have GW135 := n2_; have GE135 := n3_; clear n0_ n1_ n2_ n3_; clear hb hbox hg; have hcz43_0 : w42.cell? ⟨gb135, 0, none⟩ = some (.int .i64 a0_0) := (blk_cell BK135.out 0).trans rfl; have hcz43_1 : w42.cell? ⟨gb135, 1, none⟩ = some (.int .i64 a0_1) := (blk_cell BK135.out 1).trans rfl; have hcz43_2 : w42.cell? ⟨gb135, 2, none⟩ = some (.int .i64 a0_2) := (blk_cell BK135.out 2).trans rfl; have hcz43_3 : w42.cell? ⟨gb135, 3, none⟩ = some (.int .i64 a0_3) := (blk_cell BK135.out 3).trans rfl; have hcz43_4 : w42.cell? ⟨gb135, 4, none⟩ = some (.int .u32 a0_4) := (blk_cell BK135.out 4).trans rfl; have hcz43_5 : w42.cell? ⟨gb135, 5, none⟩ = some (.int .u32 a0_5) := (blk_cell BK135.out 5).trans rfl; have hcz43_6 : w42.cell? ⟨gb135, 6, none⟩ = some (.int .i64 a0_6) := (blk_cell BK135.out 6).trans rfl; have hfz43_0 := blk_frozen BK135.out 0; have hfz43_1 := blk_frozen BK135.out 1; have hfz43_2 := blk_frozen BK135.out 2; have hfz43_3 := blk_frozen BK135.out 3; have hfz43_4 := blk_frozen BK135.out 4; have hfz43_5 := blk_frozen BK135.out 5; have hfz43_6 := blk_frozen BK135.out 6) | ((with_reducible refine gate_callee (f := 46) rfl ?_); refine goesL_ (some 7) rfl rfl Tryz.func46 (by kernel_rfl) rfl #[.int .i64 a0_0, .int .i64 1, .int .i64 1048576] rfl (by (try simp only [mA_, mC_, mN_]); first|done|rfl|(simp only [lD_, lT_]; rfl)) ?_; (with_reducible refine (rule_within.calls a0_0 1 1048576 true _ A2.out).mono ?_); rintro e w' ⟨rfl, ⟨nd, rfl⟩⟩; refine ⟨_, rfl, ?_⟩) | (go_at_call 46; (with_reducible refine (rule_within.calls a0_1 0 7 false _ A4.out).mono ?_); rintro e w' ⟨rfl, ⟨nd, rfl⟩⟩) | ((with_reducible refine gate_callee (f := 46) rfl ?_); refine goesL_ (some 25) rfl rfl Tryz.func46 (by kernel_rfl) rfl #[.int .i64 a0_6, .int .i64 0, .int .i64 3] rfl (by (try simp only [mA_, mC_, mN_]); first|done|rfl|(simp only [lD_, lT_]; rfl)) ?_; (with_reducible refine (rule_within.calls a0_6 0 3 true _ A39.out).mono ?_); rintro e w' ⟨rfl, ⟨nd, rfl⟩⟩; refine ⟨_, rfl, ?_⟩))
     go_ret
     exact ⟨by first | rfl | (simp [errW_none, errW_some] <;> rfl) | (simp [*, errW_none, errW_some] <;> rfl), by repeat first|(with_reducible first|exact HB.out|apply ba|apply bd|apply b1|refine bs ?_ GE135.out)|exact HB.out⟩
    ·rw [if_neg c41] at H
     have c41b0 : (a0_3 == 0) = false := beq_eq_false_iff_ne.mpr c41
     have c41b1 : (a0_3 != 0) = true := bne_iff_ne.mpr c41
     obtain rfl := Option.some.inj H
     go_enter Tryz.func60, Tryz.ntmps60
     go_wp2_with (first | ((with_reducible refine gate_dst (N := 1) rfl ?_); refine box_event ?hg (N := 1) ?hd (cs := #[.int .i64 a0_0, .int .i64 a0_1, .int .i64 a0_2, .int .i64 a0_3, .int .u32 a0_4, .int .u32 a0_5, .int .i64 a0_6]) (t := 27) ?hr ?_; (case hd => rfl); (case hg => rfl); (case hr => first | (go_simp; done) | (go_simp; rfl)); intro gb135 hg w44 hbox hb; have n0_ := Aside0.mk (below_step (gB HB.out) hb); have n1_ := Aside0.mk (hbox); have n2_ := Aside0.mk ((by rw [hg]; exact (below_size (gB HB.out)) : w.heap.size ≤ gb135)); have n3_ := Aside0.mk ((by rw [hg]; exact (below_size (gB HB.out)) : w.heap.size ≤ gb135)); clear HB; have HB := n0_; have BK135 := n1_; have GW135 := n2_; have GE135 := n3_; clear n0_ n1_ n2_ n3_; clear hb hbox hg; have hcz45_0 : w44.cell? ⟨gb135, 0, none⟩ = some (.int .i64 a0_0) := (blk_cell BK135.out 0).trans rfl; have hcz45_1 : w44.cell? ⟨gb135, 1, none⟩ = some (.int .i64 a0_1) := (blk_cell BK135.out 1).trans rfl; have hcz45_2 : w44.cell? ⟨gb135, 2, none⟩ = some (.int .i64 a0_2) := (blk_cell BK135.out 2).trans rfl; have hcz45_3 : w44.cell? ⟨gb135, 3, none⟩ = some (.int .i64 a0_3) := (blk_cell BK135.out 3).trans rfl; have hcz45_4 : w44.cell? ⟨gb135, 4, none⟩ = some (.int .u32 a0_4) := (blk_cell BK135.out 4).trans rfl; have hcz45_5 : w44.cell? ⟨gb135, 5, none⟩ = some (.int .u32 a0_5) := (blk_cell BK135.out 5).trans rfl; have hcz45_6 : w44.cell? ⟨gb135, 6, none⟩ = some (.int .i64 a0_6) := (blk_cell BK135.out 6).trans rfl; have hfz45_0 := blk_frozen BK135.out 0; have hfz45_1 := blk_frozen BK135.out 1; have hfz45_2 := blk_frozen BK135.out 2; have hfz45_3 := blk_frozen BK135.out 3; have hfz45_4 := blk_frozen BK135.out 4; have hfz45_5 := blk_frozen BK135.out 5; have hfz45_6 := blk_frozen BK135.out 6) | ((with_reducible refine gate_callee (f := 46) rfl ?_); refine goesL_ (some 7) rfl rfl Tryz.func46 (by kernel_rfl) rfl #[.int .i64 a0_0, .int .i64 1, .int .i64 1048576] rfl (by (try simp only [mA_, mC_, mN_]); first|done|rfl|(simp only [lD_, lT_]; rfl)) ?_; (with_reducible refine (rule_within.calls a0_0 1 1048576 true _ A2.out).mono ?_); rintro e w' ⟨rfl, ⟨nd, rfl⟩⟩; refine ⟨_, rfl, ?_⟩) | (go_at_call 46; (with_reducible refine (rule_within.calls a0_1 0 7 false _ A4.out).mono ?_); rintro e w' ⟨rfl, ⟨nd, rfl⟩⟩) | ((with_reducible refine gate_callee (f := 46) rfl ?_); refine goesL_ (some 25) rfl rfl Tryz.func46 (by kernel_rfl) rfl #[.int .i64 a0_6, .int .i64 0, .int .i64 3] rfl (by (try simp only [mA_, mC_, mN_]); first|done|rfl|(simp only [lD_, lT_]; rfl)) ?_; (with_reducible refine (rule_within.calls a0_6 0 3 true _ A39.out).mono ?_); rintro e w' ⟨rfl, ⟨nd, rfl⟩⟩; refine ⟨_, rfl, ?_⟩))
     go_ret
     exact ⟨by first | rfl | (simp [errW_none, errW_some] <;> rfl) | (simp [*, errW_none, errW_some] <;> rfl), by repeat first|(with_reducible first|exact HB.out|apply ba|apply bd|apply b1|refine bs ?_ GE135.out)|exact HB.out⟩
   ·replace c40 := Bool.eq_false_iff.mpr c40
    subst c40
    rw [if_neg (show ¬ (false = true) by decide)] at H
    obtain rfl := Option.some.inj H
    go_enter Tryz.func60, Tryz.ntmps60
    go_wp2_with (first | ((with_reducible refine gate_dst (N := 1) rfl ?_); refine box_event ?hg (N := 1) ?hd (cs := #[.int .i64 a0_0, .int .i64 a0_1, .int .i64 a0_2, .int .i64 a0_3, .int .u32 a0_4, .int .u32 a0_5, .int .i64 a0_6]) (t := 27) ?hr ?_; (case hd => rfl); (case hg => rfl); (case hr => first | (go_simp; done) | (go_simp; rfl)); intro gb135 hg w46 hbox hb; have n0_ := Aside0.mk (below_step (gB HB.out) hb); have n1_ := Aside0.mk (hbox); have n2_ := Aside0.mk ((by rw [hg]; exact (below_size (gB HB.out)) : w.heap.size ≤ gb135)); have n3_ := Aside0.mk ((by rw [hg]; exact (below_size (gB HB.out)) : w.heap.size ≤ gb135)); clear HB; have HB := n0_; have BK135 := n1_; have GW135 := n2_; have GE135 := n3_; clear n0_ n1_ n2_ n3_; clear hb hbox hg; have hcz47_0 : w46.cell? ⟨gb135, 0, none⟩ = some (.int .i64 a0_0) := (blk_cell BK135.out 0).trans rfl; have hcz47_1 : w46.cell? ⟨gb135, 1, none⟩ = some (.int .i64 a0_1) := (blk_cell BK135.out 1).trans rfl; have hcz47_2 : w46.cell? ⟨gb135, 2, none⟩ = some (.int .i64 a0_2) := (blk_cell BK135.out 2).trans rfl; have hcz47_3 : w46.cell? ⟨gb135, 3, none⟩ = some (.int .i64 a0_3) := (blk_cell BK135.out 3).trans rfl; have hcz47_4 : w46.cell? ⟨gb135, 4, none⟩ = some (.int .u32 a0_4) := (blk_cell BK135.out 4).trans rfl; have hcz47_5 : w46.cell? ⟨gb135, 5, none⟩ = some (.int .u32 a0_5) := (blk_cell BK135.out 5).trans rfl; have hcz47_6 : w46.cell? ⟨gb135, 6, none⟩ = some (.int .i64 a0_6) := (blk_cell BK135.out 6).trans rfl; have hfz47_0 := blk_frozen BK135.out 0; have hfz47_1 := blk_frozen BK135.out 1; have hfz47_2 := blk_frozen BK135.out 2; have hfz47_3 := blk_frozen BK135.out 3; have hfz47_4 := blk_frozen BK135.out 4; have hfz47_5 := blk_frozen BK135.out 5; have hfz47_6 := blk_frozen BK135.out 6) | ((with_reducible refine gate_callee (f := 46) rfl ?_); refine goesL_ (some 7) rfl rfl Tryz.func46 (by kernel_rfl) rfl #[.int .i64 a0_0, .int .i64 1, .int .i64 1048576] rfl (by (try simp only [mA_, mC_, mN_]); first|done|rfl|(simp only [lD_, lT_]; rfl)) ?_; (with_reducible refine (rule_within.calls a0_0 1 1048576 true _ A2.out).mono ?_); rintro e w' ⟨rfl, ⟨nd, rfl⟩⟩; refine ⟨_, rfl, ?_⟩) | (go_at_call 46; (with_reducible refine (rule_within.calls a0_1 0 7 false _ A4.out).mono ?_); rintro e w' ⟨rfl, ⟨nd, rfl⟩⟩) | ((with_reducible refine gate_callee (f := 46) rfl ?_); refine goesL_ (some 25) rfl rfl Tryz.func46 (by kernel_rfl) rfl #[.int .i64 a0_6, .int .i64 0, .int .i64 3] rfl (by (try simp only [mA_, mC_, mN_]); first|done|rfl|(simp only [lD_, lT_]; rfl)) ?_; (with_reducible refine (rule_within.calls a0_6 0 3 false _ A39.out).mono ?_); rintro e w' ⟨rfl, ⟨nd, rfl⟩⟩; refine ⟨_, rfl, ?_⟩))
    go_ret
    exact ⟨by first | rfl | (simp [errW_none, errW_some] <;> rfl) | (simp [*, errW_none, errW_some] <;> rfl), by repeat first|(with_reducible first|exact HB.out|apply ba|apply bd|apply b1|refine bs ?_ GE135.out)|exact HB.out⟩
 ·replace c3 := Bool.eq_false_iff.mpr c3
  subst c3
  rw [if_neg (show ¬ (false = true) by decide)] at H
  replace H := Option.bind_eq_some_iff.mp H
  obtain ⟨t143, A480, H⟩ := H
  try dsimp only at H
  have A48 := Aside0.mk A480
  clear A480
  by_cases c49 : t143 = true
  ·subst c49
   rw [if_pos rfl] at H
   by_cases c50 : a0_3 = 0
   ·rw [if_pos c50] at H
    have c50b0 : (a0_3 == 0) = true := beq_iff_eq.mpr c50
    have c50b1 : (a0_3 != 0) = false := bne_eq_false_iff_eq.mpr c50
    clear c50
    obtain rfl := Option.some.inj H
    go_enter Tryz.func60, Tryz.ntmps60
    go_wp2_with (first | ((with_reducible refine gate_dst (N := 1) rfl ?_); refine box_event ?hg (N := 1) ?hd (cs := #[.int .i64 a0_0, .int .i64 a0_1, .int .i64 a0_2, .int .i64 a0_3, .int .u32 a0_4, .int .u32 a0_5, .int .i64 a0_6]) (t := 27) ?hr ?_; (case hd => rfl); (case hg => rfl); (case hr => first | (go_simp; done) | (go_simp; rfl)); intro gb135 hg w51 hbox hb; have n0_ := Aside0.mk (below_step (gB HB.out) hb); have n1_ := Aside0.mk (hbox); have n2_ := Aside0.mk ((by rw [hg]; exact (below_size (gB HB.out)) : w.heap.size ≤ gb135)); have n3_ := Aside0.mk ((by rw [hg]; exact (below_size (gB HB.out)) : w.heap.size ≤ gb135)); clear HB; have HB := n0_; have BK135 := n1_; have GW135 := n2_; have GE135 := n3_; clear n0_ n1_ n2_ n3_; clear hb hbox hg; have hcz52_0 : w51.cell? ⟨gb135, 0, none⟩ = some (.int .i64 a0_0) := (blk_cell BK135.out 0).trans rfl; have hcz52_1 : w51.cell? ⟨gb135, 1, none⟩ = some (.int .i64 a0_1) := (blk_cell BK135.out 1).trans rfl; have hcz52_2 : w51.cell? ⟨gb135, 2, none⟩ = some (.int .i64 a0_2) := (blk_cell BK135.out 2).trans rfl; have hcz52_3 : w51.cell? ⟨gb135, 3, none⟩ = some (.int .i64 a0_3) := (blk_cell BK135.out 3).trans rfl; have hcz52_4 : w51.cell? ⟨gb135, 4, none⟩ = some (.int .u32 a0_4) := (blk_cell BK135.out 4).trans rfl; have hcz52_5 : w51.cell? ⟨gb135, 5, none⟩ = some (.int .u32 a0_5) := (blk_cell BK135.out 5).trans rfl; have hcz52_6 : w51.cell? ⟨gb135, 6, none⟩ = some (.int .i64 a0_6) := (blk_cell BK135.out 6).trans rfl; have hfz52_0 := blk_frozen BK135.out 0; have hfz52_1 := blk_frozen BK135.out 1; have hfz52_2 := blk_frozen BK135.out 2; have hfz52_3 := blk_frozen BK135.out 3; have hfz52_4 := blk_frozen BK135.out 4; have hfz52_5 := blk_frozen BK135.out 5; have hfz52_6 := blk_frozen BK135.out 6) | ((with_reducible refine gate_callee (f := 46) rfl ?_); refine goesL_ (some 7) rfl rfl Tryz.func46 (by kernel_rfl) rfl #[.int .i64 a0_0, .int .i64 1, .int .i64 1048576] rfl (by (try simp only [mA_, mC_, mN_]); first|done|rfl|(simp only [lD_, lT_]; rfl)) ?_; (with_reducible refine (rule_within.calls a0_0 1 1048576 false _ A2.out).mono ?_); rintro e w' ⟨rfl, ⟨nd, rfl⟩⟩; refine ⟨_, rfl, ?_⟩) | ((with_reducible refine gate_callee (f := 46) rfl ?_); refine goesL_ (some 25) rfl rfl Tryz.func46 (by kernel_rfl) rfl #[.int .i64 a0_6, .int .i64 0, .int .i64 3] rfl (by (try simp only [mA_, mC_, mN_]); first|done|rfl|(simp only [lD_, lT_]; rfl)) ?_; (with_reducible refine (rule_within.calls a0_6 0 3 true _ A48.out).mono ?_); rintro e w' ⟨rfl, ⟨nd, rfl⟩⟩; refine ⟨_, rfl, ?_⟩))
    go_ret
    exact ⟨by first | rfl | (simp [errW_none, errW_some] <;> rfl) | (simp [*, errW_none, errW_some] <;> rfl), by repeat first|(with_reducible first|exact HB.out|apply ba|apply bd|apply b1|refine bs ?_ GE135.out)|exact HB.out⟩
   ·rw [if_neg c50] at H
    have c50b0 : (a0_3 == 0) = false := beq_eq_false_iff_ne.mpr c50
    have c50b1 : (a0_3 != 0) = true := bne_iff_ne.mpr c50
    obtain rfl := Option.some.inj H
    go_enter Tryz.func60, Tryz.ntmps60
    go_wp2_with (first | ((with_reducible refine gate_dst (N := 1) rfl ?_); refine box_event ?hg (N := 1) ?hd (cs := #[.int .i64 a0_0, .int .i64 a0_1, .int .i64 a0_2, .int .i64 a0_3, .int .u32 a0_4, .int .u32 a0_5, .int .i64 a0_6]) (t := 27) ?hr ?_; (case hd => rfl); (case hg => rfl); (case hr => first | (go_simp; done) | (go_simp; rfl)); intro gb135 hg w53 hbox hb; have n0_ := Aside0.mk (below_step (gB HB.out) hb); have n1_ := Aside0.mk (hbox); have n2_ := Aside0.mk ((by rw [hg]; exact (below_size (gB HB.out)) : w.heap.size ≤ gb135)); have n3_ := Aside0.mk ((by rw [hg]; exact (below_size (gB HB.out)) : w.heap.size ≤ gb135)); clear HB; have HB := n0_; have BK135 := n1_; have GW135 := n2_; have GE135 := n3_; clear n0_ n1_ n2_ n3_; clear hb hbox hg; have hcz54_0 : w53.cell? ⟨gb135, 0, none⟩ = some (.int .i64 a0_0) := (blk_cell BK135.out 0).trans rfl; have hcz54_1 : w53.cell? ⟨gb135, 1, none⟩ = some (.int .i64 a0_1) := (blk_cell BK135.out 1).trans rfl; have hcz54_2 : w53.cell? ⟨gb135, 2, none⟩ = some (.int .i64 a0_2) := (blk_cell BK135.out 2).trans rfl; have hcz54_3 : w53.cell? ⟨gb135, 3, none⟩ = some (.int .i64 a0_3) := (blk_cell BK135.out 3).trans rfl; have hcz54_4 : w53.cell? ⟨gb135, 4, none⟩ = some (.int .u32 a0_4) := (blk_cell BK135.out 4).trans rfl; have hcz54_5 : w53.cell? ⟨gb135, 5, none⟩ = some (.int .u32 a0_5) := (blk_cell BK135.out 5).trans rfl; have hcz54_6 : w53.cell? ⟨gb135, 6, none⟩ = some (.int .i64 a0_6) := (blk_cell BK135.out 6).trans rfl; have hfz54_0 := blk_frozen BK135.out 0; have hfz54_1 := blk_frozen BK135.out 1; have hfz54_2 := blk_frozen BK135.out 2; have hfz54_3 := blk_frozen BK135.out 3; have hfz54_4 := blk_frozen BK135.out 4; have hfz54_5 := blk_frozen BK135.out 5; have hfz54_6 := blk_frozen BK135.out 6) | ((with_reducible refine gate_callee (f := 46) rfl ?_); refine goesL_ (some 7) rfl rfl Tryz.func46 (by kernel_rfl) rfl #[.int .i64 a0_0, .int .i64 1, .int .i64 1048576] rfl (by (try simp only [mA_, mC_, mN_]); first|done|rfl|(simp only [lD_, lT_]; rfl)) ?_; (with_reducible refine (rule_within.calls a0_0 1 1048576 false _ A2.out).mono ?_); rintro e w' ⟨rfl, ⟨nd, rfl⟩⟩; refine ⟨_, rfl, ?_⟩) | ((with_reducible refine gate_callee (f := 46) rfl ?_); refine goesL_ (some 25) rfl rfl Tryz.func46 (by kernel_rfl) rfl #[.int .i64 a0_6, .int .i64 0, .int .i64 3] rfl (by (try simp only [mA_, mC_, mN_]); first|done|rfl|(simp only [lD_, lT_]; rfl)) ?_; (with_reducible refine (rule_within.calls a0_6 0 3 true _ A48.out).mono ?_); rintro e w' ⟨rfl, ⟨nd, rfl⟩⟩; refine ⟨_, rfl, ?_⟩))
    go_ret
    exact ⟨by first | rfl | (simp [errW_none, errW_some] <;> rfl) | (simp [*, errW_none, errW_some] <;> rfl), by repeat first|(with_reducible first|exact HB.out|apply ba|apply bd|apply b1|refine bs ?_ GE135.out)|exact HB.out⟩
  ·replace c49 := Bool.eq_false_iff.mpr c49
   subst c49
   rw [if_neg (show ¬ (false = true) by decide)] at H
   obtain rfl := Option.some.inj H
   go_enter Tryz.func60, Tryz.ntmps60
   go_wp2_with (first | ((with_reducible refine gate_dst (N := 1) rfl ?_); refine box_event ?hg (N := 1) ?hd (cs := #[.int .i64 a0_0, .int .i64 a0_1, .int .i64 a0_2, .int .i64 a0_3, .int .u32 a0_4, .int .u32 a0_5, .int .i64 a0_6]) (t := 27) ?hr ?_; (case hd => rfl); (case hg => rfl); (case hr => first | (go_simp; done) | (go_simp; rfl)); intro gb135 hg w55 hbox hb; have n0_ := Aside0.mk (below_step (gB HB.out) hb); have n1_ := Aside0.mk (hbox); have n2_ := Aside0.mk ((by rw [hg]; exact (below_size (gB HB.out)) : w.heap.size ≤ gb135)); have n3_ := Aside0.mk ((by rw [hg]; exact (below_size (gB HB.out)) : w.heap.size ≤ gb135)); clear HB; have HB := n0_; have BK135 := n1_; have GW135 := n2_; have GE135 := n3_; clear n0_ n1_ n2_ n3_; clear hb hbox hg; have hcz56_0 : w55.cell? ⟨gb135, 0, none⟩ = some (.int .i64 a0_0) := (blk_cell BK135.out 0).trans rfl; have hcz56_1 : w55.cell? ⟨gb135, 1, none⟩ = some (.int .i64 a0_1) := (blk_cell BK135.out 1).trans rfl; have hcz56_2 : w55.cell? ⟨gb135, 2, none⟩ = some (.int .i64 a0_2) := (blk_cell BK135.out 2).trans rfl; have hcz56_3 : w55.cell? ⟨gb135, 3, none⟩ = some (.int .i64 a0_3) := (blk_cell BK135.out 3).trans rfl; have hcz56_4 : w55.cell? ⟨gb135, 4, none⟩ = some (.int .u32 a0_4) := (blk_cell BK135.out 4).trans rfl; have hcz56_5 : w55.cell? ⟨gb135, 5, none⟩ = some (.int .u32 a0_5) := (blk_cell BK135.out 5).trans rfl; have hcz56_6 : w55.cell? ⟨gb135, 6, none⟩ = some (.int .i64 a0_6) := (blk_cell BK135.out 6).trans rfl; have hfz56_0 := blk_frozen BK135.out 0; have hfz56_1 := blk_frozen BK135.out 1; have hfz56_2 := blk_frozen BK135.out 2; have hfz56_3 := blk_frozen BK135.out 3; have hfz56_4 := blk_frozen BK135.out 4; have hfz56_5 := blk_frozen BK135.out 5; have hfz56_6 := blk_frozen BK135.out 6) | ((with_reducible refine gate_callee (f := 46) rfl ?_); refine goesL_ (some 7) rfl rfl Tryz.func46 (by kernel_rfl) rfl #[.int .i64 a0_0, .int .i64 1, .int .i64 1048576] rfl (by (try simp only [mA_, mC_, mN_]); first|done|rfl|(simp only [lD_, lT_]; rfl)) ?_; (with_reducible refine (rule_within.calls a0_0 1 1048576 false _ A2.out).mono ?_); rintro e w' ⟨rfl, ⟨nd, rfl⟩⟩; refine ⟨_, rfl, ?_⟩) | ((with_reducible refine gate_callee (f := 46) rfl ?_); refine goesL_ (some 25) rfl rfl Tryz.func46 (by kernel_rfl) rfl #[.int .i64 a0_6, .int .i64 0, .int .i64 3] rfl (by (try simp only [mA_, mC_, mN_]); first|done|rfl|(simp only [lD_, lT_]; rfl)) ?_; (with_reducible refine (rule_within.calls a0_6 0 3 false _ A48.out).mono ?_); rintro e w' ⟨rfl, ⟨nd, rfl⟩⟩; refine ⟨_, rfl, ?_⟩))
   go_ret
   exact ⟨by first | rfl | (simp [errW_none, errW_some] <;> rfl) | (simp [*, errW_none, errW_some] <;> rfl), by repeat first|(with_reducible first|exact HB.out|apply ba|apply bd|apply b1|refine bs ?_ GE135.out)|exact HB.out⟩
def slices_Index_string_string.l0 : Nat → List ByteArray → ByteArray → Int → Int → Option (Int)
 | 0, _, _, _, _ => none
 | k + 1, x0, x1, x7, x8 => if x8 < x7 then (if 0 ≤ x8 then (if x8 < (x0.length : Int) then (if x1.toList = (rdOf ByteArray.empty x0 x8).toList then (some x8) else (slices_Index_string_string.l0 k x0 x1 x7 (wrap64 (x8 + 1)))) else (none)) else (none)) else (some (-1))
def slices_Index_string_string.f (k : Nat) (l0 : List ByteArray) (a1 : ByteArray) : Option (Int) := slices_Index_string_string.l0 k l0 a1 (l0.length : Int) 0
set_option maxHeartbeats 8000000 in
set_option maxRecDepth 100000 in
theorem slices_Index_string_string.calls (k : Nat) (A0 : Option Addr) (c0 : Nat) (l0 : List ByteArray) (a1 : ByteArray) (r : Int) (w : World) (hr0 : Kd.C Kd.string w A0 l0.length l0) (hc0 : l0.length ≤ c0) (h : slices_Index_string_string.f k l0 a1 = some r) :
  Calls Tryz.prog 57 #[.slice A0 l0.length c0, .string a1] w fun e w' => e = .returned (.int .i64 r) ∧ Drawn0 w w' := by
 have HR0 := Aside0.mk hr0
 have HC0 := Aside0.mk hc0
 clear hr0 hc0
 have H : (slices_Index_string_string.l0 k l0 a1 (l0.length : Int) 0) = some r := h
 clear h
 have H' := Aside0.mk H
 clear H
 go_enter Tryz.func57, Tryz.ntmps57
 go_wp2
 go_loopg [8] k (fun kq v8 w' => ∃ (x8_1 : Int), v8 = .int .i64 x8_1 ∧ Aside0 (slices_Index_string_string.l0 kq l0 a1 (l0.length : Int) x8_1 = some r) ∧ Aside0 (kq ≤ k) ∧ Drawn0 w w')
 case atStart => exact ⟨(0), (by first | rfl | (simp; done) | (simp [*]; done)), H', ⟨Nat.le_refl _⟩, by repeat (first | exact Drawn0.refl _ | apply Drawn0.step)⟩
 case round =>
  clear H'
  try clear p2
  obtain ⟨x8_1, rfl, HA, HK1, ⟨m1, rfl⟩⟩ := hrel
  cases gk with
  | zero => exact absurd HA.out (by simp [slices_Index_string_string.l0])
  | succ k1 =>
   have H := HA.out
   clear HA
   simp only [slices_Index_string_string.l0] at H
   by_cases c3 : x8_1 < (l0.length : Int)
   ·rw [if_pos c3] at H
    have c3b0 : decide (x8_1 < (l0.length : Int)) = true := decide_eq_true c3
    clear c3
    by_cases c4 : 0 ≤ x8_1
    ·rw [if_pos c4] at H
     have c4b0 : decide (0 ≤ x8_1) = true := decide_eq_true c4
     clear c4
     by_cases c5 : x8_1 < (l0.length : Int)
     ·rw [if_pos c5] at H
      have c5b0 : decide (x8_1 < (l0.length : Int)) = true := decide_eq_true c5
      clear c5
      by_cases c6 : a1.toList = (rdOf ByteArray.empty l0 x8_1).toList
      ·rw [if_pos c6] at H
       have c6b0 : (a1.toList == (rdOf ByteArray.empty l0 x8_1).toList) = true := beq_iff_eq.mpr c6
       have c6b1 : (a1.toList != (rdOf ByteArray.empty l0 x8_1).toList) = false := bne_eq_false_iff_eq.mpr c6
       clear c6
       obtain rfl := Option.some.inj H
       have p442 : 0 ≤ (x8_1 : Int) := of_decide_eq_true (by first | (with_reducible assumption) | assumption)
       have q442 : x8_1 < (l0.length : Int) := of_decide_eq_true (by first | (with_reducible assumption) | assumption)
       obtain ⟨ad442, e442, hx442_0⟩ := Kd.at_string HR0.out x8_1 p442 q442
       cases e442
       replace p442 := eq_true p442
       replace q442 := eq_true q442
       go_wp2
       go_ret
       exact ⟨by first | rfl | (simp; done) | (simp [*]; done), by repeat (first | exact Drawn0.refl _ | apply Drawn0.step)⟩
      ·rw [if_neg c6] at H
       have c6b0 : (a1.toList == (rdOf ByteArray.empty l0 x8_1).toList) = false := beq_eq_false_iff_ne.mpr c6
       have c6b1 : (a1.toList != (rdOf ByteArray.empty l0 x8_1).toList) = true := bne_iff_ne.mpr c6
       have H' := Aside0.mk H
       clear H
       have p442 : 0 ≤ (x8_1 : Int) := of_decide_eq_true (by first | (with_reducible assumption) | assumption)
       have q442 : x8_1 < (l0.length : Int) := of_decide_eq_true (by first | (with_reducible assumption) | assumption)
       obtain ⟨ad442, e442, hx442_0⟩ := Kd.at_string HR0.out x8_1 p442 q442
       cases e442
       replace p442 := eq_true p442
       replace q442 := eq_true q442
       go_wp2
       go_roundg k1
       case measure => have := HK1.out; omega
       case rel => exact ⟨(wrap64 (x8_1 + 1)), (by first | rfl | (simp; done) | (simp [*]; done)), H', ⟨by have := HK1.out; omega⟩, by repeat (first | exact Drawn0.refl _ | apply Drawn0.step)⟩
     ·rw [if_neg c5] at H
      exact absurd H (by simp)
    ·rw [if_neg c4] at H
     exact absurd H (by simp)
   ·rw [if_neg c3] at H
    have c3b0 : decide (x8_1 < (l0.length : Int)) = false := decide_eq_false c3
    clear c3
    obtain rfl := Option.some.inj H
    go_wp2
    go_ret
    exact ⟨by first | rfl | (simp; done) | (simp [*]; done), by repeat (first | exact Drawn0.refl _ | apply Drawn0.step)⟩
end Go.Proofs.YtfjamikpahmfhaaGreatDoor.P
end
