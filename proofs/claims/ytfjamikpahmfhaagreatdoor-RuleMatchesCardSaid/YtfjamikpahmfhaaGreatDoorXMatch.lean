/- rule.Match and rule.Denies: the first of a device's rules that take an address. -/
import Derived.Test.YtfjamikpahmfhaaGreatDoorXRuleMin
namespace Go.Proofs.YtfjamikpahmfhaaGreatDoor.P
open Go.RowKit Go.Proofs.YtfjamikpahmfhaaGreatDoorW.PrintWords Go.Proofs.YtfjamikpahmfhaaGreatDoorW.PrintLast Go.Proofs.YtfjamikpahmfhaaGreatDoorW.PrintMore
set_option linter.unusedVariables false
set_option linter.unusedSimpArgs false

def headMin : List Rl → Option Rl
  | [] => none
  | x :: r => some (minR x r)
def firstF (p : Rl → Bool) (l : List Rl) : Option Rl := headMin (l.filter p)
theorem AskedAt.mono {W w1 : World} {g : FuncId} {lb : Array Value} {p : Rl → Bool} (h : AskedAt W g lb p) (hb : Below W.heap.size W w1) : AskedAt w1 g lb p :=
  fun w' hw x => h w' (hb.trans (hw.mono hb.size)) x
theorem enters (f : FuncId) {fn : Func} (hf : Tryz.prog.funcs[f]? = some fn) (hname : (fn.name == "runtime.NumGoroutine") = false) (hb : fn.body.isSome = true) : ∀ args w, (callFunc f args).run Tryz.prog w = .ok (.enter f args) w := fun args w => enters_ hf hname hb args w

set_option maxHeartbeats 2000000 in
set_option maxRecDepth 100000 in
theorem first_calls (W : World) (g : FuncId) (lb : Array Value) (p : Rl → Bool) (eg : ∀ args w, (callFunc g args).run Tryz.prog w = .ok (.enter g args) w) (hA : AskedAt W g lb p)
    (A : Option Addr) (c : Nat) (l : List Rl) (hC : Kd.C k27 W A l.length l) (hc : l.length ≤ c) (hsz : l.length * 48 ≤ 140737488351232) :
    Calls Tryz.prog 67 #[.slice A l.length c, .func (.func g) #[] lb] W fun e w' => e = .returned (.tuple #[rv ((firstF p l).getD z27), .bool (firstF p l).isSome]) ∧ Below W.heap.size W w' := by
  have hu45 := Tryz.underlying27
  have HA := Aside0.mk hA
  have HC := Aside0.mk hC
  clear hA hC
  have HB := Aside0.mk (Below.refl W.heap.size W)
  have e61 := enters 119 Tryz.func119 (by kernel_rfl) rfl
  have huS := Tryz.underlying35
  have HF : Aside0 ((l.filter fun x => !(!p x)) = l.filter p) := ⟨by simp⟩
  go_enter Tryz.func67, Tryz.ntmps67
  go_upto_region 2 with (first | ((with_reducible refine gate_dst (N := 3) rfl ?_); refine box_event ?hg (N := 3) ?hd (cs := #[.func (.func g) #[] lb]) (t := 28) ?hr ?_; (case hd => rfl); (case hg => rfl); (case hr => first | (go_simp; done) | (go_simp; rfl)); intro g3 hg w6 hbox hb; have BM3 := Aside0.mk hbox; have n1_ := Aside0.mk (below_step HB.out hb); have n2_ := Aside0.mk (Kd.C_below HC.out hb); clear HB HC; have HB := n1_; have HC := n2_; clear n1_ n2_ hb hbox hg) | ((with_reducible refine gate_dst (N := 4) rfl ?_); refine box_event ?hg (N := 4) ?hd (cs := #[.int .i64 0, .int .i64 0, .int .i64 0, .int .i64 0, .int .u32 0, .int .u32 0, .int .i64 0]) (t := 27) ?hr ?_; (case hd => rfl); (case hg => rfl); (case hr => first | (go_simp; done) | (go_simp; rfl)); intro g4 hg w7 hbox hb; have BM4 := Aside0.mk hbox; have GE4 := Aside0.mk (show W.heap.size ≤ g4 by rw [hg]; exact below_size HB.out); have n1_ := Aside0.mk (below_step HB.out hb); have n2_ := Aside0.mk (Kd.C_below HC.out hb); have n3_ := Aside0.mk (blk_below BM3.out hb); clear HB HC BM3; have HB := n1_; have HC := n2_; have BM3 := n3_; clear n1_ n2_ n3_ hb hbox hg; have H61 := Aside0.mk (first1_asked w7 g3 g lb p eg ((blk_cell BM3.out 0).trans rfl) (HA.out.mono HB.out))) | (go_at_call 75; refine (clone_calls _ A c l HC.out hc hsz).mono ?_; rintro e w8 ⟨v8, rfl, hR, hb8⟩; have HR := Aside0.mk hR; have HB8 := Aside0.mk hb8; clear hR hb8) | (go_at_call 118; refine (deleteFunc_calls w7 w8 119 _ _ e61 H61.out HB8.out v8 l HR.out (by omega)).mono ?_; rintro e w9 ⟨v9, rfl, hR9, hb9⟩; have HR9 := Aside0.mk hR9; have HB9 := Aside0.mk hb9; clear hR9 hb9 HR HB8))
  have BM5 := Aside0.mk (blk_below BM4.out (HB9.out))
  have HBT := Aside0.mk (HB.out.trans (HB9.out.mono HB.out.size))
  clear BM4 BM3 HB HC H61 HA HB9
  have HR10 := Aside0.mk (show Kd.R k27 27 w9 w7.heap.size (fun _ => True) v9 (l.filter p) by rw [← HF.out]; exact HR9.out)
  clear HR9 HF
  obtain ⟨L, hL⟩ : ∃ L, L = l.filter p := ⟨_, rfl⟩
  rw [← hL] at HR10
  have hll : L.length ≤ l.length := by rw [hL]; exact List.length_filter_le _ _
  have HFF := Aside0.mk (show firstF p l = headMin L by rw [hL]; rfl)
  clear hL
  obtain ⟨A2, c2, hv, hc2, hC2⟩ := Kd.R_reads HR10.out
  subst hv
  have HC2 := Aside0.mk hC2
  clear HR10 hC2
  cases L with
  | nil =>
    go_wp2_with ((with_reducible refine gate_ (.store 27 (.tmp 4) (.tmp 13)) rfl ?_); refine store_block rfl rfl 27 (.tmp 4) (.tmp 13) rfl (rv z27) (rcells z27) rfl rfl rfl (by kernel_rfl) (rcells_one _) BM5.out rfl ?_; intro w11 hm hgr)
    refine bodyPost_ret (results_ct rfl _ _ g4 27 (rcells z27).toArray (0, 0) _ rfl hm Tryz.underlying27 rfl (by kernel_rfl)) rfl ?_
    refine ⟨?_, pw_below_grown HBT.out (some g4) HBT.out.size hgr (fun k hk => by injection hk with hk; subst hk; exact GE4.out)⟩
    rw [HFF.out]
    rfl
  | cons x r =>
    have hne : ((((x :: r).length : Nat) : Int) == 0) = false := beq_eq_false_iff_ne.2 (by simp only [List.length_cons]; omega)
    have hnd : decide ((((x :: r).length : Nat) : Int) = 0) = false := decide_eq_false (by simp only [List.length_cons]; omega)
    have hnp : ((((x :: r).length : Nat) : Int) = 0) = False := eq_false (by simp only [List.length_cons]; omega)
    have CM := Aside0.mk (minFunc_calls w9 A2 c2 x r HC2.out hc2 (by omega))
    generalize (x :: r).length = n at *
    go_wp2_with (first | (go_at_call 120; refine CM.out.mono ?_; rintro e w10 ⟨rfl, hb10⟩; have BM6 := Aside0.mk (blk_below BM5.out hb10); have HB10 := Aside0.mk (below_step HBT.out hb10); clear hb10) | ((with_reducible refine gate_ (.store 27 (.tmp 4) (.tmp 15)) rfl ?_); refine store_block rfl rfl 27 (.tmp 4) (.tmp 15) rfl (rv (minR x r)) (rcells (minR x r)) rfl rfl rfl (by kernel_rfl) (rcells_one _) BM6.out rfl ?_; intro w11 hm hgr))
    refine bodyPost_ret (results_ct rfl _ _ g4 27 (rcells (minR x r)).toArray (0, 0) _ rfl hm Tryz.underlying27 rfl (by kernel_rfl)) rfl ?_
    refine ⟨?_, pw_below_grown HB10.out (some g4) HB10.out.size hgr (fun k hk => by injection hk with hk; subst hk; exact GE4.out)⟩
    rw [HFF.out]
    rfl

def matchP (dev a : Int) (x : Rl) : Bool := decide (x.f3 ≤ 1) && takesB dev a x
def deniesP (dev a : Int) (x : Rl) : Bool := decide (1 < x.f3) && takesB dev a x
def rule_Match.f (l : List Rl) (dev a : Int) : Option (Int × Int × Int × Int × Int × Int × Int × Bool) :=
  if l.length * 48 ≤ 140737488351232 then
    let x := (firstF (matchP dev a) l).getD z27
    some (x.f0, x.f1, x.f2, x.f3, x.f4.f0, x.f4.f1, x.f5, (firstF (matchP dev a) l).isSome)
  else none
set_option maxHeartbeats 2000000 in
set_option maxRecDepth 100000 in
theorem rule_Match.calls (A0 : Option Addr) (c0 : Nat) (l0 : List Rl) (a1 a2 r1 r2 r3 r4 r5 r6 r7 : Int) (r8 : Bool) (w : World) (hr0 : Kd.C k27 w A0 l0.length l0) (hc0 : l0.length ≤ c0) (h : rule_Match.f l0 a1 a2 = some (r1, r2, r3, r4, r5, r6, r7, r8)) :
    Calls Tryz.prog 19 #[.slice A0 l0.length c0, .int .i64 a1, .int .u32 a2] w fun e w' => e = .returned (.tuple #[.agg #[.int .i64 r1, .int .i64 r2, .int .i64 r3, .int .i64 r4, .int .u32 r5, .int .u32 r6, .int .i64 r7], .bool r8]) ∧ Below w.heap.size w w' := by
  unfold rule_Match.f at h
  split at h
  case isFalse => cases h
  rename_i hsz
  have hh := Option.some.inj h
  clear h
  simp only [Prod.mk.injEq] at hh
  obtain ⟨e1, e2, e3, e4, e5, e6, e7, e8⟩ := hh
  have HV : Aside0 (rv ((firstF (matchP a1 a2) l0).getD z27) = .agg #[.int .i64 r1, .int .i64 r2, .int .i64 r3, .int .i64 r4, .int .u32 r5, .int .u32 r6, .int .i64 r7]) := ⟨by rw [← e1, ← e2, ← e3, ← e4, ← e5, ← e6, ← e7]; rfl⟩
  clear e1 e2 e3 e4 e5 e6 e7
  have hu45 := Tryz.underlying27
  have e43 := enters 68 Tryz.func68 (by kernel_rfl) rfl
  have HC := Aside0.mk hr0
  clear hr0
  have HB := Aside0.mk (Below.refl w.heap.size w)
  go_enter Tryz.func19, Tryz.ntmps19
  go_wp2_with (first | ((with_reducible refine gate_dst (N := 4) rfl ?_); refine box_event ?hg (N := 4) ?hd (cs := #[.int .i64 a1]) (t := 3) ?hr ?_; (case hd => rfl); (case hg => rfl); (case hr => first | (go_simp; done) | (go_simp; rfl)); intro g4 hg w6 hbox hb; have BM4 := Aside0.mk hbox; have n1_ := Aside0.mk (below_step HB.out hb); have n2_ := Aside0.mk (Kd.C_below HC.out hb); clear HB HC; have HB := n1_; have HC := n2_; clear n1_ n2_ hb hbox hg) | ((with_reducible refine gate_dst (N := 5) rfl ?_); refine box_event ?hg (N := 5) ?hd (cs := #[.int .u32 a2]) (t := 23) ?hr ?_; (case hd => rfl); (case hg => rfl); (case hr => first | (go_simp; done) | (go_simp; rfl)); intro g5 hg w6 hbox hb; have BM5 := Aside0.mk hbox; have n1_ := Aside0.mk (below_step HB.out hb); have n2_ := Aside0.mk (Kd.C_below HC.out hb); have n3_ := Aside0.mk (blk_below BM4.out hb); clear HB HC BM4; have HB := n1_; have HC := n2_; have BM4 := n3_; clear n1_ n2_ n3_ hb hbox hg) | ((with_reducible refine gate_dst (N := 6) rfl ?_); refine box_event ?hg (N := 6) ?hd (cs := #[.int .i64 0, .int .i64 0, .int .i64 0, .int .i64 0, .int .u32 0, .int .u32 0, .int .i64 0]) (t := 27) ?hr ?_; (case hd => rfl); (case hg => rfl); (case hr => first | (go_simp; done) | (go_simp; rfl)); intro g6 hg w7 hbox hb; have BM6 := Aside0.mk hbox; have GE6 := Aside0.mk (show w.heap.size ≤ g6 by rw [hg]; exact below_size HB.out); have n1_ := Aside0.mk (below_step HB.out hb); have n2_ := Aside0.mk (Kd.C_below HC.out hb); have n3_ := Aside0.mk (blk_below BM4.out hb); have n4_ := Aside0.mk (blk_below BM5.out hb); clear HB HC BM4 BM5; have HB := n1_; have HC := n2_; have BM4 := n3_; have BM5 := n4_; clear n1_ n2_ n3_ n4_ hb hbox hg; have HP := Aside0.mk (match1_asked w7 g4 g5 a1 a2 ((blk_cell BM4.out 0).trans rfl) ((blk_cell BM5.out 0).trans rfl))) | (go_at_call 67; refine (first_calls w7 68 _ (matchP a1 a2) e43 HP.out A0 c0 l0 HC.out hc0 hsz).mono ?_; rintro e w8 ⟨rfl, hb8⟩; have BM7 := Aside0.mk (blk_below BM6.out hb8); have HB8 := Aside0.mk (below_step HB.out hb8); clear hb8) | ((with_reducible refine gate_ (.store 27 (.tmp 6) (.tmp 11)) rfl ?_); refine store_block rfl rfl 27 (.tmp 6) (.tmp 11) rfl (rv ((firstF (matchP a1 a2) l0).getD z27)) (rcells ((firstF (matchP a1 a2) l0).getD z27)) rfl rfl rfl (by kernel_rfl) (rcells_one _) BM7.out rfl ?_; intro w11 hm hgr))
  refine bodyPost_ret (results_ct rfl _ _ g6 27 (rcells ((firstF (matchP a1 a2) l0).getD z27)).toArray (0, 0) _ rfl hm Tryz.underlying27 rfl (by kernel_rfl)) rfl ?_
  refine ⟨?_, pw_below_grown HB8.out (some g6) HB8.out.size hgr (fun k hk => by injection hk with hk; subst hk; exact GE6.out)⟩
  rw [← e8, ← HV.out]
  rfl
def rule_Denies.f (l : List Rl) (dev a : Int) : Option Bool :=
  if l.length * 48 ≤ 140737488351232 then some ((firstF (deniesP dev a) l).isSome && decide (((firstF (deniesP dev a) l).getD z27).f3 = 3)) else none
set_option maxHeartbeats 2000000 in
set_option maxRecDepth 100000 in
theorem rule_Denies.calls (A0 : Option Addr) (c0 : Nat) (l0 : List Rl) (a1 a2 : Int) (r : Bool) (w : World) (hr0 : Kd.C k27 w A0 l0.length l0) (hc0 : l0.length ≤ c0) (h : rule_Denies.f l0 a1 a2 = some r) :
    Calls Tryz.prog 22 #[.slice A0 l0.length c0, .int .i64 a1, .int .u32 a2] w fun e w' => e = .returned (.bool r) ∧ Below w.heap.size w w' := by
  unfold rule_Denies.f at h
  split at h
  case isFalse => cases h
  rename_i hsz
  have hh := Aside0.mk (Option.some.inj h)
  clear h
  have hu45 := Tryz.underlying27
  have e43 := enters 71 Tryz.func71 (by kernel_rfl) rfl
  have HC := Aside0.mk hr0
  clear hr0
  have HB := Aside0.mk (Below.refl w.heap.size w)
  obtain ⟨X, hX⟩ : ∃ X, X = (firstF (deniesP a1 a2) l0).getD z27 := ⟨_, rfl⟩
  obtain ⟨is, his⟩ : ∃ is, is = (firstF (deniesP a1 a2) l0).isSome := ⟨_, rfl⟩
  rw [← hX, ← his] at hh
  have HX := Aside0.mk hX
  have HI := Aside0.mk his
  clear hX his
  go_enter Tryz.func22, Tryz.ntmps22
  go_upto_region 2 with (first | ((with_reducible refine gate_dst (N := 4) rfl ?_); refine box_event ?hg (N := 4) ?hd (cs := #[.int .i64 a1]) (t := 3) ?hr ?_; (case hd => rfl); (case hg => rfl); (case hr => first | (go_simp; done) | (go_simp; rfl)); intro g4 hg w6 hbox hb; have BM4 := Aside0.mk hbox; have n1_ := Aside0.mk (below_step HB.out hb); have n2_ := Aside0.mk (Kd.C_below HC.out hb); clear HB HC; have HB := n1_; have HC := n2_; clear n1_ n2_ hb hbox hg) | ((with_reducible refine gate_dst (N := 5) rfl ?_); refine box_event ?hg (N := 5) ?hd (cs := #[.int .u32 a2]) (t := 23) ?hr ?_; (case hd => rfl); (case hg => rfl); (case hr => first | (go_simp; done) | (go_simp; rfl)); intro g5 hg w7 hbox hb; have BM5 := Aside0.mk hbox; have n1_ := Aside0.mk (below_step HB.out hb); have n2_ := Aside0.mk (Kd.C_below HC.out hb); have n3_ := Aside0.mk (blk_below BM4.out hb); clear HB HC BM4; have HB := n1_; have HC := n2_; have BM4 := n3_; clear n1_ n2_ n3_ hb hbox hg; have HP := Aside0.mk (denies1_asked w7 g4 g5 a1 a2 ((blk_cell BM4.out 0).trans rfl) ((blk_cell BM5.out 0).trans rfl))) | (go_at_call 67; refine (first_calls w7 71 _ (deniesP a1 a2) e43 HP.out A0 c0 l0 HC.out hc0 hsz).mono ?_; rintro e w8 ⟨rfl, hb8⟩; rw [← HX.out, ← HI.out]; have HB8 := Aside0.mk (below_step HB.out hb8); clear hb8; unfold rv))
  cases is
  · go_wp2
    go_ret
    exact ⟨by rw [← hh.out]; rfl, by repeat (first | exact HB8.out | apply below_alloc)⟩
  · by_cases h3 : X.f3 = 3
    · have e1 : (X.f3 == 3) = true := by simp [h3]
      have e2 : decide (X.f3 = 3) = true := decide_eq_true h3
      go_wp2
      go_ret
      exact ⟨by rw [← hh.out, e2]; simp [h3], by repeat (first | exact HB8.out | apply below_alloc)⟩
    · have e1 : (X.f3 == 3) = false := by simp [h3]
      have e2 : decide (X.f3 = 3) = false := decide_eq_false h3
      have e3 : (X.f3 = 3) = False := eq_false h3
      go_wp2
      go_ret
      exact ⟨by rw [← hh.out, e2]; simp [h3], by repeat (first | exact HB8.out | apply below_alloc)⟩
end Go.Proofs.YtfjamikpahmfhaaGreatDoor.P
