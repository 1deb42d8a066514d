/- prefix.Split: the prefixes of a range, as the code's iterator yields them. -/
import Derived.Test.YtfjamikpahmfhaaDoorXLaid
import Derived.RangeFuncNested
import Derived.RangeFuncBound
import Derived.RangeFuncCalls
import Derived.RangeFuncLeaves
import Derived.RangeFuncBox
import Derived.Shelf.Abstract
import Derived.Shelf.RegionOpen
import Derived.WalkKit
import Derived.OwnWalkIn
import Derived.TacticsInMore
import Derived.LoopNIn
import Derived.LoopIn
import Derived.Maps.AppendAt
import Derived.Outline
namespace Go.Proofs.YtfjamikpahmfhaaDoor.P
open Go.RowKit Go.Shelf Go.Proofs.YtfjamikpahmfhaaDoorW.PrintWords Go.Proofs.YtfjamikpahmfhaaDoorW.PrintLast Go.Proofs.YtfjamikpahmfhaaDoorW.PrintMore
set_option linter.unusedVariables false
attribute [local go_sem] Oper.semAt_some

/-- How wide the next prefix is. -/
def wide (at_ hi_ : Nat) : Nat := min (min (Lib.ctz 64 at_) 32) (Lib.bitLen (hi_ - at_ + 1) - 1)
/-- The prefixes from an address on, up to another one: where each begins, and its width. -/
def prefs : Nat → Nat → Nat → List (Nat × Nat)
  | 0, _, _ => []
  | k + 1, at_, hi_ => if at_ ≤ hi_ then (at_, wide at_ hi_) :: prefs k (at_ + 2 ^ wide at_ hi_) hi_ else []
def encP (x : Nat × Nat) : Value := .agg #[.int .u32 (x.1 : Int), .int .i64 (32 - (x.2 : Int))]

theorem prefs_irrel (hi_ : Nat) : ∀ (k m at_ : Nat), hi_ + 1 ≤ at_ + k → hi_ + 1 ≤ at_ + m → prefs k at_ hi_ = prefs m at_ hi_ := by
  intro k
  induction k with
  | zero =>
    intro m at_ h1 h2
    cases m with
    | zero => rfl
    | succ m =>
      simp only [prefs]
      rw [if_neg (by omega)]
  | succ k ih =>
    intro m at_ h1 h2
    cases m with
    | zero =>
      simp only [prefs]
      rw [if_neg (by omega)]
    | succ m =>
      simp only [prefs]
      by_cases h : at_ ≤ hi_
      · rw [if_pos h, if_pos h]
        have h3 : 0 < 2 ^ wide at_ hi_ := Nat.two_pow_pos _
        generalize 2 ^ wide at_ hi_ = p at *
        exact congrArg _ (ih m (at_ + p) (by omega) (by omega))
      · rw [if_neg h, if_neg h]
theorem prefs_step (at_ hi_ : Nat) (h : at_ ≤ hi_) : prefs (hi_ + 1) at_ hi_ = (at_, wide at_ hi_) :: prefs (hi_ + 1) (at_ + 2 ^ wide at_ hi_) hi_ := by
  rw [prefs, if_pos h]
  have h2 : 0 < 2 ^ wide at_ hi_ := Nat.two_pow_pos _
  generalize 2 ^ wide at_ hi_ = p at *
  exact congrArg _ (prefs_irrel hi_ hi_ (hi_ + 1) (at_ + p) (by omega) (by omega))
theorem prefs_end (at_ hi_ : Nat) (h : ¬ at_ ≤ hi_) : prefs (hi_ + 1) at_ hi_ = [] := by rw [prefs, if_neg h]

theorem run_min3 (P : Program) (ats : Array TypeId) (ty : TypeId) (a b c v : Int) (hv : v = min (min a b) c) (w : World) :
    (Builtin.min_ ats ty #[.int .i64 a, .int .i64 b, .int .i64 c]).run P w = .ok (.int .i64 v) w := by
  rw [min_three, min2_int, pure_bind, min2_int, pure_bind]
  show Result.ok _ _ = _
  congr 2
  omega
theorem shl_wrap (at_ v : Nat) (h1 : at_ ≤ 8589934592) (h2 : v ≤ 32) : IntKind.u64.wrap ((at_ : Int) + IntKind.u64.wrap (2 ^ v)) = ((at_ + 2 ^ v : Nat) : Int) := by
  have h3 : 2 ^ v ≤ 4294967296 := Nat.pow_le_pow_right (by decide) h2
  have e : ((2 : Int) ^ v) = ((2 ^ v : Nat) : Int) := by simp
  rw [e]
  generalize 2 ^ v = p at *
  rw [IntKind.wrap_u64, IntKind.wrap_u64]
  omega
theorem ctzFrom_le : ∀ (f x : Nat), Lib.ctzFrom f x ≤ f
  | 0, _ => Nat.le_refl 0
  | f + 1, x => by
    unfold Lib.ctzFrom
    have := ctzFrom_le f (x / 2)
    split <;> omega
theorem ctz_le (w x : Nat) : Lib.ctz w x ≤ w := by
  unfold Lib.ctz
  split
  · exact Nat.le_refl _
  · exact ctzFrom_le w x

set_option maxRecDepth 100000 in
set_option maxHeartbeats 1000000 in
theorem prefixes1_in (n : Nat) (hn : 2 ≤ n) (l Bn n₀ : Nat) (fr hi_ : Nat) (hfr : fr ≤ 4294967295) (hto : hi_ ≤ 4294967295) (hn₀ : 8 ≤ n₀) (J Jx : List (Nat × Nat) → World → Prop)
    (hY : ∀ pre x W, J pre W → pre.length < (prefs (hi_ + 1) fr hi_).length → YieldAt Fence.wide (n - 1) Tryd.prog l #[encP x] W fun e W' =>
      (e = .returned (.bool true) ∧ J (pre ++ [x]) W' ∧ Below n₀ W W') ∨ (e = .returned (.bool false) ∧ Jx (pre ++ [x]) W'))
    (hJd : ∀ pre W, J pre W → J pre W.drew) (W : World) (HLd : Laid W) (hB0 : W.cell? ⟨Bn, 0, none⟩ = some (.int .u32 (fr : Int))) (hB1 : W.cell? ⟨Bn, 1, none⟩ = some (.int .u32 (hi_ : Int))) (h0 : J [] W) :
    CallsIn Fence.wide n Tryd.prog 74 #[.func (.yield l) #[] #[], .pointer (some ⟨Bn, 0, none⟩)] W fun e W' => (∃ v, e = .returned v) ∧
      ((∃ ys, ys = prefs (hi_ + 1) fr hi_ ∧ J ys W') ∨ (∃ pre, pre <+: prefs (hi_ + 1) fr hi_ ∧ Jx pre W')) := by
  refine callsIn_of_wp Tryd.func74 rfl trivial ?_ rfl
  simp only [Tryd.ntmps74, List.size_toArray, List.length_cons, List.length_nil, Nat.reduceAdd, Nat.reduceSub, Array.replicate_succ, Array.replicate_zero, List.push_toArray, List.append_toArray, List.nil_append, List.cons_append]
  gi_wp2
  gi_region
  all_goals gi_wp2
  all_goals
    gi_loopw [3] (fun p wr => ∃ (pre : List (Nat × Nat)) (at_ : Nat), p = .int .u64 (at_ : Int) ∧ at_ ≤ 8589934592 ∧ Aside0 (prefs (hi_ + 1) fr hi_ = pre ++ prefs (hi_ + 1) at_ hi_) ∧ Aside0 (J pre wr) ∧ Aside0 (Below n₀ W wr))
      (fun p _ => 8589934593 - (intOf p).toNat)
    case atStart => exact ⟨[], fr, rfl, by omega, ⟨rfl⟩, ⟨hJd _ _ h0⟩, ⟨(Below.refl _ _).drew⟩⟩
    case round =>
      obtain ⟨pre, at_, rfl, hat, hx, hJs, hBs⟩ := hrel
      by_cases hle : at_ ≤ hi_
      · have hstep := Aside0.mk (prefs_step at_ hi_ hle)
        have hY1 := Aside0.mk (hY pre (at_, wide at_ hi_) wr hJs.out (by rw [hx.out, hstep.out]; simp))
        have hLd1 := HLd.belowB hn₀ hBs.out
        have hc := Lib.hid (ctz_calls at_ (by omega) wr hLd1)
        have hL := Lib.hid (len64_calls ((hi_ : Int) - at_ + 1) wr (by omega) (by omega))
        have hw2 : Aside0 (wide at_ hi_ = min (min (Lib.ctz 64 at_) 32) (Lib.bitLen ((hi_ : Int) - at_ + 1).toNat - 1)) := ⟨by unfold wide; rw [show ((hi_ : Int) - at_ + 1).toNat = hi_ - at_ + 1 by omega]⟩
        have htz : Lib.ctz 64 at_ ≤ 64 := ctz_le 64 at_
        have hL1 : 1 ≤ Lib.bitLen ((hi_ : Int) - at_ + 1).toNat := (Lib.bitLenAux_bounds 64 _ (by omega) (by omega)).1
        have hL2 : Lib.bitLen ((hi_ : Int) - at_ + 1).toNat ≤ 33 := Lib.bitLen_le _ 33 (by omega) (by omega)
        generalize Lib.ctz 64 at_ = tz at *
        generalize Lib.bitLen ((hi_ : Int) - at_ + 1).toNat = L at *
        have hv32 : wide at_ hi_ ≤ 32 := by rw [hw2.out]; omega
        have hmin := fun W => run_min3 Tryd.prog #[3, 3, 3] 3 (tz : Int) 32 ((L : Int) - 1) (wide at_ hi_ : Nat) (by rw [hw2.out]; omega) W
        generalize wide at_ hi_ = v at *
        gi_wp2
        refine ⟨trivial, fun _ => (by omega), ?_⟩
        refine (callsIn_wide.2 hc.out).mono ?_
        rintro e w1 ⟨rfl, rfl⟩
        gi_wp2
        refine ⟨trivial, fun _ => (by omega), ?_⟩
        refine (callsIn_wide.2 hL.out).mono ?_
        rintro e w1 ⟨rfl, rfl⟩
        obtain ⟨fn, tmps, assign, body, hy, hR⟩ := hY1.out
        dsimp only [encP] at hy
        gi_wp2
        refine ⟨fun _ => (by omega), ?_⟩
        refine hR.mono ?_
        rintro e W3 (⟨rfl, hJ3, hk3⟩ | ⟨rfl, hJx3⟩)
        · have hp : 2 ^ v ≤ 4294967296 := Nat.pow_le_pow_right (by decide) hv32
          have hwr := Lib.hid (shl_wrap at_ v hat hv32)
          gi_wp2
          go_roundw
          case rel => exact ⟨pre ++ [(at_, v)], at_ + 2 ^ v, by rw [hwr.out], by omega, ⟨by rw [hx.out, hstep.out]; simp⟩, ⟨hJ3⟩, ⟨hBs.out.trans hk3⟩⟩
          case measure =>
            rw [hwr.out]
            have h3 : 0 < 2 ^ v := Nat.two_pow_pos _
            generalize 2 ^ v = p at *
            simp only [intOf]
            omega
        · gi_wp2
          refine bodyPost_ret (results_none rfl _ _ _) rfl ?_
          exact ⟨⟨_, rfl⟩, .inr ⟨pre ++ [(at_, v)], ⟨prefs (hi_ + 1) (at_ + 2 ^ v) hi_, by rw [hx.out, hstep.out]; simp⟩, hJx3⟩⟩
      · have hend := prefs_end at_ hi_ hle
        have hx2 := Aside0.mk (hx.out.trans (by rw [hend, List.append_nil]))
        clear hend
        gi_wp2
        go_end0
        exact ⟨⟨_, rfl⟩, .inl ⟨pre, hx2.out.symm, hJs.out⟩⟩

theorem prefixes_stops (n : Nat) (hn : 2 ≤ n) (Bn n₀ : Nat) (fr hi_ : Nat) (hfr : fr ≤ 4294967295) (hto : hi_ ≤ 4294967295) (hn₀ : 8 ≤ n₀) (w : World) (hBn : Bn < w.heap.size) (HLd : Laid w)
    (hB0 : w.cell? ⟨Bn, 0, none⟩ = some (.int .u32 (fr : Int))) (hB1 : w.cell? ⟨Bn, 1, none⟩ = some (.int .u32 (hi_ : Int))) :
    SeqStopsK Fence.wide n Tryd.prog 74 #[.pointer (some ⟨Bn, 0, none⟩)] (fun x : Nat × Nat => #[encP x]) (Below n₀) (fun ys => ys = prefs (hi_ + 1) fr hi_) (fun pre => pre <+: prefs (hi_ + 1) fr hi_) (prefs (hi_ + 1) fr hi_).length w := fun l J Jx W hW hJ _ hY h0 =>
  prefixes1_in n hn l Bn n₀ fr hi_ hfr hto hn₀ J Jx hY (fun pre W0 h => hJ pre W0 W0.drew none h ⟨rfl, rfl, rfl, Nat.le_refl _, fun _ _ _ => rfl⟩ (fun r e => by cases e)) W (HLd.below hW)
    ((hW.cell (p := ⟨Bn, 0, none⟩) hBn).trans hB0) ((hW.cell (p := ⟨Bn, 1, none⟩) hBn).trans hB1) h0

theorem prefs_length : ∀ (k at_ hi_ : Nat), (prefs k at_ hi_).length ≤ k
  | 0, _, _ => Nat.le_refl 0
  | k + 1, at_, hi_ => by
    rw [prefs]
    split
    · rw [List.length_cons]
      exact Nat.succ_le_succ (prefs_length k _ _)
    · exact Nat.zero_le _
theorem prefixes_in (n : Nat) (a b : Int) (w : World) :
    CallsIn Fence.wide n Tryd.prog 58 #[.agg #[.int .u32 a, .int .u32 b]] w fun e w' => e = .returned (.func (.func 74) #[] #[.pointer (some ⟨w.heap.size, 0, none⟩)]) ∧ w' = w.alloc (.cells #[.int .u32 a, .int .u32 b] 26) := by
  refine callsIn_of_wp Tryd.func58 rfl trivial ?_ rfl
  simp only [Tryd.ntmps58, List.size_toArray, List.length_cons, List.length_nil, Nat.reduceAdd, Nat.reduceSub, Array.replicate_succ, Array.replicate_zero, List.push_toArray, List.append_toArray, List.nil_append, List.cons_append]
  gi_wp2
  go_ret
  exact ⟨rfl, rfl⟩
/-- The cells of a row of prefixes. -/
def celP (pre : List (Nat × Nat)) : List Value := pre.flatMap fun x => [.int .u32 (x.1 : Int), .int .i64 (32 - (x.2 : Int))]
theorem celP_snoc (pre : List (Nat × Nat)) (x : Nat × Nat) : celP (pre ++ [x]) = celP pre ++ [.int .u32 (x.1 : Int), .int .i64 (32 - (x.2 : Int))] := by simp [celP]
theorem infoP : (Tryd.prog.info? 24).map (fun i => (i.zero, i.size, i.bytes)) = some (some (.agg #[.int .u32 0, .int .i64 0]), 2, 16) := by kernel_rfl

theorem reps_celP (w : World) (base : Nat) (ok : Nat → Prop) (l : List (Nat × Nat)) :
    Reps (k24.M w base ok) 2 (l.map fun x => (⟨(x.1 : Int), 32 - (x.2 : Int)⟩ : S24)) (celP l) := by
  induction l with
  | nil => exact Reps.none _ _
  | cons x l ih => exact Reps.c2 (k24_mkM w base ok ⟨(x.1 : Int), 32 - (x.2 : Int)⟩) ih
/-- The prefixes of a range, as the code's structs. -/
def prefL (fr hi_ : Nat) : List S24 := (prefs (hi_ + 1) fr hi_).map fun x => ⟨(x.1 : Int), 32 - (x.2 : Int)⟩
def prefix_Split.f (a0_0 a0_1 : Int) : Option (List S24 × Int) :=
  if 0 ≤ a0_0 ∧ a0_0 ≤ 4294967295 ∧ 0 ≤ a0_1 ∧ a0_1 ≤ 4294967295 then (if a0_0 > a0_1 then some ([], 21) else some (prefL a0_0.toNat a0_1.toNat, 0)) else none

set_option maxRecDepth 100000 in
set_option maxHeartbeats 2000000 in
theorem prefix_Split_in (n : Nat) (hn : 4 ≤ n) (fr hi_ : Nat) (hto : hi_ ≤ 4294967295) (hle : fr ≤ hi_) (w : World) (HLd : Laid w) :
    CallsIn Fence.wide n Tryd.prog 36 #[.agg #[.int .u32 (fr : Int), .int .u32 (hi_ : Int)]] w fun e w' =>
      ∃ v0_ : Value, e = .returned (.tuple #[v0_, .int .i64 0]) ∧ Kd.R k24 24 w' w.heap.size (fun _ => True) v0_ (prefL fr hi_) ∧ Below w.heap.size w w' := by
  refine callsIn_of_wp_marks Tryd.func36 rfl trivial ?_ rfl
  simp only [Tryd.ntmps36, List.size_toArray, List.length_cons, List.length_nil, Nat.reduceAdd, Nat.reduceSub, Array.replicate_succ, Array.replicate_zero, List.push_toArray, List.append_toArray, List.nil_append, List.cons_append]
  obtain ⟨i0, hi, hz0, hz1, hz2⟩ := info_parts infoP
  have hroom := HLd.room
  have hd : decide (hi_ < fr) = false := decide_eq_false (by omega)
  gi_wp2
  refine ⟨trivial, fun _ => (by omega), ?_⟩
  refine (prefixes_in (n - 1) fr hi_ _).mono ?_
  rintro e w' ⟨rfl, rfl⟩
  obtain ⟨W1, hW1⟩ : ∃ W1, (w.alloc (.cells #[.int .u32 (fr : Int), .int .u32 (hi_ : Int)] 26)).alloc (.cells #[.slice none 0 0] 69) = W1 := ⟨_, rfl⟩
  have hs1 : W1.heap.size = w.heap.size + 2 := by rw [← hW1]; simp
  have hB1 : Below w.heap.size w W1 := by rw [← hW1]; exact ((Below.refl _ w).alloc (Nat.le_refl _) _).alloc (by simp) _
  have bO : Boxed W1 (w.heap.size + 1) 69 (.slice none 0 0) := by
    rw [← hW1]
    have := Boxed.new (w.alloc (.cells #[.int .u32 (fr : Int), .int .u32 (hi_ : Int)] 26)) 69 (.slice none 0 0)
    rwa [World.size_alloc] at this
  rw [hW1]
  obtain ⟨W2, hW2⟩ : ∃ W2, W1.alloc (.cells #[.int .u32 (fr : Int), .int .u32 (hi_ : Int)] 26) = W2 := ⟨_, rfl⟩
  have hs2 : W2.heap.size = w.heap.size + 3 := by rw [← hW2]; simp; omega
  have hB2 : Below w.heap.size w W2 := by rw [← hW2]; exact hB1.alloc hB1.size _
  have bO2 : Boxed W2 (w.heap.size + 1) 69 (.slice none 0 0) := by rw [← hW2]; exact bO.alloc _
  have hr2 : W2.heap[w.heap.size + 2]? = some (.cells #[.int .u32 (fr : Int), .int .u32 (hi_ : Int)] 26 (0, 0)) := by
    rw [← hW2, ← hs1]
    exact World.alloc_heap_new W1 _
  have hc0 : W2.cell? ⟨w.heap.size + 2, 0, none⟩ = some (.int .u32 (fr : Int)) := by simp [World.cell?, hr2]
  have hc1 : W2.cell? ⟨w.heap.size + 2, 1, none⟩ = some (.int .u32 (hi_ : Int)) := by simp [World.cell?, hr2]
  rw [hW2, hs1]
  clear hr2 hW1 hW2
  gi_wp2
  have hN := prefs_length (hi_ + 1) fr hi_
  refine wpIn_rangeFunc_ownH rfl (by omega) (gf := 74) (lb := #[.pointer (some ⟨w.heap.size + 2, 0, none⟩)]) rfl trivial (enters_of Tryd.func74 (by kernel_rfl) rfl)
    (prefixes_stops (n - 1) (by omega) (w.heap.size + 2) w.heap.size fr hi_ (by omega) hto hroom W2 (by omega) (HLd.below hB2) hc0 hc1) belowK_t (belowK_b (by omega)) (Below.refl _ _) (fun _ => rfl)
    (fun pre W => (∃ v, Boxed W (w.heap.size + 1) 69 v ∧ W.ownsRow w.heap.size 24 2 v pre.length (celP pre) ∧ True) ∧ Below w.heap.size w W)
    (fun _ _ _ => False)
    (OwnFrom.and (Own.from (holdsRow_own w.heap.size (w.heap.size + 1) 69 24 2 (fun pre : List (Nat × Nat) => pre.length) (fun pre => celP pre) (fun _ _ => True)) _) (ownFrom_below (Nat.le_refl _) (by omega)))
    (fun _ _ _ _ _ hs _ _ => hs)
    ⟨⟨_, bO2, World.ownsRow_nil _ _ _ _, trivial⟩, hB2⟩
    (fun x a' W => ∃ Bx, w.heap.size + 1 < Bx ∧ W.heap[Bx]? = some (.cells #[.int .u32 (x.1 : Int), .int .i64 (32 - (x.2 : Int))] 24 (0, 0)) ∧ a' = { tmps := #[.agg #[.int .u32 (fr : Int), .int .u32 (hi_ : Int)], .pointer (some ⟨w.heap.size, 0, none⟩), .slice none 0 0, .int .i64 0, .pointer (some ⟨w.heap.size + 1, 0, none⟩), .pointer (some ⟨Bx, 0, none⟩), .pointer (some ⟨w.heap.size, 0, none⟩), .int .u32 (fr : Int), .pointer (some ⟨w.heap.size, 1, none⟩), .int .u32 (hi_ : Int), .bool false, .agg #[.int .u32 (fr : Int), .int .u32 (hi_ : Int)], .func (.func 74) #[] #[.pointer (some ⟨w.heap.size + 2, 0, none⟩)], encP x, undef, undef, undef, undef, undef], defers := [] })
    (fun x a' _ X Y row hs hg hr => by
      obtain ⟨Bx, h1, h2, h3⟩ := hs
      refine ⟨Bx, h1, (hg.block Bx (Array.getElem?_eq_some_iff.1 h2).1 (fun e' => ?_)).trans h2, h3⟩
      obtain ⟨o, ho, hc⟩ := (hr Bx e'.symm).2
      rw [h2] at ho
      cases ho
      cases hc)
    ?assign ?body ?done ?stop
  case assign =>
    rintro l pre x W K ⟨⟨v, bv, ho, _⟩, hB⟩ hK
    dsimp only [encP]
    gi_wp2
    refine hK _ _ ((KeepsOthers.alloc _ _).from _) ((Below.refl _ W).alloc hB.size _) ⟨⟨v, bv.alloc _, ho.alloc _, trivial⟩, hB.alloc hB.size _⟩ ⟨W.heap.size, bv.lt, World.alloc_heap_new W _, rfl⟩
  case body =>
    rintro l pre x a' W hl ⟨r, hr⟩ ⟨⟨v, hv, hrow, _⟩, hB⟩ ⟨Bx, hBx, hbx, rfl⟩ hlt
    have hc := hv.cell
    have hx0 : W.cell? ⟨Bx, 0, none⟩ = some (.int .u32 (x.1 : Int)) := by simp [World.cell?, hbx]
    have hx1 : W.cell? ⟨Bx, 1, none⟩ = some (.int .i64 (32 - (x.2 : Int))) := by simp [World.cell?, hbx]
    have b1 : pre.length + 1 ≤ maxLen := by unfold maxLen; omega
    have b2 : (pre.length + 1) * 16 ≤ 140737488355328 := by omega
    have b3 : w.heap.size ≤ (W.alloc (.cells #[.int .u32 (x.1 : Int), .int .i64 (32 - (x.2 : Int))] 24)).heap.size := by have := hB.size; simp; omega
    clear hbx
    gi_wp2_with (gi_at_builtin; refine wpListIn_append_own _ rfl _ _ 69 rfl w.heap.size 24 i0 (.agg #[.int .u32 0, .int .i64 0]) 2 16 Tryd.underlying69 hi hz0 hz1 hz2 rfl (by decide) _ _ _ rfl (hrow.alloc _) ⟨W.heap.size, 0, none⟩ 1 1 [.int .u32 (x.1 : Int), .int .i64 (32 - (x.2 : Int))] rfl rfl (cell_two_new _ _ _ _) (by simp [Value.oneCell']) b1 b2 b3 ?_; intro v' w1 hown' hgrow _; obtain ⟨g', cap', rfl⟩ := ownsRow_succ hown'; obtain ⟨hv1, hv2, hr2, hk2, hb2⟩ := hv.appended (by decide) hrow hB.size (Nat.le_succ _) hown' hgrow; have hc1 := hv1.cell; have hf1 := hv1.frozen)
    exact ⟨hk2.from _, hb2, ⟨_, hv2, by rw [celP_snoc]; simpa using hr2, trivial⟩, hB.trans hb2⟩
  case done =>
    rintro D ys W hD rfl ⟨⟨v, hv, hrow, _⟩, hB⟩ hK
    have hc := hv.cell
    gi_wp2
    refine ⟨by simp, .inl ⟨_, _, rfl, run_takeDeferred hK, ?_⟩⟩
    refine ⟨_, results_tmp2 rfl _ _ _, v, rfl, ⟨fun _ _ => trivial, celP (prefs (hi_ + 1) fr hi_), ?_, ?_⟩, hB.trans (belowK_b (w := w) (Nat.le_refl _) W D _ _ (by omega) hK rfl rfl)⟩
    · have h5 := ownsRow_putObj hrow (.deferred none) hK rfl
      have e6 : (prefL fr hi_).length = (prefs (hi_ + 1) fr hi_).length := by simp [prefL]
      rw [e6]
      exact h5
    · exact reps_celP _ _ _ _
  case stop =>
    rintro D c pre W _ _ h _
    exact h.elim

set_option maxRecDepth 100000 in
set_option maxHeartbeats 1000000 in
theorem prefix_Split_bad (a b : Int) (hlt : b < a) (w : World) :
    Calls Tryd.prog 36 #[.agg #[.int .u32 a, .int .u32 b]] w fun e w' => e = .returned (.tuple #[.slice none 0 0, .int .i64 21]) ∧ Below w.heap.size w w' := by
  have hd : decide (b < a) = true := decide_eq_true hlt
  go_enter Tryd.func36, Tryd.ntmps36
  go_wp2_with fail
  go_ret2
  exact ⟨rfl, (Below.refl _ _).alloc (Nat.le_refl _) _⟩
theorem prefix_Split.calls (a0_0 a0_1 : Int) (r1 : List S24) (r2 : Int) (w : World) (HLd : Laid w) (h : prefix_Split.f a0_0 a0_1 = some (r1, r2)) :
    Calls Tryd.prog 36 #[.agg #[.int .u32 a0_0, .int .u32 a0_1]] w fun e w' =>
      ∃ v0_ : Value, e = .returned (.tuple #[v0_, .int .i64 r2]) ∧ Kd.R k24 24 w' w.heap.size (fun _ => True) v0_ r1 ∧ Below w.heap.size w w' := by
  unfold prefix_Split.f at h
  split at h
  case isFalse => cases h
  rename_i hb
  obtain ⟨h0, h1, h2, h3⟩ := hb
  split at h
  · rename_i hlt
    obtain ⟨rfl, rfl⟩ := Prod.mk.inj (Option.some.inj h)
    exact (prefix_Split_bad a0_0 a0_1 hlt w).mono fun e w' ⟨he, hb⟩ => ⟨_, he, Kd.R_nil _ _ _ _ _, hb⟩
  · rename_i hle
    obtain ⟨rfl, rfl⟩ := Prod.mk.inj (Option.some.inj h)
    obtain ⟨a, rfl⟩ := Int.eq_ofNat_of_zero_le h0
    obtain ⟨b, rfl⟩ := Int.eq_ofNat_of_zero_le h2
    exact (callsIn_wide (n := 4)).1 (prefix_Split_in 4 (Nat.le_refl _) a b (by omega) (by omega) w HLd)
end Go.Proofs.YtfjamikpahmfhaaDoor.P
