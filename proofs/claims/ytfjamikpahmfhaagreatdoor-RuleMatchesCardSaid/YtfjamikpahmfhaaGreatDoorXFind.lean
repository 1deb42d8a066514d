/- rule.Find over rules in the order of their IDs: slices.BinarySearchFunc. -/
import Derived.Test.YtfjamikpahmfhaaGreatDoorXRuleMin
import Derived.Test.YtfjamikpahmfhaaGreatDoorPRuleFind1
import Derived.Sort.WalkB12
namespace Go.Proofs.YtfjamikpahmfhaaGreatDoor.P
open Go.RowKit Go.Proofs.YtfjamikpahmfhaaGreatDoorW.PrintWords Go.Proofs.YtfjamikpahmfhaaGreatDoorW.PrintLast Go.Proofs.YtfjamikpahmfhaaGreatDoorW.PrintMore
set_option linter.unusedVariables false
set_option linter.unusedSimpArgs false

def cmpI (a b : Int) : Int := if a < b then -1 else if b < a then 1 else 0
theorem find1_f (x : Rl) (t : Int) : rule_Find_1.f x.f0 x.f1 x.f2 x.f3 x.f4.f0 x.f4.f1 x.f5 t = some (cmpI x.f0 t) := by
  unfold rule_Find_1.f
  rw [compare_f]
  rfl
theorem find1_calls (x : Rl) (t : Int) (w : World) : Calls Tryz.prog 65 #[rv x, .int .i64 t] w fun e w' => e = .returned (.int .i64 (cmpI x.f0 t)) ∧ Below w.heap.size w w' :=
  rule_Find_1.calls _ _ _ _ _ _ _ _ _ w (find1_f x t)
theorem cmpI_neg (a b : Int) : cmpI a b < 0 ↔ a < b := by
  unfold cmpI
  split
  · simp [*]
  · split
    · constructor <;> intro h <;> omega
    · constructor <;> intro h <;> omega
theorem cmpI_zero (a b : Int) : cmpI a b = 0 ↔ a = b := by
  unfold cmpI
  split
  · constructor <;> intro h <;> omega
  · split
    · constructor <;> intro h <;> omega
    · constructor <;> intro h <;> omega
/-- Rules in the order of their IDs. -/
def Sorted (l : List Rl) : Prop := ∀ a b, a < b → b < l.length → (rd_T27 l (a : Int)).f0 < (rd_T27 l (b : Int)).f0
/-- What slices.BinarySearchFunc answers of an ID. -/
def BsIs (l : List Rl) (t : Int) (i : Nat) (is : Bool) : Prop := i ≤ l.length ∧ (∀ a, a < i → (rd_T27 l (a : Int)).f0 < t) ∧ (∀ a, i ≤ a → a < l.length → t ≤ (rd_T27 l (a : Int)).f0) ∧ is = decide (i < l.length ∧ (rd_T27 l (i : Int)).f0 = t)
set_option maxHeartbeats 2000000 in
set_option maxRecDepth 100000 in
theorem search_calls (W : World) (A : Option Addr) (c : Nat) (l : List Rl) (t : Int) (hC : Kd.C k27 W A l.length l) (hc : l.length ≤ c) (hbig : l.length < 4611686018427387904) (hs : Sorted l) :
    Calls Tryz.prog 64 #[.slice A l.length c, .int .i64 t, .func (.func 65) #[] #[]] W fun e w' => ∃ (i : Nat) (is : Bool), e = .returned (.tuple #[.int .i64 i, .bool is]) ∧ BsIs l t i is ∧ Below W.heap.size W w' := by
  have hu45 := Tryz.underlying27
  have HC := Aside0.mk hC
  have HS := Aside0.mk hs
  clear hC hs
  have HB := Aside0.mk (Below.refl W.heap.size W)
  go_enter Tryz.func64, Tryz.ntmps64
  go_wp2
  go_loopg [9, 10] l.length (fun kx s9 s10 wr => ∃ lo hi : Nat, s9 = .int .i64 lo ∧ s10 = .int .i64 hi ∧ lo ≤ hi ∧ hi ≤ l.length ∧ hi - lo ≤ kx ∧ Aside0 (Below W.heap.size W wr) ∧
    Aside0 ((∀ a, a < lo → (rd_T27 l (a : Int)).f0 < t) ∧ (∀ a, hi ≤ a → a < l.length → t ≤ (rd_T27 l (a : Int)).f0)))
  case atStart => exact ⟨0, l.length, rfl, rfl, Nat.zero_le _, Nat.le_refl _, by omega, HB, ⟨fun a ha => absurd ha (Nat.not_lt_zero _), fun a h1 h2 => by omega⟩⟩
  case round =>
    clear HB
    obtain ⟨lo, hi, rfl, rfl, hlh, hin, hg, HB, I⟩ := hrel
    have hsum : (lo : Int) + (hi : Int) < 9223372036854775808 := by omega
    by_cases hlt : lo < hi
    · obtain ⟨m, hm⟩ : ∃ m : Nat, m = (lo + hi) / 2 := ⟨_, rfl⟩
      have HMI := Aside0.mk (show ((lo : Int) + (hi : Int)) / 2 = (m : Int) by omega)
      have hml : (m : Int) < (l.length : Int) := by omega
      have hge : (0 : Int) ≤ (m : Int) := by omega
      have HM1 := Aside0.mk (show lo ≤ m ∧ m < hi by omega)
      clear hm
      have hmd : decide ((m : Int) < (l.length : Int)) = true := decide_eq_true hml
      have hged : decide ((0 : Int) ≤ (m : Int)) = true := decide_eq_true hge
      obtain ⟨x, hx⟩ : ∃ x, x = rd_T27 l (m : Int) := ⟨_, rfl⟩
      have HX := Aside0.mk hx
      clear hx
      go_upto_region 5 with fail
      rw [HMI.out]
      obtain ⟨ad, e0, h0, h1, h2, h3, h4, h5, h6⟩ := at_T27 (Kd.C_below HC.out HB.out) (m : Int) hge hml
      cases e0
      rw [← HX.out] at h0 h1 h2 h3 h4 h5 h6
      simp only [Int.toNat_natCast] at h0 h1 h2 h3 h4 h5 h6
      go_wp2_with fail
      refine (find1_calls x t _).mono ?_
      rintro e w' ⟨rfl, hb⟩
      have n1_ := Aside0.mk (below_step HB.out hb)
      clear HB hb h0 h1 h2 h3 h4 h5 h6
      have HB := n1_
      clear n1_
      dsimp only
      obtain ⟨cv, hcv⟩ : ∃ cv, cv = cmpI x.f0 t := ⟨_, rfl⟩
      rw [← hcv]
      have HV := Aside0.mk hcv
      clear hcv
      by_cases hyx : cv < 0
      · have hyd : decide (cv < 0) = true := decide_eq_true hyx
        go_wp2
        go_roundg (hi - (m + 1))
        case measure => have := HM1.out; omega
        case rel =>
          refine ⟨m + 1, hi, by go_num, rfl, by have := HM1.out; omega, hin, Nat.le_refl _, HB, ⟨fun a ha => ?_, I.out.2⟩⟩
          have hxt : x.f0 < t := (cmpI_neg _ _).1 (HV.out ▸ hyx)
          rcases Nat.lt_or_ge a m with h | h
          · have := HS.out a m h (by omega)
            rw [← HX.out] at this
            omega
          · obtain rfl : a = m := by omega
            rw [← HX.out]
            exact hxt
      · have hyd : decide (cv < 0) = false := decide_eq_false hyx
        go_wp2
        go_roundg (m - lo)
        case measure => have := HM1.out; omega
        case rel =>
          refine ⟨lo, m, rfl, by go_num, by have := HM1.out; omega, by have := HM1.out; omega, Nat.le_refl _, HB, ⟨I.out.1, fun a ha han => ?_⟩⟩
          have hxt : t ≤ x.f0 := Int.not_lt.1 fun h => by have h9 := (cmpI_neg _ _).2 h; rw [← HV.out] at h9; omega
          rcases Nat.lt_or_ge m a with h | h
          · have := HS.out m a h han
            rw [← HX.out] at this
            omega
          · obtain rfl : a = m := by omega
            rw [← HX.out]
            exact hxt
    · obtain rfl : hi = lo := by omega
      have hnl : ¬ (hi : Int) < (hi : Int) := by omega
      have hnd : decide ((hi : Int) < (hi : Int)) = false := decide_eq_false hnl
      by_cases hn : hi < l.length
      · have hml : (hi : Int) < (l.length : Int) := by omega
        have hge : (0 : Int) ≤ (hi : Int) := by omega
        have hmd : decide ((hi : Int) < (l.length : Int)) = true := decide_eq_true hml
        have hged : decide ((0 : Int) ≤ (hi : Int)) = true := decide_eq_true hge
        obtain ⟨x, hx⟩ : ∃ x, x = rd_T27 l (hi : Int) := ⟨_, rfl⟩
        have HX := Aside0.mk hx
        clear hx
        obtain ⟨ad, e0, h0, h1, h2, h3, h4, h5, h6⟩ := at_T27 (Kd.C_below HC.out HB.out) (hi : Int) hge hml
        cases e0
        rw [← HX.out] at h0 h1 h2 h3 h4 h5 h6
        simp only [Int.toNat_natCast] at h0 h1 h2 h3 h4 h5 h6
        go_wp2_with fail
        refine (find1_calls x t _).mono ?_
        rintro e w' ⟨rfl, hb⟩
        have n1_ := Aside0.mk (below_step HB.out hb)
        clear HB hb h0 h1 h2 h3 h4 h5 h6
        have HB := n1_
        clear n1_
        dsimp only
        go_wp2
        go_ret2
        refine ⟨hi, cmpI x.f0 t == 0, rfl, ⟨hin, I.out.1, I.out.2, ?_⟩, HB.out⟩
        rw [← HX.out]
        have e1 : (cmpI x.f0 t == 0) = decide (cmpI x.f0 t = 0) := rfl
        rw [e1]
        simp [hn, cmpI_zero]
      · have hml : ¬ (hi : Int) < (l.length : Int) := by omega
        have hmd : decide ((hi : Int) < (l.length : Int)) = false := decide_eq_false hml
        go_wp2
        go_ret2
        refine ⟨hi, Or.inl ⟨rfl, ⟨hin, I.out.1, I.out.2, ?_⟩, HB.out⟩⟩
        simp [hn]

/-- Rules in the order of their IDs, as a list. -/
def Asc (l : List Rl) : Prop := l.Pairwise (fun a b => a.f0 < b.f0)
instance (l : List Rl) : Decidable (Asc l) := by unfold Asc; infer_instance
def findR (l : List Rl) (id : Int) : Option Rl := l.find? (fun r => decide (r.f0 = id))
theorem rdR (l : List Rl) (i : Nat) (h : i < l.length) : rd_T27 l (i : Int) = l[i] := by
  unfold rd_T27
  rw [Int.toNat_natCast, List.getD_eq_getElem?_getD, List.getElem?_eq_getElem h]
  rfl
theorem asc_sorted {l : List Rl} (h : Asc l) : Sorted l := by
  intro a b hab hb
  rw [rdR l a (by omega), rdR l b hb]
  exact List.pairwise_iff_getElem.1 h a b (by omega) hb hab
theorem find_at {l : List Rl} {id : Int} {i : Nat} (hi : i < l.length) (h1 : ∀ a, a < i → (rd_T27 l (a : Int)).f0 < id) (h2 : (rd_T27 l (i : Int)).f0 = id) : findR l id = some l[i] := by
  unfold findR
  rw [List.find?_eq_some_iff_getElem]
  rw [rdR l i hi] at h2
  refine ⟨by simpa using h2, i, hi, rfl, fun j hj => ?_⟩
  have := h1 j hj
  rw [rdR l j (by omega)] at this
  simp
  omega
theorem find_none {l : List Rl} {id : Int} {i : Nat} (hs : Sorted l) (h1 : ∀ a, a < i → (rd_T27 l (a : Int)).f0 < id) (h2 : ∀ a, i ≤ a → a < l.length → id ≤ (rd_T27 l (a : Int)).f0) (h3 : ¬ (i < l.length ∧ (rd_T27 l (i : Int)).f0 = id)) : findR l id = none := by
  unfold findR
  rw [List.find?_eq_none]
  intro x hx
  obtain ⟨j, hj, rfl⟩ := List.getElem_of_mem hx
  simp only [decide_eq_true_eq]
  intro he
  rw [← rdR l j hj] at he
  rcases Nat.lt_or_ge j i with h | h
  · have := h1 j h
    omega
  · rcases Nat.lt_or_ge i j with h4 | h4
    · have := hs i j h4 hj
      have := h2 i (Nat.le_refl _) (by omega)
      omega
    · obtain rfl : i = j := by omega
      exact h3 ⟨hj, he⟩
theorem bs_true {l : List Rl} {id : Int} {i : Nat} (h : BsIs l id i true) : ∃ hi : i < l.length, findR l id = some l[i] := by
  obtain ⟨_, h1, _, h3⟩ := h
  have h4 := of_decide_eq_true h3.symm
  exact ⟨h4.1, find_at h4.1 h1 h4.2⟩
theorem bs_false {l : List Rl} {id : Int} {i : Nat} (hs : Sorted l) (h : BsIs l id i false) : findR l id = none := by
  obtain ⟨_, h1, h2, h3⟩ := h
  exact find_none hs h1 h2 (of_decide_eq_false h3.symm)

def rule_Find.f (l : List Rl) (id : Int) : Option (Int × Int × Int × Int × Int × Int × Int × Bool) :=
  if l.length < 4611686018427387904 ∧ Asc l then
    let x := (findR l id).getD z27
    some (x.f0, x.f1, x.f2, x.f3, x.f4.f0, x.f4.f1, x.f5, (findR l id).isSome)
  else none
set_option maxHeartbeats 2000000 in
set_option maxRecDepth 100000 in
theorem rule_Find.calls (A0 : Option Addr) (c0 : Nat) (l0 : List Rl) (a1 r1 r2 r3 r4 r5 r6 r7 : Int) (r8 : Bool) (w : World) (hr0 : Kd.C k27 w A0 l0.length l0) (hc0 : l0.length ≤ c0) (h : rule_Find.f l0 a1 = some (r1, r2, r3, r4, r5, r6, r7, r8)) :
    Calls Tryz.prog 17 #[.slice A0 l0.length c0, .int .i64 a1] w fun e w' => e = .returned (.tuple #[.agg #[.int .i64 r1, .int .i64 r2, .int .i64 r3, .int .i64 r4, .int .u32 r5, .int .u32 r6, .int .i64 r7], .bool r8]) ∧ Below w.heap.size w w' := by
  unfold rule_Find.f at h
  split at h
  case isFalse => cases h
  rename_i hsz
  have hh := Option.some.inj h
  clear h
  simp only [Prod.mk.injEq] at hh
  obtain ⟨e1, e2, e3, e4, e5, e6, e7, e8⟩ := hh
  have HV : Aside0 (rv ((findR l0 a1).getD z27) = .agg #[.int .i64 r1, .int .i64 r2, .int .i64 r3, .int .i64 r4, .int .u32 r5, .int .u32 r6, .int .i64 r7]) := ⟨by rw [← e1, ← e2, ← e3, ← e4, ← e5, ← e6, ← e7]; rfl⟩
  have HE := Aside0.mk e8
  clear e1 e2 e3 e4 e5 e6 e7 e8
  have hu45 := Tryz.underlying27
  have HS := Aside0.mk (asc_sorted hsz.2)
  have HZ := Aside0.mk hsz.1
  clear hsz
  have HC := Aside0.mk hr0
  clear hr0
  have HB := Aside0.mk (Below.refl w.heap.size w)
  go_enter Tryz.func17, Tryz.ntmps17
  go_wp2_with ((with_reducible refine gate_dst (N := 4) rfl ?_); refine box_event ?hg (N := 4) ?hd (cs := #[.int .i64 0, .int .i64 0, .int .i64 0, .int .i64 0, .int .u32 0, .int .u32 0, .int .i64 0]) (t := 27) ?hr ?_; (case hd => rfl); (case hg => rfl); (case hr => first | (go_simp; done) | (go_simp; rfl)); intro g4 hg w6 hbox hb; have BM4 := Aside0.mk hbox; have GE4 := Aside0.mk (show w.heap.size ≤ g4 by rw [hg]; exact below_size HB.out); have n1_ := Aside0.mk (below_step HB.out hb); have n2_ := Aside0.mk (Kd.C_below HC.out hb); clear HB HC; have HB := n1_; have HC := n2_; clear n1_ n2_ hb hbox hg)
  refine (search_calls _ A0 c0 l0 a1 HC.out hc0 HZ.out HS.out).mono ?_
  rintro e w7 ⟨i, is, rfl, hbs, hb7⟩
  have BM5 := Aside0.mk (blk_below BM4.out hb7)
  have n1_ := Aside0.mk (below_step HB.out hb7)
  have n2_ := Aside0.mk (Kd.C_below HC.out hb7)
  have BS := Aside0.mk hbs
  clear HB HC BM4 hb7 hbs
  have HB := n1_
  have HC := n2_
  clear n1_ n2_
  dsimp only
  cases is with
  | false =>
    go_wp2_with ((with_reducible refine gate_ (.store 27 (.tmp 4) (.tmp 16)) rfl ?_); refine store_block rfl rfl 27 (.tmp 4) (.tmp 16) rfl (rv z27) (rcells z27) rfl rfl rfl (by kernel_rfl) (rcells_one _) BM5.out rfl ?_; intro w11 hm hgr)
    refine bodyPost_ret (results_ct rfl _ _ g4 27 (rcells z27).toArray (0, 0) _ rfl hm Tryz.underlying27 rfl (by kernel_rfl)) rfl ?_
    refine ⟨?_, pw_below_grown HB.out (some g4) HB.out.size hgr (fun k hk => by injection hk with hk; subst hk; exact GE4.out)⟩
    have hn := bs_false HS.out BS.out
    rw [← HE.out, ← HV.out, hn]
    rfl
  | true =>
    obtain ⟨hi, hf⟩ := bs_true BS.out
    have HF := Aside0.mk hf
    clear hf
    have hml : (i : Int) < (l0.length : Int) := by omega
    have hge : (0 : Int) ≤ (i : Int) := by omega
    have hmd : decide ((i : Int) < (l0.length : Int)) = true := decide_eq_true hml
    have hged : decide ((0 : Int) ≤ (i : Int)) = true := decide_eq_true hge
    obtain ⟨ad, e0, h0, h1, h2, h3, h4, h5, h6⟩ := at_T27 HC.out (i : Int) hge hml
    cases e0
    obtain ⟨x, hx⟩ : ∃ x, x = l0[i] := ⟨_, rfl⟩
    rw [rdR l0 i hi, ← hx] at h0 h1 h2 h3 h4 h5 h6
    have HX := Aside0.mk hx
    clear hx
    simp only [Int.toNat_natCast] at h0 h1 h2 h3 h4 h5 h6
    go_wp2_with ((with_reducible refine gate_ (.store 27 (.tmp 4) (.tmp 20)) rfl ?_); refine store_block rfl rfl 27 (.tmp 4) (.tmp 20) rfl (rv x) (rcells x) rfl rfl rfl (by kernel_rfl) (rcells_one _) BM5.out rfl ?_; intro w11 hm hgr)
    refine bodyPost_ret (results_ct rfl _ _ g4 27 (rcells x).toArray (0, 0) _ rfl hm Tryz.underlying27 rfl (by kernel_rfl)) rfl ?_
    refine ⟨?_, pw_below_grown HB.out (some g4) HB.out.size hgr (fun k hk => by injection hk with hk; subst hk; exact GE4.out)⟩
    rw [← HE.out, ← HV.out, HF.out, HX.out]
    rfl
end Go.Proofs.YtfjamikpahmfhaaGreatDoor.P
