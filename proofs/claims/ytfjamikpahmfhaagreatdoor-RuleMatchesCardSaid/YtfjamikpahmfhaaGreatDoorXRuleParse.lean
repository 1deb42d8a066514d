/- rule.Parse: what it answers, in the print's form. -/
import Derived.Test.YtfjamikpahmfhaaGreatDoorXRuleText
import Derived.Test.YtfjamikpahmfhaaGreatDoorXRuleMin
import Derived.Test.YtfjamikpahmfhaaGreatDoorPRuleRight
import Derived.Test.YtfjamikpahmfhaaGreatDoorPPrefixParseRange
import Derived.Test.YtfjamikpahmfhaaGreatDoorPSlicesIndexStringString
namespace Go.Proofs.YtfjamikpahmfhaaGreatDoor.P
open Go.RowKit Go.Proofs.YtfjamikpahmfhaaGreatDoorW.PrintWords Go.Proofs.YtfjamikpahmfhaaGreatDoorW.PrintLast Go.Proofs.YtfjamikpahmfhaaGreatDoorW.PrintMore
set_option linter.unusedVariables false
set_option linter.unusedSimpArgs false

theorem C_at {w : World} {ad : Addr} {n : Nat} {ws : List ByteArray} (h : Kd.C Kd.string w (some ad) n ws) (j : Nat) (x : ByteArray) (hj : ws[j]? = some x) : w.cell? (ad.add j) = some (.string x) := by
  have hl : j < ws.length := (List.getElem?_eq_some_iff.1 hj).1
  obtain ⟨ad', e, hcell⟩ := h.2.2 (by have := h.1; omega)
  cases e
  obtain ⟨cs, hl2, hk, hcs⟩ := hcell j x hj
  have : cs = [.string x] := hk
  subst this
  have h3 := hcs 0 (.string x) rfl
  have e1 : Kd.string.sz = 1 := rfl
  rw [e1, Nat.mul_one, Nat.add_zero] at h3
  exact h3
theorem C_block {w : World} {g : Nat} {ws : List ByteArray} {t : TypeId} (h : w.heap[g]? = some (.cells (ws.map Value.string).toArray t (0, 0))) (hl : ws.length ≤ 9223372036854775807 := by decide) : Kd.C Kd.string w (some ⟨g, 0, none⟩) ws.length ws := by
  refine ⟨rfl, hl, fun _ => ⟨_, rfl, fun j x hj => ⟨[.string x], rfl, rfl, fun i u hi => ?_⟩⟩⟩
  match i, hi with
  | 0, hi =>
    cases hi
    have e1 : Kd.string.sz = 1 := rfl
    rw [e1, Nat.mul_one, Nat.add_zero, addr_add0, blk_cell h j]
    simp [hj]

theorem C_spot {w : World} {ad : Addr} {n : Nat} {x : ByteArray} {ws : List ByteArray} (h : Kd.C Kd.string w (some ad) n ws) (hj : ws[0]? = some x) : ad = ⟨ad.block, ad.off, none⟩ := by
  have h3 := C_at h 0 x hj
  obtain ⟨bk, o, spot⟩ := ad
  have e2 : (⟨bk, o, spot⟩ : Addr).add 0 = ⟨bk, o, spot⟩ := rfl
  rw [e2] at h3
  cases spot with
  | none => rfl
  | some s =>
    simp only [World.cell?] at h3
    split at h3
    · simp at h3
    · cases h3
theorem C_atN {w : World} {bk o : Nat} {n : Nat} {ws : List ByteArray} (h : Kd.C Kd.string w (some ⟨bk, o, none⟩) n ws) (j : Nat) (x : ByteArray) (hj : ws[j]? = some x) : w.cell? ⟨bk, o + j, none⟩ = some (.string x) := by
  have h3 := C_at h j x hj
  rw [show (⟨bk, o, none⟩ : Addr).add j = ⟨bk, o + j, none⟩ by unfold Addr.add; split <;> simp_all] at h3
  exact h3
theorem C_at0 {w : World} {ad : Addr} {n : Nat} {x : ByteArray} {ws : List ByteArray} (h : Kd.C Kd.string w (some ad) n ws) (hj : ws[0]? = some x) : w.cell? ad = some (.string x) := C_at h 0 x hj
theorem C_grownS {W w1 : World} {ad : Addr} {n g : Nat} {l : List ByteArray} (h : Kd.C Kd.string W (some ad) n l) (hg : W.grownBy w1 (some g)) (hne : ad.block ≠ g) : Kd.C Kd.string w1 (some ad) n l := by
  refine ⟨h.1, h.2.1, fun h0 => ?_⟩
  obtain ⟨ad', e, hc⟩ := h.2.2 h0
  cases e
  refine ⟨ad, rfl, fun j p hj => ?_⟩
  obtain ⟨c, hl, hk, hcs⟩ := hc j p hj
  refine ⟨c, hl, hk, fun i u hi => ?_⟩
  have h1 := hcs i u hi
  have hlt := World.block_lt_of_cell? W _ h1
  rw [addr_add_block] at hlt
  have hb := hg.block ad.block hlt (fun he => hne (by injection he))
  rw [← h1]
  unfold World.cell?
  rw [addr_add_block, hb]
theorem index4_calls (g : Nat) (x : ByteArray) (kx : Int) (w : World) (h : w.heap[g]? = some (.cells #[.string wForward, .string wDrop, .string wPermit, .string wDeny] 93 (0, 0))) (hk : slices_Index_string_string.f 5 [wForward, wDrop, wPermit, wDeny] x = some kx) :
    Calls Tryz.prog 57 #[.slice (some ⟨g, 0, none⟩) 4 4, .string x] w fun e w' => e = .returned (.int .i64 kx) ∧ Drawn0 w w' :=
  slices_Index_string_string.calls 5 _ 4 [wForward, wDrop, wPermit, wDeny] x kx w (C_block (ws := [wForward, wDrop, wPermit, wDeny]) h) (by decide) hk
def pErr : Int × Int × Int × Int × Int × Int × Int × Int := (0, 0, 0, 0, 0, 0, 0, 71)
/-- What stands behind the words. -/
def parseEnd (s : ByteArray) (n0 n1 n2 kx : Int) (x : Int × Int × Int) (n5 : Int) : Option (Int × Int × Int × Int × Int × Int × Int × Int) :=
  if x.2.2 = 0 then
    (rule_Right.f n0 n1 n2 kx x.1 x.2.1 n5).bind fun ok =>
      if ok = true then (rule_Text.f n0 n1 n2 kx x.1 x.2.1 n5).bind fun t => if (t.toList == s.toList) = true then some (n0, n1, n2, kx, x.1, x.2.1, n5, 0) else some pErr
      else some pErr
  else some pErr
def rule_Parse.f (s : ByteArray) : Option (Int × Int × Int × Int × Int × Int × Int × Int) :=
  (strings_Split.f s ⟨#[32]⟩).bind fun ws => match ws with
    | [w0, w1, w2, w3, w4] => (slices_Index_string_string.f 5 [wForward, wDrop, wPermit, wDeny] w3).bind fun kx => (prefix_ParseRange.f 7 w4).bind fun x => (rule_number.f w0).bind fun n0 => (rule_number.f w1).bind fun n1 => (rule_number.f w2).bind fun n2 => parseEnd s n0 n1 n2 kx x 0
    | [w0, w1, w2, w3, w4, w5] => (slices_Index_string_string.f 5 [wForward, wDrop, wPermit, wDeny] w3).bind fun kx => (prefix_ParseRange.f 7 w4).bind fun x => (rule_number.f w0).bind fun n0 => (rule_number.f w1).bind fun n1 => (rule_number.f w2).bind fun n2 => (rule_number.f w5).bind fun n5 => parseEnd s n0 n1 n2 kx x n5
    | ws => if ws.length = 5 ∨ ws.length = 6 then none else some pErr

def rule_Parse.T5 : Bool × List (List Nat × List Nat) := (true, [([], []), ([], []), ([1], [1]), ([2], [2]), ([0, 3], [0, 3]), ([4, 4, 0, 1, 2, 3, 4], [4])])
def rule_Parse.B5 : List Nat := [0, 0, 2, 6, 15, 31]
theorem rule_Parse.tab5 : rtab .any (opsOf Tryz.f14 5) = rule_Parse.T5 := by kernel_rfl
theorem rule_Parse.bits5 : waitsOk rule_Parse.T5.2 rule_Parse.B5 = true := by kernel_rfl
def rule_Parse.T7 : Bool × List (List Nat × List Nat) := (true, [([], []), ([0], [0]), ([1], [1]), ([2], [2]), ([], []), ([4], [4]), ([5], [5]), ([6, 3], [6]), ([], []), ([8], [8]), ([9], [9]), ([10, 7], [10]), ([], []), ([], []), ([3, 7, 11, 12, 13], [3, 7, 11, 12, 13]), ([], []), ([15, 14, 11, 0, 1, 2, 3, 4, 5, 6, 7, 8, 9, 10, 11, 12, 13, 14, 15], [14, 15])])
def rule_Parse.B7 : List Nat := [0, 1, 3, 7, 0, 16, 48, 127, 0, 256, 768, 2047, 0, 0, 16383, 0, 65535]
theorem rule_Parse.tab7 : rtab .any (opsOf Tryz.f14 7) = rule_Parse.T7 := by kernel_rfl
theorem rule_Parse.bits7 : waitsOk rule_Parse.T7.2 rule_Parse.B7 = true := by kernel_rfl
section
variable {P : Program} {ops : Array Oper} {Q : Exit → Act → World → Prop}
/-- A store of a whole block, last in a region that draws. -/
theorem storeK_ {oi : Oper} {a : Act} {W : World} {K : Act → World → Prop} (hw : Region.wanted oi (yielded ops a.tmps) = true) (hN : oi.dst = none) (t : TypeId) (p x : Operand) (ho : oi.op = .store t p x) {g : Nat} {te : TypeId} {cur : Array Value} (u : Value) (seg : List Value) (haddr : a.eval p = .pointer (some ⟨g, 0, none⟩)) (hx : a.eval x = u) (hu : u.cells.toList = seg)
    (ht : (P.info? t).map (·.size) = some seg.length) (h1 : ∀ q ∈ seg, q.oneCell' = true) (hh : W.heap[g]? = some (.cells cur te (0, 0))) (hsz : cur.size = seg.length)
    (h : ∀ w1, w1.heap[g]? = some (.cells seg.toArray te (0, 0)) → W.grownBy w1 (some g) → K a w1) : if Region.wanted oi (yielded ops a.tmps) = true then Oper.wp P oi a W K Q else K (a.put none undef) W := by
  obtain ⟨cur', h3, h4, h5⟩ := setCells_row seg 0 W cur hh (by omega)
  obtain ⟨s1, s2, s3, s4⟩ := setCells_same g seg 0 W
  have hg : W.grownBy (W.setCells g 0 seg) (some g) := ⟨s1, s2, s3, by rw [s4]; exact Nat.le_refl _, fun k _ hk => setCells_far seg 0 k (fun he => hk (by rw [he]))⟩
  have hc : cur' = seg.toArray := by
    apply Array.ext'
    rw [h5]
    simp [List.drop_eq_nil_of_le, hsz]
  subst hc
  have hrun : (Instr.storeAt t (.pointer (some ⟨g, 0, none⟩)) u).run P W = .ok () (W.setCells g 0 seg) := run_store_run t u seg hh hu ht (by omega) h1
  rw [if_pos hw]
  unfold Oper.wp execOp
  simp only [ho, haddr, hx, Sem.run_bind, Sem.run_pure, Result.andThen_ok, hrun]
  show K (a.put oi.dst undef) _
  rw [hN]
  exact h _ h3 hg
end
theorem kindWords_one : ∀ q ∈ ([.string wForward, .string wDrop, .string wPermit, .string wDeny] : List Value), q.oneCell' = true := by
  intro q hq
  simp only [List.mem_cons, List.not_mem_nil, or_false] at hq
  rcases hq with rfl | rfl | rfl | rfl <;> rfl
theorem range_one (x0 x1 : Int) : ∀ q ∈ ([.int .u32 x0, .int .u32 x1] : List Value), q.oneCell' = true := by
  intro q hq
  simp only [List.mem_cons, List.not_mem_nil, or_false] at hq
  rcases hq with rfl | rfl <;> rfl
theorem ne_of_blk {W : World} {g g' : Nat} {o : Obj} (h : W.heap[g]? = some o) (hg : g' = W.heap.size) : some g ≠ some g' := by
  have := blk_lt h
  intro he
  injection he with he
  omega
theorem int_one (n : Int) : ∀ q ∈ ([.int .i64 n] : List Value), q.oneCell' = true := by
  intro q hq
  simp only [List.mem_cons, List.not_mem_nil, or_false] at hq
  subst hq; rfl
theorem rcells_set (x : Rl) (n : Int) : ∀ cur' : Array Value, cur'.toList = (rcells x).toArray.toList.take 6 ++ [.int .i64 n] ++ (rcells x).toArray.toList.drop (6 + ([.int .i64 n] : List Value).length) → cur' = (rcells ⟨x.f0, x.f1, x.f2, x.f3, x.f4, n⟩).toArray := by
  intro cur' h
  apply Array.ext'
  rw [h]
  rfl
section
variable {P : Program} {ops : Array Oper} {rest : List Oper} {o : Oper} {a : Act} {Q : Exit → Act → World → Prop}
/-- A store of a part of a block. -/
theorem store_part {W : World} (hN : o.dst = none) (hgd : o.guard = none) (t : TypeId) (p x : Operand) (ho : o.op = .store t p x) {g : Nat} (off : Nat) {te : TypeId} {cur : Array Value} (u : Value) (seg : List Value) (haddr : a.eval p = .pointer (some ⟨g, off, none⟩)) (hx : a.eval x = u) (hu : u.cells.toList = seg)
    (ht : (P.info? t).map (·.size) = some seg.length) (h1 : ∀ q ∈ seg, q.oneCell' = true) (hh : W.heap[g]? = some (.cells cur te (0, 0))) (hsz : off + seg.length ≤ cur.size)
    (h : ∀ w1 cur', w1.heap[g]? = some (.cells cur' te (0, 0)) → cur'.toList = cur.toList.take off ++ seg ++ cur.toList.drop (off + seg.length) → W.grownBy w1 (some g) → wpList P ops Q rest a w1) : wpList P ops Q (o :: rest) a W := by
  obtain ⟨cur', h3, h4, h5⟩ := setCells_row seg off W cur hh hsz
  obtain ⟨s1, s2, s3, s4⟩ := setCells_same g seg off W
  have hg : W.grownBy (W.setCells g off seg) (some g) := ⟨s1, s2, s3, by rw [s4]; exact Nat.le_refl _, fun k _ hk => setCells_far seg off k (fun he => hk (by rw [he]))⟩
  refine wpList_plain hgd fun K hK => ?_
  have hrun : (Instr.storeAt t (.pointer (some ⟨g, off, none⟩)) u).run P W = .ok () (W.setCells g off seg) := run_store_run t u seg hh hu ht hsz h1
  unfold Oper.wp execOp
  simp only [ho, haddr, hx, Sem.run_bind, Sem.run_pure, Result.andThen_ok, hrun]
  show K (a.put o.dst undef) _
  rw [hN]
  exact hK a _ (h _ cur' h3 h5 hg)
end
set_option maxHeartbeats 8000000 in
set_option maxRecDepth 100000 in
theorem parse5_calls (s : ByteArray) (r1 r2 r3 r4 r5 r6 r7 r8 : Int) (w : World) (HLd : Laid w) (w0 w1 w2 w3 w4 : ByteArray) (kx : Int) (x0 x1 xe n0 n1 n2 : Int) (hS : strings_Split.f s ⟨#[32]⟩ = some [w0, w1, w2, w3, w4])
    (hk : slices_Index_string_string.f 5 [wForward, wDrop, wPermit, wDeny] w3 = some kx) (hx : prefix_ParseRange.f 7 w4 = some (x0, x1, xe)) (hn0 : rule_number.f w0 = some n0) (hn1 : rule_number.f w1 = some n1) (hn2 : rule_number.f w2 = some n2) (h : parseEnd s n0 n1 n2 kx (x0, x1, xe) 0 = some (r1, r2, r3, r4, r5, r6, r7, r8)) :
    Calls Tryz.prog 14 #[.string s] w fun e w' => e = .returned (.tuple #[.agg #[.int .i64 r1, .int .i64 r2, .int .i64 r3, .int .i64 r4, .int .u32 r5, .int .u32 r6, .int .i64 r7], .int .i64 r8]) ∧ Below w.heap.size w w' := by
  have hKX := Aside0.mk hk
  have hS := Aside0.mk hS
  have hX := Aside0.mk hx
  have hN0 := Aside0.mk hn0
  have hN1 := Aside0.mk hn1
  have hN2 := Aside0.mk hn2
  have HE := Aside0.mk h
  clear hk hx hn0 hn1 hn2 h
  have hu45 := Tryz.underlying27
  have hu26 := Tryz.underlying25
  have hu58 := Tryz.underlying88
  have hu74 := Tryz.underlying93
  have HB := Aside0.mk (Below.refl w.heap.size w)
  go_enter Tryz.func14, Tryz.ntmps14
  go_upto_region 5 with (first | ((with_reducible refine gate_dst (N := 2) rfl ?_); refine box_event ?hg (N := 2) ?hd (cs := #[.int .i64 0, .int .i64 0, .int .i64 0, .int .i64 0, .int .u32 0, .int .u32 0, .int .i64 0]) (t := 27) ?hr ?_; (case hd => rfl); (case hg => rfl); (case hr => first | (go_simp; done) | (go_simp; rfl)); intro g2 hg w6 hbox hb; have BM2 := Aside0.mk hbox; have GE2 := Aside0.mk (show w.heap.size ≤ g2 by rw [hg]; exact below_size HB.out); have n1_ := Aside0.mk (below_step HB.out hb); clear HB; have HB := n1_; clear n1_ hb hbox hg) | (go_at_call 56; refine (strings_Split.calls _ _ _ _ (HLd.below HB.out) hS.out).mono ?_; rintro e w7 ⟨v8, rfl, hR, hb⟩; have n0_ := Aside0.mk (blk_below BM2.out hb); have n1_ := Aside0.mk (below_step HB.out hb); obtain ⟨A8, c8, hv8, hc8, hC8⟩ := Kd.R_reads hR; subst hv8; obtain ⟨ad, hA8, _⟩ := hC8.2.2 (show 0 < 5 by decide); subst hA8; have hsp := C_spot hC8 rfl; generalize ad.block = bk at hsp; generalize ad.off = oo at hsp; subst hsp; have HC := Aside0.mk hC8; clear BM2 HB hb hR hC8; have BM2 := n0_; have HB := n1_; clear n0_ n1_) | (go_at_call 47; refine (rule_named_calls _).mono ?_; rintro e w8 ⟨rfl, hb⟩; have n0_ := Aside0.mk (blk_below BM2.out hb); have n1_ := Aside0.mk (below_step HB.out hb); have n2_ := Aside0.mk (Kd.C_below HC.out hb); clear BM2 HB HC hb; have BM2 := n0_; have HB := n1_; have HC := n2_; clear n0_ n1_ n2_) | ((with_reducible refine gate_dst (N := 5) rfl ?_); refine box_event ?hg (N := 5) ?hd (cs := #[.string ⟨#[]⟩, .string ⟨#[]⟩, .string ⟨#[]⟩, .string ⟨#[]⟩]) (t := 93) ?hr ?_; (case hd => rfl); (case hg => rfl); (case hr => first | (go_simp; done) | (go_simp; rfl)); intro g5 hg w9 hbox hb; have NE25 := Aside0.mk (ne_of_blk BM2.out hg); have CG5 := Aside0.mk (show (⟨bk, oo, none⟩ : Addr).block ≠ g5 by have := World.block_lt_of_cell? _ _ (C_atN HC.out 0 _ rfl); simp only at this ⊢; omega); have GE5 := Aside0.mk (show w.heap.size ≤ g5 by rw [hg]; exact below_size HB.out); have BM5 := Aside0.mk hbox; have n0_ := Aside0.mk (blk_below BM2.out hb); have n1_ := Aside0.mk (below_step HB.out hb); have n2_ := Aside0.mk (Kd.C_below HC.out hb); clear BM2 HB HC hb hbox hg; have BM2 := n0_; have HB := n1_; have HC := n2_; clear n0_ n1_ n2_) | ((with_reducible refine gate_ (.store 93 (.tmp 5) (.tmp 21)) rfl ?_); refine store_block rfl rfl 93 (.tmp 5) (.tmp 21) rfl kindWords [.string wForward, .string wDrop, .string wPermit, .string wDeny] rfl rfl rfl (by kernel_rfl) kindWords_one BM5.out rfl ?_; intro w10 hm hgr; have n0_ := Aside0.mk (blk_grown BM2.out hgr NE25.out); have n1_ := Aside0.mk (pw_below_grown HB.out (some g5) HB.out.size hgr (fun k hk => by injection hk with hk; subst hk; exact GE5.out)); have n2_ := Aside0.mk (C_grownS HC.out hgr CG5.out); clear BM2 HB HC BM5; have BM5 := Aside0.mk hm; have BM2 := n0_; have HB := n1_; have HC := n2_; clear n0_ n1_ n2_ hm hgr))
  have n0_ := Aside0.mk (blk_drew BM2.out)
  have n1_ := Aside0.mk (below_drew1 HB.out)
  have n2_ := Aside0.mk (Kd.C_below HC.out (below_drew1 (Below.refl _ _)))
  have n3_ := Aside0.mk (blk_drew BM5.out)
  clear BM2 HB HC BM5
  have BM2 := n0_
  have HB := n1_
  have HC := n2_
  have BM5 := n3_
  clear n0_ n1_ n2_ n3_
  refine start_ (n := 6) (S := fun w' => w'.cell? ⟨bk, oo + 3, none⟩ = some (.string w3)) (ds := [4]) #[false, false, false, false, false, false] (by kernel_rfl) rfl rfl (C_atN HC.out 3 _ rfl) (fun hHeld => ?_)
  refine with_tabW rule_Parse.tab5 rule_Parse.bits5 (fun HT_ HW_ => ?_)
  generalize World.drew _ = w7 at HC HB BM2 BM5 hHeld ⊢
  refine pure_ (i := 0) (N := some 22) (v := ?_) (a' := ?_) #[true, false, false, false, false, false] rfl rfl (any_of HT_.out (by kernel_rfl)) (fun _ _ _ h => h) (Or.inl ⟨by rfl, ?_⟩) ?_ ?_
  rotate_left
  · intro w'
    go_simp
    with_reducible rfl
  rotate_left
  · simp only [Act.put, List.setIfInBounds_toArray, List.set_cons_zero, List.set_cons_succ, i64_w, i32_w]
    rfl
  refine pure_ (i := 1) (N := some 23) (v := ?_) (a' := ?_) #[true, true, false, false, false, false] rfl rfl (any_of HT_.out (by kernel_rfl)) (fun _ _ _ h => h) (Or.inl ⟨by rfl, ?_⟩) ?_ ?_
  rotate_left
  · intro w'
    go_simp
    with_reducible rfl
  rotate_left
  · simp only [Act.put, List.setIfInBounds_toArray, List.set_cons_zero, List.set_cons_succ, i64_w, i32_w]
    rfl
  refine pure_ (i := 2) (N := some 24) (v := ?_) (a' := ?_) #[true, true, true, false, false, false] rfl rfl (any_of HT_.out (by kernel_rfl)) (fun _ _ _ h => h) (Or.inl ⟨by rfl, ?_⟩) ?_ ?_
  rotate_left
  · intro w'
    go_simp
    with_reducible rfl
  rotate_left
  · simp only [Act.put, List.setIfInBounds_toArray, List.set_cons_zero, List.set_cons_succ, i64_w, i32_w]
    rfl
  refine take_ (i := 3) (N := some 25) (v := ?_) (a' := ?_) #[true, true, true, true, false, false] rfl rfl (take_ofW HT_.out HW_.out (by kernel_rfl)) (fun _ _ _ h => h) (Or.inl ⟨by rfl, ?_⟩) hHeld ?_ ?_
  rotate_left
  · intro w' s0
    go_simp
    with_reducible rfl
  rotate_left
  · simp only [Act.put, List.setIfInBounds_toArray, List.set_cons_zero, List.set_cons_succ, i64_w, i32_w]
    rfl
  refine last_ (i := 4) (N := some 26) #[true, true, true, true, true, false] rfl rfl (one_of HT_.out (by kernel_rfl)) (by decide) (fun K hK => ?_)
  refine goes_ Tryz.func57 (by kernel_rfl) rfl #[.slice (some ⟨g5, 0, none⟩) 4 4, .string w3] (by rfl) rfl rfl (by simp only [List.map_toArray, List.map_cons, List.map_nil]; rfl) ?_
  with_reducible refine (index4_calls _ _ _ _ BM5.out hKX.out).mono ?_
  rintro e w4 ⟨rfl, ⟨nd, rfl⟩⟩
  refine ⟨_, rfl, ?_⟩
  refine hK.out _ _ ?_
  clear hK K
  refine norm_ (a' := ?_) ?_ ?_
  rotate_left
  · show Act.put _ (some 26) _ = _
    simp only [Act.put, List.setIfInBounds_toArray, List.set_cons_zero, List.set_cons_succ, i64_w, i32_w]
    rfl
  refine pure_ (i := 5) (N := some 6) (v := ?_) (a' := ?_) #[true, true, true, true, true, true] rfl rfl (any_of HT_.out (by kernel_rfl)) (fun _ _ _ h => h) (Or.inl ⟨by rfl, ?_⟩) ?_ ?_
  rotate_left
  · intro w'
    go_simp
    with_reducible rfl
  rotate_left
  · simp only [Act.put, List.setIfInBounds_toArray, List.set_cons_zero, List.set_cons_succ, i64_w, i32_w]
    rfl
  refine done_ (done_of HT_.out (by kernel_rfl)) ?_
  clear BM5 NE25 CG5 GE5
  have n0_ := Aside0.mk (blk_drewN BM2.out nd)
  have n1_ := Aside0.mk (pw_below_drewN HB.out nd)
  have n2_ := Aside0.mk (Kd.C_below HC.out (pw_below_drewN (Below.refl _ _) nd))
  clear BM2 HB HC
  have BM2 := n0_
  have HB := n1_
  have HC := n2_
  clear n0_ n1_ n2_
  have c4 := C_atN HC.out 4 _ rfl
  go_upto_region 7 with (first | (go_at_call 58; refine (prefix_ParseRange.calls 7 w4 x0 x1 xe _ (HLd.below HB.out) hX.out).mono ?_; rintro e w11 ⟨rfl, hb⟩; have n0_ := Aside0.mk (blk_below BM2.out hb); have n1_ := Aside0.mk (below_step HB.out hb); have n2_ := Aside0.mk (Kd.C_below HC.out hb); clear BM2 HB HC c4 hb; have BM2 := n0_; have HB := n1_; have HC := n2_; clear n0_ n1_ n2_) | ((with_reducible refine gate_dst (N := 7) rfl ?_); refine box_event ?hg (N := 7) ?hd (cs := #[.int .u32 0, .int .u32 0]) (t := 25) ?hr ?_; (case hd => rfl); (case hg => rfl); (case hr => first | (go_simp; done) | (go_simp; rfl)); intro g7 hg w12 hbox hb; have NE27 := Aside0.mk (ne_of_blk BM2.out hg); have CG7 := Aside0.mk (show (⟨bk, oo, none⟩ : Addr).block ≠ g7 by have := World.block_lt_of_cell? _ _ (C_atN HC.out 0 _ rfl); simp only at this ⊢; omega); have GE7 := Aside0.mk (show w.heap.size ≤ g7 by rw [hg]; exact below_size HB.out); have B7 := Aside0.mk hbox; have n0_ := Aside0.mk (blk_below BM2.out hb); have n1_ := Aside0.mk (below_step HB.out hb); have n2_ := Aside0.mk (Kd.C_below HC.out hb); clear BM2 HB HC hb hbox hg; have BM2 := n0_; have HB := n1_; have HC := n2_; clear n0_ n1_ n2_) | ((with_reducible refine gate_ (.store 25 (.tmp 7) (.tmp 32)) rfl ?_); refine store_block rfl rfl 25 (.tmp 7) (.tmp 32) rfl (.agg #[.int .u32 x0, .int .u32 x1]) [.int .u32 x0, .int .u32 x1] rfl rfl rfl (by kernel_rfl) (range_one x0 x1) B7.out rfl ?_; intro w13 hm hgr; have n0_ := Aside0.mk (blk_grown BM2.out hgr NE27.out); have n1_ := Aside0.mk (pw_below_grown HB.out (some g7) HB.out.size hgr (fun k hk => by injection hk with hk; subst hk; exact GE7.out)); have n2_ := Aside0.mk (C_grownS HC.out hgr CG7.out); clear BM2 HB HC B7; have B7 := Aside0.mk hm; have BM2 := n0_; have HB := n1_; have HC := n2_; clear n0_ n1_ n2_ hm hgr))
  have n0_ := Aside0.mk (blk_drew BM2.out)
  have n1_ := Aside0.mk (below_drew1 HB.out)
  have n2_ := Aside0.mk (Kd.C_below HC.out (below_drew1 (Below.refl _ _)))
  have n3_ := Aside0.mk (blk_drew B7.out)
  clear BM2 HB HC B7
  have BM2 := n0_
  have HB := n1_
  have HC := n2_
  have B7 := n3_
  clear n0_ n1_ n2_ n3_
  refine start_ (n := 17) (S := fun w' => w'.cell? ⟨bk, oo, none⟩ = some (.string w0) ∧ w'.cell? ⟨bk, oo + 1, none⟩ = some (.string w1) ∧ w'.cell? ⟨bk, oo + 2, none⟩ = some (.string w2) ∧ w'.cell? ⟨g7, 0, none⟩ = some (.int .u32 x0) ∧ w'.cell? ⟨g7, 1, none⟩ = some (.int .u32 x1)) (ds := [16]) #[false, false, false, false, false, false, false, false, false, false, false, false, false, false, false, false, false] (by kernel_rfl) rfl rfl ⟨C_atN HC.out 0 _ rfl, C_atN HC.out 1 _ rfl, C_atN HC.out 2 _ rfl, (blk_cell B7.out 0).trans rfl, (blk_cell B7.out 1).trans rfl⟩ (fun hHeld => ?_)
  refine with_tabW rule_Parse.tab7 rule_Parse.bits7 (fun HT_ HW_ => ?_)
  generalize World.drew _ = wp at HC HB BM2 B7 hHeld ⊢
  refine pure_ (i := 0) (N := some 34) (v := ?_) (a' := ?_) #[true, false, false, false, false, false, false, false, false, false, false, false, false, false, false, false, false] rfl rfl (any_of HT_.out (by kernel_rfl)) (fun _ _ _ h => h) (Or.inl ⟨by rfl, ?_⟩) ?_ ?_
  rotate_left
  · intro w'
    go_simp
    with_reducible rfl
  rotate_left
  · simp only [Act.put, List.setIfInBounds_toArray, List.set_cons_zero, List.set_cons_succ, i64_w, i32_w]
    rfl
  refine pure_ (i := 1) (N := some 35) (v := ?_) (a' := ?_) #[true, true, false, false, false, false, false, false, false, false, false, false, false, false, false, false, false] rfl rfl (any_of HT_.out (by kernel_rfl)) (fun _ _ _ h => h) (Or.inl ⟨by rfl, ?_⟩) ?_ ?_
  rotate_left
  · intro w'
    go_simp
    with_reducible rfl
  rotate_left
  · simp only [Act.put, List.setIfInBounds_toArray, List.set_cons_zero, List.set_cons_succ, i64_w, i32_w]
    rfl
  refine pure_ (i := 4) (N := some 38) (v := ?_) (a' := ?_) #[true, true, false, false, true, false, false, false, false, false, false, false, false, false, false, false, false] rfl rfl (any_of HT_.out (by kernel_rfl)) (fun _ _ _ h => h) (Or.inl ⟨by rfl, ?_⟩) ?_ ?_
  rotate_left
  · intro w'
    go_simp
    with_reducible rfl
  rotate_left
  · simp only [Act.put, List.setIfInBounds_toArray, List.set_cons_zero, List.set_cons_succ, i64_w, i32_w]
    rfl
  refine pure_ (i := 5) (N := some 39) (v := ?_) (a' := ?_) #[true, true, false, false, true, true, false, false, false, false, false, false, false, false, false, false, false] rfl rfl (any_of HT_.out (by kernel_rfl)) (fun _ _ _ h => h) (Or.inl ⟨by rfl, ?_⟩) ?_ ?_
  rotate_left
  · intro w'
    go_simp
    with_reducible rfl
  rotate_left
  · simp only [Act.put, List.setIfInBounds_toArray, List.set_cons_zero, List.set_cons_succ, i64_w, i32_w]
    rfl
  refine pure_ (i := 8) (N := some 42) (v := ?_) (a' := ?_) #[true, true, false, false, true, true, false, false, true, false, false, false, false, false, false, false, false] rfl rfl (any_of HT_.out (by kernel_rfl)) (fun _ _ _ h => h) (Or.inl ⟨by rfl, ?_⟩) ?_ ?_
  rotate_left
  · intro w'
    go_simp
    with_reducible rfl
  rotate_left
  · simp only [Act.put, List.setIfInBounds_toArray, List.set_cons_zero, List.set_cons_succ, i64_w, i32_w]
    rfl
  refine pure_ (i := 9) (N := some 43) (v := ?_) (a' := ?_) #[true, true, false, false, true, true, false, false, true, true, false, false, false, false, false, false, false] rfl rfl (any_of HT_.out (by kernel_rfl)) (fun _ _ _ h => h) (Or.inl ⟨by rfl, ?_⟩) ?_ ?_
  rotate_left
  · intro w'
    go_simp
    with_reducible rfl
  rotate_left
  · simp only [Act.put, List.setIfInBounds_toArray, List.set_cons_zero, List.set_cons_succ, i64_w, i32_w]
    rfl
  refine pure_ (i := 12) (N := some 46) (v := ?_) (a' := ?_) #[true, true, false, false, true, true, false, false, true, true, false, false, true, false, false, false, false] rfl rfl (any_of HT_.out (by kernel_rfl)) (fun _ _ _ h => h) (Or.inl ⟨by rfl, ?_⟩) ?_ ?_
  rotate_left
  · intro w'
    go_simp
    with_reducible rfl
  rotate_left
  · simp only [Act.put, List.setIfInBounds_toArray, List.set_cons_zero, List.set_cons_succ, i64_w, i32_w]
    rfl
  refine take_ (i := 2) (N := some 36) (v := ?_) (a' := ?_) #[true, true, true, false, true, true, false, false, true, true, false, false, true, false, false, false, false] rfl rfl (take_ofW HT_.out HW_.out (by kernel_rfl)) (fun _ _ _ h => h) (Or.inl ⟨by rfl, ?_⟩) hHeld ?_ ?_
  rotate_left
  · rintro w' ⟨s0, s1, s2, s3, s4⟩
    go_simp
    with_reducible rfl
  rotate_left
  · simp only [Act.put, List.setIfInBounds_toArray, List.set_cons_zero, List.set_cons_succ, i64_w, i32_w]
    rfl
  refine take_ (i := 6) (N := some 40) (v := ?_) (a' := ?_) #[true, true, true, false, true, true, true, false, true, true, false, false, true, false, false, false, false] rfl rfl (take_ofW HT_.out HW_.out (by kernel_rfl)) (fun _ _ _ h => h) (Or.inl ⟨by rfl, ?_⟩) hHeld ?_ ?_
  rotate_left
  · rintro w' ⟨s0, s1, s2, s3, s4⟩
    go_simp
    with_reducible rfl
  rotate_left
  · simp only [Act.put, List.setIfInBounds_toArray, List.set_cons_zero, List.set_cons_succ, i64_w, i32_w]
    rfl
  refine take_ (i := 10) (N := some 44) (v := ?_) (a' := ?_) #[true, true, true, false, true, true, true, false, true, true, true, false, true, false, false, false, false] rfl rfl (take_ofW HT_.out HW_.out (by kernel_rfl)) (fun _ _ _ h => h) (Or.inl ⟨by rfl, ?_⟩) hHeld ?_ ?_
  rotate_left
  · rintro w' ⟨s0, s1, s2, s3, s4⟩
    go_simp
    with_reducible rfl
  rotate_left
  · simp only [Act.put, List.setIfInBounds_toArray, List.set_cons_zero, List.set_cons_succ, i64_w, i32_w]
    rfl
  refine take_ (i := 13) (N := some 47) (v := ?_) (a' := ?_) #[true, true, true, false, true, true, true, false, true, true, true, false, true, true, false, false, false] rfl rfl (take_ofW HT_.out HW_.out (by kernel_rfl)) (fun _ _ _ h => h) (Or.inl ⟨by rfl, ?_⟩) hHeld ?_ ?_
  rotate_left
  · rintro w' ⟨s0, s1, s2, s3, s4⟩
    go_simp
    with_reducible rfl
  rotate_left
  · simp only [Act.put, List.setIfInBounds_toArray, List.set_cons_zero, List.set_cons_succ, i64_w, i32_w]
    rfl
  refine join_ (σ := Nat) 1 #[true, true, true, true, true, true, true, true, true, true, true, true, true, true, true, true, false] (fun s => [(37, Value.int .i64 n0), (41, Value.int .i64 n1), (45, Value.int .i64 n2), (9, Value.pointer (some ⟨s, 0, none⟩)), (48, Value.agg #[.int .i64 n0, .int .i64 n1, .int .i64 n2, .int .i64 kx, .int .u32 x0, .int .u32 x1, .int .i64 0])]) (fun s w' => Aside0 (w'.heap[s]? = some (.cells #[.int .i64 0, .int .i64 0, .int .i64 0, .int .i64 0, .int .u32 0, .int .u32 0, .int .i64 0] 27 (0, 0))) ∧ Aside0 (w'.heap[g7]? = some (.cells #[.int .u32 x0, .int .u32 x1] 25 (0, 0))) ∧ Aside0 (Below w.heap.size w w') ∧ Aside0 (Kd.C Kd.string w' (some ⟨bk, oo, none⟩) 5 [w0, w1, w2, w3, w4]) ∧ Aside0 (w'.heap[g2]? = some (.cells #[.int .i64 0, .int .i64 0, .int .i64 0, .int .i64 0, .int .u32 0, .int .u32 0, .int .i64 0] 27 (0, 0))) ∧ Aside0 (w.heap.size ≤ s) ∧ Aside0 (some g2 ≠ some s) ∧ Aside0 ((⟨bk, oo, none⟩ : Addr).block ≠ s)) ?_ ?_
  rotate_left
  · intro hCont
    refine two_ (i := 3) (j := 15) (Ni := some 37) (Nj := some 9) #[true, true, true, true, true, true, true, false, true, true, true, false, true, true, false, false, false] #[true, true, true, false, true, true, true, false, true, true, true, false, true, true, false, true, false] rfl rfl rfl rfl (two_of HT_.out (by kernel_rfl)) (by decide) (by decide) (fun K hK => ?_) (fun K hK => ?_)
    · skip
      refine goes_ Tryz.func59 (by kernel_rfl) rfl #[.string w0] (by rfl) rfl rfl (by simp only [List.map_toArray, List.map_cons, List.map_nil]; rfl) ?_
      with_reducible refine (rule_number.calls w0 n0 _ (HLd.below HB.out) hN0.out).mono ?_
      rintro e wq ⟨rfl, hb⟩
      refine ⟨_, rfl, ?_⟩
      have n0_ := Aside0.mk (blk_below B7.out hb)
      have n1_ := Aside0.mk (below_step HB.out hb)
      have n2_ := Aside0.mk (Kd.C_below HC.out hb)
      have n3_ := Aside0.mk (blk_below BM2.out hb)
      clear B7 HB HC BM2 hb
      have B7 := n0_
      have HB := n1_
      have HC := n2_
      have BM2 := n3_
      clear n0_ n1_ n2_ n3_
      refine hK.out _ _ ⟨C_atN HC.out 0 _ rfl, C_atN HC.out 1 _ rfl, C_atN HC.out 2 _ rfl, (blk_cell B7.out 0).trans rfl, (blk_cell B7.out 1).trans rfl⟩ (fun hHeld => ?_)
      clear hK K
      refine norm_ (a' := ?_) ?_ ?_
      rotate_left
      · show Act.put _ (some 37) _ = _
        simp only [Act.put, List.setIfInBounds_toArray, List.set_cons_zero, List.set_cons_succ, i64_w, i32_w]
        rfl
      refine two_ (i := 7) (j := 15) (Ni := some 41) (Nj := some 9) #[true, true, true, true, true, true, true, true, true, true, true, false, true, true, false, false, false] #[true, true, true, true, true, true, true, false, true, true, true, false, true, true, false, true, false] rfl rfl rfl rfl (two_of HT_.out (by kernel_rfl)) (by decide) (by decide) (fun K hK => ?_) (fun K hK => ?_)
      · skip
        refine goes_ Tryz.func59 (by kernel_rfl) rfl #[.string w1] (by rfl) rfl rfl (by simp only [List.map_toArray, List.map_cons, List.map_nil]; rfl) ?_
        with_reducible refine (rule_number.calls w1 n1 _ (HLd.below HB.out) hN1.out).mono ?_
        rintro e wq ⟨rfl, hb⟩
        refine ⟨_, rfl, ?_⟩
        have n0_ := Aside0.mk (blk_below B7.out hb)
        have n1_ := Aside0.mk (below_step HB.out hb)
        have n2_ := Aside0.mk (Kd.C_below HC.out hb)
        have n3_ := Aside0.mk (blk_below BM2.out hb)
        clear B7 HB HC BM2 hb
        have B7 := n0_
        have HB := n1_
        have HC := n2_
        have BM2 := n3_
        clear n0_ n1_ n2_ n3_
        refine hK.out _ _ ⟨C_atN HC.out 0 _ rfl, C_atN HC.out 1 _ rfl, C_atN HC.out 2 _ rfl, (blk_cell B7.out 0).trans rfl, (blk_cell B7.out 1).trans rfl⟩ (fun hHeld => ?_)
        clear hK K
        refine norm_ (a' := ?_) ?_ ?_
        rotate_left
        · show Act.put _ (some 41) _ = _
          simp only [Act.put, List.setIfInBounds_toArray, List.set_cons_zero, List.set_cons_succ, i64_w, i32_w]
          rfl
        refine two_ (i := 11) (j := 15) (Ni := some 45) (Nj := some 9) #[true, true, true, true, true, true, true, true, true, true, true, true, true, true, false, false, false] #[true, true, true, true, true, true, true, true, true, true, true, false, true, true, false, true, false] rfl rfl rfl rfl (two_of HT_.out (by kernel_rfl)) (by decide) (by decide) (fun K hK => ?_) (fun K hK => ?_)
        · skip
          refine goes_ Tryz.func59 (by kernel_rfl) rfl #[.string w2] (by rfl) rfl rfl (by simp only [List.map_toArray, List.map_cons, List.map_nil]; rfl) ?_
          with_reducible refine (rule_number.calls w2 n2 _ (HLd.below HB.out) hN2.out).mono ?_
          rintro e wq ⟨rfl, hb⟩
          refine ⟨_, rfl, ?_⟩
          have n0_ := Aside0.mk (blk_below B7.out hb)
          have n1_ := Aside0.mk (below_step HB.out hb)
          have n2_ := Aside0.mk (Kd.C_below HC.out hb)
          have n3_ := Aside0.mk (blk_below BM2.out hb)
          clear B7 HB HC BM2 hb
          have B7 := n0_
          have HB := n1_
          have HC := n2_
          have BM2 := n3_
          clear n0_ n1_ n2_ n3_
          refine hK.out _ _ ⟨C_atN HC.out 0 _ rfl, C_atN HC.out 1 _ rfl, C_atN HC.out 2 _ rfl, (blk_cell B7.out 0).trans rfl, (blk_cell B7.out 1).trans rfl⟩ (fun hHeld => ?_)
          clear hK K
          refine norm_ (a' := ?_) ?_ ?_
          rotate_left
          · show Act.put _ (some 45) _ = _
            simp only [Act.put, List.setIfInBounds_toArray, List.set_cons_zero, List.set_cons_succ, i64_w, i32_w]
            rfl
          refine pure_ (i := 14) (N := some 48) (v := ?_) (a' := ?_) #[true, true, true, true, true, true, true, true, true, true, true, true, true, true, true, false, false] rfl rfl (any_of HT_.out (by kernel_rfl)) (fun _ _ _ h => h) (Or.inl ⟨by rfl, ?_⟩) ?_ ?_
          rotate_left
          · intro w'
            go_simp
            with_reducible rfl
          rotate_left
          · simp only [Act.put, List.setIfInBounds_toArray, List.set_cons_zero, List.set_cons_succ, i64_w, i32_w]
            rfl
          refine one_ (i := 15) (N := some 9) #[true, true, true, true, true, true, true, true, true, true, true, true, true, true, true, true, false] rfl rfl (one_of HT_.out (by kernel_rfl)) (by decide) (fun K hK => ?_)
          refine value_ (w1 := ?_) (v := ?_) (by rfl) rfl ?_ ?_
          rotate_left 2
          · go_simp
            constructor
            · rfl
            · rfl
          have hb : Below wq.heap.size wq (wq.alloc (.cells #[.int .i64 0, .int .i64 0, .int .i64 0, .int .i64 0, .int .u32 0, .int .u32 0, .int .i64 0] 27)) := below_alloc (Below.refl _ _) _
          have BN := Aside0.mk (blk_new wq (.cells #[.int .i64 0, .int .i64 0, .int .i64 0, .int .i64 0, .int .u32 0, .int .u32 0, .int .i64 0] 27))
          have GE9 := Aside0.mk (show w.heap.size ≤ wq.heap.size from below_size HB.out)
          have NE9 := Aside0.mk (ne_of_blk BM2.out (rfl : wq.heap.size = wq.heap.size))
          have CG9 := Aside0.mk (show (⟨bk, oo, none⟩ : Addr).block ≠ wq.heap.size by have := World.block_lt_of_cell? _ _ (C_atN HC.out 0 _ rfl); simp only at this ⊢; omega)
          have n0_ := Aside0.mk (blk_below B7.out hb)
          have n1_ := Aside0.mk (below_step HB.out hb)
          have n2_ := Aside0.mk (Kd.C_below HC.out hb)
          have n3_ := Aside0.mk (blk_below BM2.out hb)
          clear B7 HB HC BM2 hb
          have B7 := n0_
          have HB := n1_
          have HC := n2_
          have BM2 := n3_
          clear n0_ n1_ n2_ n3_
          generalize World.alloc _ _ = wa at BN B7 HB HC BM2 ⊢
          generalize wq.heap.size = g9 at BN GE9 NE9 CG9 ⊢
          refine hK.out _ _ ⟨C_atN HC.out 0 _ rfl, C_atN HC.out 1 _ rfl, C_atN HC.out 2 _ rfl, (blk_cell B7.out 0).trans rfl, (blk_cell B7.out 1).trans rfl⟩ (fun hHeld => ?_)
          clear hK K
          refine norm_ (a' := ?_) ?_ ?_
          rotate_left
          · show Act.put _ (some 9) _ = _
            simp only [Act.put, List.setIfInBounds_toArray, List.set_cons_zero, List.set_cons_succ, i64_w, i32_w]
            rfl
          exact norm_ (by simp only [putAll, Act.put, List.setIfInBounds_toArray, List.set_cons_zero, List.set_cons_succ]) (hCont g9 _ ⟨BN, B7, HB, HC, BM2, GE9, NE9, CG9⟩)
        · skip
          refine value_ (w1 := ?_) (v := ?_) (by rfl) rfl ?_ ?_
          rotate_left 2
          · go_simp
            constructor
            · rfl
            · rfl
          have hb : Below wq.heap.size wq (wq.alloc (.cells #[.int .i64 0, .int .i64 0, .int .i64 0, .int .i64 0, .int .u32 0, .int .u32 0, .int .i64 0] 27)) := below_alloc (Below.refl _ _) _
          have BN := Aside0.mk (blk_new wq (.cells #[.int .i64 0, .int .i64 0, .int .i64 0, .int .i64 0, .int .u32 0, .int .u32 0, .int .i64 0] 27))
          have GE9 := Aside0.mk (show w.heap.size ≤ wq.heap.size from below_size HB.out)
          have NE9 := Aside0.mk (ne_of_blk BM2.out (rfl : wq.heap.size = wq.heap.size))
          have CG9 := Aside0.mk (show (⟨bk, oo, none⟩ : Addr).block ≠ wq.heap.size by have := World.block_lt_of_cell? _ _ (C_atN HC.out 0 _ rfl); simp only at this ⊢; omega)
          have n0_ := Aside0.mk (blk_below B7.out hb)
          have n1_ := Aside0.mk (below_step HB.out hb)
          have n2_ := Aside0.mk (Kd.C_below HC.out hb)
          have n3_ := Aside0.mk (blk_below BM2.out hb)
          clear B7 HB HC BM2 hb
          have B7 := n0_
          have HB := n1_
          have HC := n2_
          have BM2 := n3_
          clear n0_ n1_ n2_ n3_
          generalize World.alloc _ _ = wa at BN B7 HB HC BM2 ⊢
          generalize wq.heap.size = g9 at BN GE9 NE9 CG9 ⊢
          refine hK.out _ _ ⟨C_atN HC.out 0 _ rfl, C_atN HC.out 1 _ rfl, C_atN HC.out 2 _ rfl, (blk_cell B7.out 0).trans rfl, (blk_cell B7.out 1).trans rfl⟩ (fun hHeld => ?_)
          clear hK K
          refine norm_ (a' := ?_) ?_ ?_
          rotate_left
          · show Act.put _ (some 9) _ = _
            simp only [Act.put, List.setIfInBounds_toArray, List.set_cons_zero, List.set_cons_succ, i64_w, i32_w]
            rfl
          refine one_ (i := 11) (N := some 45) #[true, true, true, true, true, true, true, true, true, true, true, true, true, true, false, true, false] rfl rfl (one_of HT_.out (by kernel_rfl)) (by decide) (fun K hK => ?_)
          refine goes_ Tryz.func59 (by kernel_rfl) rfl #[.string w2] (by rfl) rfl rfl (by simp only [List.map_toArray, List.map_cons, List.map_nil]; rfl) ?_
          with_reducible refine (rule_number.calls w2 n2 _ (HLd.below HB.out) hN2.out).mono ?_
          rintro e wq ⟨rfl, hb⟩
          refine ⟨_, rfl, ?_⟩
          have n0_ := Aside0.mk (blk_below B7.out hb)
          have n1_ := Aside0.mk (below_step HB.out hb)
          have n2_ := Aside0.mk (Kd.C_below HC.out hb)
          have n3_ := Aside0.mk (blk_below BM2.out hb)
          have n4_ := Aside0.mk (blk_below BN.out hb)
          clear B7 HB HC BM2 hb BN
          have B7 := n0_
          have HB := n1_
          have HC := n2_
          have BM2 := n3_
          have BN := n4_
          clear n0_ n1_ n2_ n3_ n4_
          refine hK.out _ _ ⟨C_atN HC.out 0 _ rfl, C_atN HC.out 1 _ rfl, C_atN HC.out 2 _ rfl, (blk_cell B7.out 0).trans rfl, (blk_cell B7.out 1).trans rfl⟩ (fun hHeld => ?_)
          clear hK K
          refine norm_ (a' := ?_) ?_ ?_
          rotate_left
          · show Act.put _ (some 45) _ = _
            simp only [Act.put, List.setIfInBounds_toArray, List.set_cons_zero, List.set_cons_succ, i64_w, i32_w]
            rfl
          refine pure_ (i := 14) (N := some 48) (v := ?_) (a' := ?_) #[true, true, true, true, true, true, true, true, true, true, true, true, true, true, true, true, false] rfl rfl (any_of HT_.out (by kernel_rfl)) (fun _ _ _ h => h) (Or.inl ⟨by rfl, ?_⟩) ?_ ?_
          rotate_left
          · intro w'
            go_simp
            with_reducible rfl
          rotate_left
          · simp only [Act.put, List.setIfInBounds_toArray, List.set_cons_zero, List.set_cons_succ, i64_w, i32_w]
            rfl
          exact norm_ (by simp only [putAll, Act.put, List.setIfInBounds_toArray, List.set_cons_zero, List.set_cons_succ]) (hCont g9 _ ⟨BN, B7, HB, HC, BM2, GE9, NE9, CG9⟩)
      · skip
        refine value_ (w1 := ?_) (v := ?_) (by rfl) rfl ?_ ?_
        rotate_left 2
        · go_simp
          constructor
          · rfl
          · rfl
        have hb : Below wq.heap.size wq (wq.alloc (.cells #[.int .i64 0, .int .i64 0, .int .i64 0, .int .i64 0, .int .u32 0, .int .u32 0, .int .i64 0] 27)) := below_alloc (Below.refl _ _) _
        have BN := Aside0.mk (blk_new wq (.cells #[.int .i64 0, .int .i64 0, .int .i64 0, .int .i64 0, .int .u32 0, .int .u32 0, .int .i64 0] 27))
        have GE9 := Aside0.mk (show w.heap.size ≤ wq.heap.size from below_size HB.out)
        have NE9 := Aside0.mk (ne_of_blk BM2.out (rfl : wq.heap.size = wq.heap.size))
        have CG9 := Aside0.mk (show (⟨bk, oo, none⟩ : Addr).block ≠ wq.heap.size by have := World.block_lt_of_cell? _ _ (C_atN HC.out 0 _ rfl); simp only at this ⊢; omega)
        have n0_ := Aside0.mk (blk_below B7.out hb)
        have n1_ := Aside0.mk (below_step HB.out hb)
        have n2_ := Aside0.mk (Kd.C_below HC.out hb)
        have n3_ := Aside0.mk (blk_below BM2.out hb)
        clear B7 HB HC BM2 hb
        have B7 := n0_
        have HB := n1_
        have HC := n2_
        have BM2 := n3_
        clear n0_ n1_ n2_ n3_
        generalize World.alloc _ _ = wa at BN B7 HB HC BM2 ⊢
        generalize wq.heap.size = g9 at BN GE9 NE9 CG9 ⊢
        refine hK.out _ _ ⟨C_atN HC.out 0 _ rfl, C_atN HC.out 1 _ rfl, C_atN HC.out 2 _ rfl, (blk_cell B7.out 0).trans rfl, (blk_cell B7.out 1).trans rfl⟩ (fun hHeld => ?_)
        clear hK K
        refine norm_ (a' := ?_) ?_ ?_
        rotate_left
        · show Act.put _ (some 9) _ = _
          simp only [Act.put, List.setIfInBounds_toArray, List.set_cons_zero, List.set_cons_succ, i64_w, i32_w]
          rfl
        refine one_ (i := 7) (N := some 41) #[true, true, true, true, true, true, true, true, true, true, true, false, true, true, false, true, false] rfl rfl (one_of HT_.out (by kernel_rfl)) (by decide) (fun K hK => ?_)
        refine goes_ Tryz.func59 (by kernel_rfl) rfl #[.string w1] (by rfl) rfl rfl (by simp only [List.map_toArray, List.map_cons, List.map_nil]; rfl) ?_
        with_reducible refine (rule_number.calls w1 n1 _ (HLd.below HB.out) hN1.out).mono ?_
        rintro e wq ⟨rfl, hb⟩
        refine ⟨_, rfl, ?_⟩
        have n0_ := Aside0.mk (blk_below B7.out hb)
        have n1_ := Aside0.mk (below_step HB.out hb)
        have n2_ := Aside0.mk (Kd.C_below HC.out hb)
        have n3_ := Aside0.mk (blk_below BM2.out hb)
        have n4_ := Aside0.mk (blk_below BN.out hb)
        clear B7 HB HC BM2 hb BN
        have B7 := n0_
        have HB := n1_
        have HC := n2_
        have BM2 := n3_
        have BN := n4_
        clear n0_ n1_ n2_ n3_ n4_
        refine hK.out _ _ ⟨C_atN HC.out 0 _ rfl, C_atN HC.out 1 _ rfl, C_atN HC.out 2 _ rfl, (blk_cell B7.out 0).trans rfl, (blk_cell B7.out 1).trans rfl⟩ (fun hHeld => ?_)
        clear hK K
        refine norm_ (a' := ?_) ?_ ?_
        rotate_left
        · show Act.put _ (some 41) _ = _
          simp only [Act.put, List.setIfInBounds_toArray, List.set_cons_zero, List.set_cons_succ, i64_w, i32_w]
          rfl
        refine one_ (i := 11) (N := some 45) #[true, true, true, true, true, true, true, true, true, true, true, true, true, true, false, true, false] rfl rfl (one_of HT_.out (by kernel_rfl)) (by decide) (fun K hK => ?_)
        refine goes_ Tryz.func59 (by kernel_rfl) rfl #[.string w2] (by rfl) rfl rfl (by simp only [List.map_toArray, List.map_cons, List.map_nil]; rfl) ?_
        with_reducible refine (rule_number.calls w2 n2 _ (HLd.below HB.out) hN2.out).mono ?_
        rintro e wq ⟨rfl, hb⟩
        refine ⟨_, rfl, ?_⟩
        have n0_ := Aside0.mk (blk_below B7.out hb)
        have n1_ := Aside0.mk (below_step HB.out hb)
        have n2_ := Aside0.mk (Kd.C_below HC.out hb)
        have n3_ := Aside0.mk (blk_below BM2.out hb)
        have n4_ := Aside0.mk (blk_below BN.out hb)
        clear B7 HB HC BM2 hb BN
        have B7 := n0_
        have HB := n1_
        have HC := n2_
        have BM2 := n3_
        have BN := n4_
        clear n0_ n1_ n2_ n3_ n4_
        refine hK.out _ _ ⟨C_atN HC.out 0 _ rfl, C_atN HC.out 1 _ rfl, C_atN HC.out 2 _ rfl, (blk_cell B7.out 0).trans rfl, (blk_cell B7.out 1).trans rfl⟩ (fun hHeld => ?_)
        clear hK K
        refine norm_ (a' := ?_) ?_ ?_
        rotate_left
        · show Act.put _ (some 45) _ = _
          simp only [Act.put, List.setIfInBounds_toArray, List.set_cons_zero, List.set_cons_succ, i64_w, i32_w]
          rfl
        refine pure_ (i := 14) (N := some 48) (v := ?_) (a' := ?_) #[true, true, true, true, true, true, true, true, true, true, true, true, true, true, true, true, false] rfl rfl (any_of HT_.out (by kernel_rfl)) (fun _ _ _ h => h) (Or.inl ⟨by rfl, ?_⟩) ?_ ?_
        rotate_left
        · intro w'
          go_simp
          with_reducible rfl
        rotate_left
        · simp only [Act.put, List.setIfInBounds_toArray, List.set_cons_zero, List.set_cons_succ, i64_w, i32_w]
          rfl
        exact norm_ (by simp only [putAll, Act.put, List.setIfInBounds_toArray, List.set_cons_zero, List.set_cons_succ]) (hCont g9 _ ⟨BN, B7, HB, HC, BM2, GE9, NE9, CG9⟩)
    · skip
      refine value_ (w1 := ?_) (v := ?_) (by rfl) rfl ?_ ?_
      rotate_left 2
      · go_simp
        constructor
        · rfl
        · rfl
      have hb : Below wp.heap.size wp (wp.alloc (.cells #[.int .i64 0, .int .i64 0, .int .i64 0, .int .i64 0, .int .u32 0, .int .u32 0, .int .i64 0] 27)) := below_alloc (Below.refl _ _) _
      have BN := Aside0.mk (blk_new wp (.cells #[.int .i64 0, .int .i64 0, .int .i64 0, .int .i64 0, .int .u32 0, .int .u32 0, .int .i64 0] 27))
      have GE9 := Aside0.mk (show w.heap.size ≤ wp.heap.size from below_size HB.out)
      have NE9 := Aside0.mk (ne_of_blk BM2.out (rfl : wp.heap.size = wp.heap.size))
      have CG9 := Aside0.mk (show (⟨bk, oo, none⟩ : Addr).block ≠ wp.heap.size by have := World.block_lt_of_cell? _ _ (C_atN HC.out 0 _ rfl); simp only at this ⊢; omega)
      have n0_ := Aside0.mk (blk_below B7.out hb)
      have n1_ := Aside0.mk (below_step HB.out hb)
      have n2_ := Aside0.mk (Kd.C_below HC.out hb)
      have n3_ := Aside0.mk (blk_below BM2.out hb)
      clear B7 HB HC BM2 hb
      have B7 := n0_
      have HB := n1_
      have HC := n2_
      have BM2 := n3_
      clear n0_ n1_ n2_ n3_
      generalize World.alloc _ _ = wa at BN B7 HB HC BM2 ⊢
      generalize wp.heap.size = g9 at BN GE9 NE9 CG9 ⊢
      refine hK.out _ _ ⟨C_atN HC.out 0 _ rfl, C_atN HC.out 1 _ rfl, C_atN HC.out 2 _ rfl, (blk_cell B7.out 0).trans rfl, (blk_cell B7.out 1).trans rfl⟩ (fun hHeld => ?_)
      clear hK K
      refine norm_ (a' := ?_) ?_ ?_
      rotate_left
      · show Act.put _ (some 9) _ = _
        simp only [Act.put, List.setIfInBounds_toArray, List.set_cons_zero, List.set_cons_succ, i64_w, i32_w]
        rfl
      refine one_ (i := 3) (N := some 37) #[true, true, true, true, true, true, true, false, true, true, true, false, true, true, false, true, false] rfl rfl (one_of HT_.out (by kernel_rfl)) (by decide) (fun K hK => ?_)
      refine goes_ Tryz.func59 (by kernel_rfl) rfl #[.string w0] (by rfl) rfl rfl (by simp only [List.map_toArray, List.map_cons, List.map_nil]; rfl) ?_
      with_reducible refine (rule_number.calls w0 n0 _ (HLd.below HB.out) hN0.out).mono ?_
      rintro e wq ⟨rfl, hb⟩
      refine ⟨_, rfl, ?_⟩
      have n0_ := Aside0.mk (blk_below B7.out hb)
      have n1_ := Aside0.mk (below_step HB.out hb)
      have n2_ := Aside0.mk (Kd.C_below HC.out hb)
      have n3_ := Aside0.mk (blk_below BM2.out hb)
      have n4_ := Aside0.mk (blk_below BN.out hb)
      clear B7 HB HC BM2 hb BN
      have B7 := n0_
      have HB := n1_
      have HC := n2_
      have BM2 := n3_
      have BN := n4_
      clear n0_ n1_ n2_ n3_ n4_
      refine hK.out _ _ ⟨C_atN HC.out 0 _ rfl, C_atN HC.out 1 _ rfl, C_atN HC.out 2 _ rfl, (blk_cell B7.out 0).trans rfl, (blk_cell B7.out 1).trans rfl⟩ (fun hHeld => ?_)
      clear hK K
      refine norm_ (a' := ?_) ?_ ?_
      rotate_left
      · show Act.put _ (some 37) _ = _
        simp only [Act.put, List.setIfInBounds_toArray, List.set_cons_zero, List.set_cons_succ, i64_w, i32_w]
        rfl
      refine one_ (i := 7) (N := some 41) #[true, true, true, true, true, true, true, true, true, true, true, false, true, true, false, true, false] rfl rfl (one_of HT_.out (by kernel_rfl)) (by decide) (fun K hK => ?_)
      refine goes_ Tryz.func59 (by kernel_rfl) rfl #[.string w1] (by rfl) rfl rfl (by simp only [List.map_toArray, List.map_cons, List.map_nil]; rfl) ?_
      with_reducible refine (rule_number.calls w1 n1 _ (HLd.below HB.out) hN1.out).mono ?_
      rintro e wq ⟨rfl, hb⟩
      refine ⟨_, rfl, ?_⟩
      have n0_ := Aside0.mk (blk_below B7.out hb)
      have n1_ := Aside0.mk (below_step HB.out hb)
      have n2_ := Aside0.mk (Kd.C_below HC.out hb)
      have n3_ := Aside0.mk (blk_below BM2.out hb)
      have n4_ := Aside0.mk (blk_below BN.out hb)
      clear B7 HB HC BM2 hb BN
      have B7 := n0_
      have HB := n1_
      have HC := n2_
      have BM2 := n3_
      have BN := n4_
      clear n0_ n1_ n2_ n3_ n4_
      refine hK.out _ _ ⟨C_atN HC.out 0 _ rfl, C_atN HC.out 1 _ rfl, C_atN HC.out 2 _ rfl, (blk_cell B7.out 0).trans rfl, (blk_cell B7.out 1).trans rfl⟩ (fun hHeld => ?_)
      clear hK K
      refine norm_ (a' := ?_) ?_ ?_
      rotate_left
      · show Act.put _ (some 41) _ = _
        simp only [Act.put, List.setIfInBounds_toArray, List.set_cons_zero, List.set_cons_succ, i64_w, i32_w]
        rfl
      refine one_ (i := 11) (N := some 45) #[true, true, true, true, true, true, true, true, true, true, true, true, true, true, false, true, false] rfl rfl (one_of HT_.out (by kernel_rfl)) (by decide) (fun K hK => ?_)
      refine goes_ Tryz.func59 (by kernel_rfl) rfl #[.string w2] (by rfl) rfl rfl (by simp only [List.map_toArray, List.map_cons, List.map_nil]; rfl) ?_
      with_reducible refine (rule_number.calls w2 n2 _ (HLd.below HB.out) hN2.out).mono ?_
      rintro e wq ⟨rfl, hb⟩
      refine ⟨_, rfl, ?_⟩
      have n0_ := Aside0.mk (blk_below B7.out hb)
      have n1_ := Aside0.mk (below_step HB.out hb)
      have n2_ := Aside0.mk (Kd.C_below HC.out hb)
      have n3_ := Aside0.mk (blk_below BM2.out hb)
      have n4_ := Aside0.mk (blk_below BN.out hb)
      clear B7 HB HC BM2 hb BN
      have B7 := n0_
      have HB := n1_
      have HC := n2_
      have BM2 := n3_
      have BN := n4_
      clear n0_ n1_ n2_ n3_ n4_
      refine hK.out _ _ ⟨C_atN HC.out 0 _ rfl, C_atN HC.out 1 _ rfl, C_atN HC.out 2 _ rfl, (blk_cell B7.out 0).trans rfl, (blk_cell B7.out 1).trans rfl⟩ (fun hHeld => ?_)
      clear hK K
      refine norm_ (a' := ?_) ?_ ?_
      rotate_left
      · show Act.put _ (some 45) _ = _
        simp only [Act.put, List.setIfInBounds_toArray, List.set_cons_zero, List.set_cons_succ, i64_w, i32_w]
        rfl
      refine pure_ (i := 14) (N := some 48) (v := ?_) (a' := ?_) #[true, true, true, true, true, true, true, true, true, true, true, true, true, true, true, true, false] rfl rfl (any_of HT_.out (by kernel_rfl)) (fun _ _ _ h => h) (Or.inl ⟨by rfl, ?_⟩) ?_ ?_
      rotate_left
      · intro w'
        go_simp
        with_reducible rfl
      rotate_left
      · simp only [Act.put, List.setIfInBounds_toArray, List.set_cons_zero, List.set_cons_succ, i64_w, i32_w]
        rfl
      exact norm_ (by simp only [putAll, Act.put, List.setIfInBounds_toArray, List.set_cons_zero, List.set_cons_succ]) (hCont g9 _ ⟨BN, B7, HB, HC, BM2, GE9, NE9, CG9⟩)
  rintro g9 wz ⟨BN, B7, HB, HC, BM2, GE9, NE9, CG9⟩
  have hHeld : wz.cell? ⟨bk, oo, none⟩ = some (.string w0) ∧ wz.cell? ⟨bk, oo + 1, none⟩ = some (.string w1) ∧ wz.cell? ⟨bk, oo + 2, none⟩ = some (.string w2) ∧ wz.cell? ⟨g7, 0, none⟩ = some (.int .u32 x0) ∧ wz.cell? ⟨g7, 1, none⟩ = some (.int .u32 x1) := ⟨C_atN HC.out 0 _ rfl, C_atN HC.out 1 _ rfl, C_atN HC.out 2 _ rfl, (blk_cell B7.out 0).trans rfl, (blk_cell B7.out 1).trans rfl⟩
  refine norm_ (a' := ?_) ?_ ?_
  rotate_left
  · simp only [putAll, Act.put, List.setIfInBounds_toArray, List.set_cons_zero, List.set_cons_succ]
    rfl
  refine last_ (i := 16) (N := none) #[true, true, true, true, true, true, true, true, true, true, true, true, true, true, true, true, true] rfl rfl (one_of HT_.out (by kernel_rfl)) (by decide) (fun K hK => ?_)
  refine storeK_ (by rfl) rfl 27 (.tmp 9) (.tmp 48) rfl (rv ⟨n0, n1, n2, kx, ⟨x0, x1⟩, 0⟩) (rcells ⟨n0, n1, n2, kx, ⟨x0, x1⟩, 0⟩) rfl rfl rfl (by kernel_rfl) (rcells_one _) BN.out rfl ?_
  intro wb hm hgr
  have n0_ := Aside0.mk (blk_grown BM2.out hgr NE9.out)
  have n1_ := Aside0.mk (pw_below_grown HB.out (some g9) HB.out.size hgr (fun k hk => by injection hk with hk; subst hk; exact GE9.out))
  have n2_ := Aside0.mk (C_grownS HC.out hgr CG9.out)
  clear BM2 HB HC BN B7
  have BN := Aside0.mk hm
  have BM2 := n0_
  have HB := n1_
  have HC := n2_
  clear n0_ n1_ n2_ hm hgr
  refine hK.out _ _ ?_
  clear hK K
  refine done_ (done_of HT_.out (by kernel_rfl)) ?_
  by_cases hxe : xe = 0
  · subst hxe
    have H := HE.out
    unfold parseEnd at H
    rw [if_pos rfl] at H
    obtain ⟨ok, hRt0, H2⟩ := Option.bind_eq_some_iff.mp H
    clear H
    have hRt := Aside0.mk hRt0
    clear hRt0 HE
    have c0 := (blk_cell BN.out 0).trans (show _ = some (Value.int .i64 n0) from rfl)
    have c1 := (blk_cell BN.out 1).trans (show _ = some (Value.int .i64 n1) from rfl)
    have c2 := (blk_cell BN.out 2).trans (show _ = some (Value.int .i64 n2) from rfl)
    have c3 := (blk_cell BN.out 3).trans (show _ = some (Value.int .i64 kx) from rfl)
    have c4 := (blk_cell BN.out 4).trans (show _ = some (Value.int .u32 x0) from rfl)
    have c5 := (blk_cell BN.out 5).trans (show _ = some (Value.int .u32 x1) from rfl)
    have c6 := (blk_cell BN.out 6).trans (show _ = some (Value.int .i64 0) from rfl)
    cases ok
    · rw [if_neg (by decide)] at H2
      have HE := Aside0.mk (Option.some.inj H2)
      clear H2
      go_wp2_with (first | (go_at_call 60; refine (rule_Right.calls _ _ _ _ _ _ _ _ _ hRt.out).mono ?_; rintro e w14 ⟨rfl, hb⟩; have n0_ := Aside0.mk (blk_below BM2.out hb); have n1_ := Aside0.mk (below_step HB.out hb); have n2_ := Aside0.mk (blk_below BN.out hb); clear BM2 HB BN c0 c1 c2 c3 c4 c5 c6 hb; have BM2 := n0_; have HB := n1_; have BN := n2_; clear n0_ n1_ n2_; have c0 := (blk_cell BN.out 0).trans (show _ = some (Value.int .i64 n0) from rfl); have c1 := (blk_cell BN.out 1).trans (show _ = some (Value.int .i64 n1) from rfl); have c2 := (blk_cell BN.out 2).trans (show _ = some (Value.int .i64 n2) from rfl); have c3 := (blk_cell BN.out 3).trans (show _ = some (Value.int .i64 kx) from rfl); have c4 := (blk_cell BN.out 4).trans (show _ = some (Value.int .u32 x0) from rfl); have c5 := (blk_cell BN.out 5).trans (show _ = some (Value.int .u32 x1) from rfl); have c6 := (blk_cell BN.out 6).trans (show _ = some (Value.int .i64 0) from rfl)) | ((with_reducible refine gate_ (.store 27 (.tmp 2) (.tmp 70)) rfl ?_); refine store_block rfl rfl 27 (.tmp 2) (.tmp 70) rfl (rv z27) (rcells z27) rfl rfl rfl (by kernel_rfl) (rcells_one _) BM2.out rfl ?_; intro wz hm hgr))
      refine bodyPost_ret (results_ct rfl _ _ g2 27 (rcells z27).toArray (0, 0) _ rfl hm Tryz.underlying27 rfl (by kernel_rfl)) rfl ?_
      exact ⟨by first | rfl | (cases HE.out; rfl), pw_below_grown HB.out (some g2) HB.out.size hgr (fun k hk => by injection hk with hk; subst hk; exact GE2.out)⟩
    · rw [if_pos rfl] at H2
      obtain ⟨tx, hTx0, H3⟩ := Option.bind_eq_some_iff.mp H2
      clear H2
      have hTx := Aside0.mk hTx0
      clear hTx0
      cases hts : (tx.toList == s.toList)
      · rw [hts, if_neg (by decide)] at H3
        have HE := Aside0.mk (Option.some.inj H3)
        clear H3
        go_wp2_with (first | (go_at_call 60; refine (rule_Right.calls _ _ _ _ _ _ _ _ _ hRt.out).mono ?_; rintro e w14 ⟨rfl, hb⟩; have n0_ := Aside0.mk (blk_below BM2.out hb); have n1_ := Aside0.mk (below_step HB.out hb); have n2_ := Aside0.mk (blk_below BN.out hb); clear BM2 HB BN c0 c1 c2 c3 c4 c5 c6 hb; have BM2 := n0_; have HB := n1_; have BN := n2_; clear n0_ n1_ n2_; have c0 := (blk_cell BN.out 0).trans (show _ = some (Value.int .i64 n0) from rfl); have c1 := (blk_cell BN.out 1).trans (show _ = some (Value.int .i64 n1) from rfl); have c2 := (blk_cell BN.out 2).trans (show _ = some (Value.int .i64 n2) from rfl); have c3 := (blk_cell BN.out 3).trans (show _ = some (Value.int .i64 kx) from rfl); have c4 := (blk_cell BN.out 4).trans (show _ = some (Value.int .u32 x0) from rfl); have c5 := (blk_cell BN.out 5).trans (show _ = some (Value.int .u32 x1) from rfl); have c6 := (blk_cell BN.out 6).trans (show _ = some (Value.int .i64 0) from rfl)) | (go_at_call 11; refine (rule_Text.calls _ _ _ _ _ _ _ tx _ (HLd.below HB.out) hTx.out).mono ?_; rintro e w15 ⟨rfl, hb⟩; have n0_ := Aside0.mk (blk_below BM2.out hb); have n1_ := Aside0.mk (below_step HB.out hb); have n2_ := Aside0.mk (blk_below BN.out hb); clear BM2 HB BN c0 c1 c2 c3 c4 c5 c6 hb; have BM2 := n0_; have HB := n1_; have BN := n2_; clear n0_ n1_ n2_; have c0 := (blk_cell BN.out 0).trans (show _ = some (Value.int .i64 n0) from rfl); have c1 := (blk_cell BN.out 1).trans (show _ = some (Value.int .i64 n1) from rfl); have c2 := (blk_cell BN.out 2).trans (show _ = some (Value.int .i64 n2) from rfl); have c3 := (blk_cell BN.out 3).trans (show _ = some (Value.int .i64 kx) from rfl); have c4 := (blk_cell BN.out 4).trans (show _ = some (Value.int .u32 x0) from rfl); have c5 := (blk_cell BN.out 5).trans (show _ = some (Value.int .u32 x1) from rfl); have c6 := (blk_cell BN.out 6).trans (show _ = some (Value.int .i64 0) from rfl)) | ((with_reducible refine gate_ (.store 27 (.tmp 2) (.tmp 70)) rfl ?_); refine store_block rfl rfl 27 (.tmp 2) (.tmp 70) rfl (rv z27) (rcells z27) rfl rfl rfl (by kernel_rfl) (rcells_one _) BM2.out rfl ?_; intro wz hm hgr))
        refine bodyPost_ret (results_ct rfl _ _ g2 27 (rcells z27).toArray (0, 0) _ rfl hm Tryz.underlying27 rfl (by kernel_rfl)) rfl ?_
        exact ⟨by first | rfl | (cases HE.out; rfl), pw_below_grown HB.out (some g2) HB.out.size hgr (fun k hk => by injection hk with hk; subst hk; exact GE2.out)⟩
      · rw [hts, if_pos rfl] at H3
        have HE := Aside0.mk (Option.some.inj H3)
        clear H3
        go_wp2_with (first | (go_at_call 60; refine (rule_Right.calls _ _ _ _ _ _ _ _ _ hRt.out).mono ?_; rintro e w14 ⟨rfl, hb⟩; have n0_ := Aside0.mk (blk_below BM2.out hb); have n1_ := Aside0.mk (below_step HB.out hb); have n2_ := Aside0.mk (blk_below BN.out hb); clear BM2 HB BN c0 c1 c2 c3 c4 c5 c6 hb; have BM2 := n0_; have HB := n1_; have BN := n2_; clear n0_ n1_ n2_; have c0 := (blk_cell BN.out 0).trans (show _ = some (Value.int .i64 n0) from rfl); have c1 := (blk_cell BN.out 1).trans (show _ = some (Value.int .i64 n1) from rfl); have c2 := (blk_cell BN.out 2).trans (show _ = some (Value.int .i64 n2) from rfl); have c3 := (blk_cell BN.out 3).trans (show _ = some (Value.int .i64 kx) from rfl); have c4 := (blk_cell BN.out 4).trans (show _ = some (Value.int .u32 x0) from rfl); have c5 := (blk_cell BN.out 5).trans (show _ = some (Value.int .u32 x1) from rfl); have c6 := (blk_cell BN.out 6).trans (show _ = some (Value.int .i64 0) from rfl)) | (go_at_call 11; refine (rule_Text.calls _ _ _ _ _ _ _ tx _ (HLd.below HB.out) hTx.out).mono ?_; rintro e w15 ⟨rfl, hb⟩; have n0_ := Aside0.mk (blk_below BM2.out hb); have n1_ := Aside0.mk (below_step HB.out hb); have n2_ := Aside0.mk (blk_below BN.out hb); clear BM2 HB BN c0 c1 c2 c3 c4 c5 c6 hb; have BM2 := n0_; have HB := n1_; have BN := n2_; clear n0_ n1_ n2_; have c0 := (blk_cell BN.out 0).trans (show _ = some (Value.int .i64 n0) from rfl); have c1 := (blk_cell BN.out 1).trans (show _ = some (Value.int .i64 n1) from rfl); have c2 := (blk_cell BN.out 2).trans (show _ = some (Value.int .i64 n2) from rfl); have c3 := (blk_cell BN.out 3).trans (show _ = some (Value.int .i64 kx) from rfl); have c4 := (blk_cell BN.out 4).trans (show _ = some (Value.int .u32 x0) from rfl); have c5 := (blk_cell BN.out 5).trans (show _ = some (Value.int .u32 x1) from rfl); have c6 := (blk_cell BN.out 6).trans (show _ = some (Value.int .i64 0) from rfl)) | ((with_reducible refine gate_ (.store 27 (.tmp 2) (.tmp 71)) rfl ?_); refine store_block rfl rfl 27 (.tmp 2) (.tmp 71) rfl (rv (⟨n0, n1, n2, kx, ⟨x0, x1⟩, 0⟩ : Rl)) (rcells (⟨n0, n1, n2, kx, ⟨x0, x1⟩, 0⟩ : Rl)) rfl rfl rfl (by kernel_rfl) (rcells_one _) BM2.out rfl ?_; intro wz hm hgr))
        refine bodyPost_ret (results_ct rfl _ _ g2 27 (rcells (⟨n0, n1, n2, kx, ⟨x0, x1⟩, 0⟩ : Rl)).toArray (0, 0) _ rfl hm Tryz.underlying27 rfl (by kernel_rfl)) rfl ?_
        exact ⟨by first | rfl | (cases HE.out; rfl), pw_below_grown HB.out (some g2) HB.out.size hgr (fun k hk => by injection hk with hk; subst hk; exact GE2.out)⟩
  · have H := HE.out
    unfold parseEnd at H
    rw [if_neg hxe] at H
    clear HE
    have HE := Aside0.mk (Option.some.inj H)
    clear H
    have d1 : (xe != 0) = true := by simpa using hxe
    have d2 : decide (xe = 0) = false := decide_eq_false hxe
    have d3 : (xe == 0) = false := by simpa using hxe
    have d4 : (xe = 0) = False := eq_false hxe
    go_wp2_with ((with_reducible refine gate_ (.store 27 (.tmp 2) (.tmp 70)) rfl ?_); refine store_block rfl rfl 27 (.tmp 2) (.tmp 70) rfl (rv z27) (rcells z27) rfl rfl rfl (by kernel_rfl) (rcells_one _) BM2.out rfl ?_; intro wz hm hgr)
    refine bodyPost_ret (results_ct rfl _ _ g2 27 (rcells z27).toArray (0, 0) _ rfl hm Tryz.underlying27 rfl (by kernel_rfl)) rfl ?_
    exact ⟨by first | rfl | (cases HE.out; rfl), pw_below_grown HB.out (some g2) HB.out.size hgr (fun k hk => by injection hk with hk; subst hk; exact GE2.out)⟩
set_option maxHeartbeats 8000000 in
set_option maxRecDepth 100000 in
theorem parse6_calls (s : ByteArray) (r1 r2 r3 r4 r5 r6 r7 r8 : Int) (w : World) (HLd : Laid w) (w0 w1 w2 w3 w4 w5 : ByteArray) (kx : Int) (x0 x1 xe n0 n1 n2 n5 : Int) (hS : strings_Split.f s ⟨#[32]⟩ = some [w0, w1, w2, w3, w4, w5])
    (hk : slices_Index_string_string.f 5 [wForward, wDrop, wPermit, wDeny] w3 = some kx) (hx : prefix_ParseRange.f 7 w4 = some (x0, x1, xe)) (hn0 : rule_number.f w0 = some n0) (hn1 : rule_number.f w1 = some n1) (hn2 : rule_number.f w2 = some n2) (hn5 : rule_number.f w5 = some n5) (h : parseEnd s n0 n1 n2 kx (x0, x1, xe) n5 = some (r1, r2, r3, r4, r5, r6, r7, r8)) :
    Calls Tryz.prog 14 #[.string s] w fun e w' => e = .returned (.tuple #[.agg #[.int .i64 r1, .int .i64 r2, .int .i64 r3, .int .i64 r4, .int .u32 r5, .int .u32 r6, .int .i64 r7], .int .i64 r8]) ∧ Below w.heap.size w w' := by
  have hKX := Aside0.mk hk
  have hS := Aside0.mk hS
  have hX := Aside0.mk hx
  have hN0 := Aside0.mk hn0
  have hN1 := Aside0.mk hn1
  have hN2 := Aside0.mk hn2
  have hN5 := Aside0.mk hn5
  have HE := Aside0.mk h
  clear hk hx hn0 hn1 hn2 hn5 h
  have hu45 := Tryz.underlying27
  have hu26 := Tryz.underlying25
  have hu58 := Tryz.underlying88
  have hu74 := Tryz.underlying93
  have HB := Aside0.mk (Below.refl w.heap.size w)
  go_enter Tryz.func14, Tryz.ntmps14
  go_upto_region 5 with (first | ((with_reducible refine gate_dst (N := 2) rfl ?_); refine box_event ?hg (N := 2) ?hd (cs := #[.int .i64 0, .int .i64 0, .int .i64 0, .int .i64 0, .int .u32 0, .int .u32 0, .int .i64 0]) (t := 27) ?hr ?_; (case hd => rfl); (case hg => rfl); (case hr => first | (go_simp; done) | (go_simp; rfl)); intro g2 hg w6 hbox hb; have BM2 := Aside0.mk hbox; have GE2 := Aside0.mk (show w.heap.size ≤ g2 by rw [hg]; exact below_size HB.out); have n1_ := Aside0.mk (below_step HB.out hb); clear HB; have HB := n1_; clear n1_ hb hbox hg) | (go_at_call 56; refine (strings_Split.calls _ _ _ _ (HLd.below HB.out) hS.out).mono ?_; rintro e w7 ⟨v8, rfl, hR, hb⟩; have n0_ := Aside0.mk (blk_below BM2.out hb); have n1_ := Aside0.mk (below_step HB.out hb); obtain ⟨A8, c8, hv8, hc8, hC8⟩ := Kd.R_reads hR; subst hv8; obtain ⟨ad, hA8, _⟩ := hC8.2.2 (show 0 < 6 by decide); subst hA8; have hsp := C_spot hC8 rfl; generalize ad.block = bk at hsp; generalize ad.off = oo at hsp; subst hsp; have HC := Aside0.mk hC8; clear BM2 HB hb hR hC8; have BM2 := n0_; have HB := n1_; clear n0_ n1_) | (go_at_call 47; refine (rule_named_calls _).mono ?_; rintro e w8 ⟨rfl, hb⟩; have n0_ := Aside0.mk (blk_below BM2.out hb); have n1_ := Aside0.mk (below_step HB.out hb); have n2_ := Aside0.mk (Kd.C_below HC.out hb); clear BM2 HB HC hb; have BM2 := n0_; have HB := n1_; have HC := n2_; clear n0_ n1_ n2_) | ((with_reducible refine gate_dst (N := 5) rfl ?_); refine box_event ?hg (N := 5) ?hd (cs := #[.string ⟨#[]⟩, .string ⟨#[]⟩, .string ⟨#[]⟩, .string ⟨#[]⟩]) (t := 93) ?hr ?_; (case hd => rfl); (case hg => rfl); (case hr => first | (go_simp; done) | (go_simp; rfl)); intro g5 hg w9 hbox hb; have NE25 := Aside0.mk (ne_of_blk BM2.out hg); have CG5 := Aside0.mk (show (⟨bk, oo, none⟩ : Addr).block ≠ g5 by have := World.block_lt_of_cell? _ _ (C_atN HC.out 0 _ rfl); simp only at this ⊢; omega); have GE5 := Aside0.mk (show w.heap.size ≤ g5 by rw [hg]; exact below_size HB.out); have BM5 := Aside0.mk hbox; have n0_ := Aside0.mk (blk_below BM2.out hb); have n1_ := Aside0.mk (below_step HB.out hb); have n2_ := Aside0.mk (Kd.C_below HC.out hb); clear BM2 HB HC hb hbox hg; have BM2 := n0_; have HB := n1_; have HC := n2_; clear n0_ n1_ n2_) | ((with_reducible refine gate_ (.store 93 (.tmp 5) (.tmp 21)) rfl ?_); refine store_block rfl rfl 93 (.tmp 5) (.tmp 21) rfl kindWords [.string wForward, .string wDrop, .string wPermit, .string wDeny] rfl rfl rfl (by kernel_rfl) kindWords_one BM5.out rfl ?_; intro w10 hm hgr; have n0_ := Aside0.mk (blk_grown BM2.out hgr NE25.out); have n1_ := Aside0.mk (pw_below_grown HB.out (some g5) HB.out.size hgr (fun k hk => by injection hk with hk; subst hk; exact GE5.out)); have n2_ := Aside0.mk (C_grownS HC.out hgr CG5.out); clear BM2 HB HC BM5; have BM5 := Aside0.mk hm; have BM2 := n0_; have HB := n1_; have HC := n2_; clear n0_ n1_ n2_ hm hgr))
  have n0_ := Aside0.mk (blk_drew BM2.out)
  have n1_ := Aside0.mk (below_drew1 HB.out)
  have n2_ := Aside0.mk (Kd.C_below HC.out (below_drew1 (Below.refl _ _)))
  have n3_ := Aside0.mk (blk_drew BM5.out)
  clear BM2 HB HC BM5
  have BM2 := n0_
  have HB := n1_
  have HC := n2_
  have BM5 := n3_
  clear n0_ n1_ n2_ n3_
  refine start_ (n := 6) (S := fun w' => w'.cell? ⟨bk, oo + 3, none⟩ = some (.string w3)) (ds := [4]) #[false, false, false, false, false, false] (by kernel_rfl) rfl rfl (C_atN HC.out 3 _ rfl) (fun hHeld => ?_)
  refine with_tabW rule_Parse.tab5 rule_Parse.bits5 (fun HT_ HW_ => ?_)
  generalize World.drew _ = w7 at HC HB BM2 BM5 hHeld ⊢
  refine pure_ (i := 0) (N := some 22) (v := ?_) (a' := ?_) #[true, false, false, false, false, false] rfl rfl (any_of HT_.out (by kernel_rfl)) (fun _ _ _ h => h) (Or.inl ⟨by rfl, ?_⟩) ?_ ?_
  rotate_left
  · intro w'
    go_simp
    with_reducible rfl
  rotate_left
  · simp only [Act.put, List.setIfInBounds_toArray, List.set_cons_zero, List.set_cons_succ, i64_w, i32_w]
    rfl
  refine pure_ (i := 1) (N := some 23) (v := ?_) (a' := ?_) #[true, true, false, false, false, false] rfl rfl (any_of HT_.out (by kernel_rfl)) (fun _ _ _ h => h) (Or.inl ⟨by rfl, ?_⟩) ?_ ?_
  rotate_left
  · intro w'
    go_simp
    with_reducible rfl
  rotate_left
  · simp only [Act.put, List.setIfInBounds_toArray, List.set_cons_zero, List.set_cons_succ, i64_w, i32_w]
    rfl
  refine pure_ (i := 2) (N := some 24) (v := ?_) (a' := ?_) #[true, true, true, false, false, false] rfl rfl (any_of HT_.out (by kernel_rfl)) (fun _ _ _ h => h) (Or.inl ⟨by rfl, ?_⟩) ?_ ?_
  rotate_left
  · intro w'
    go_simp
    with_reducible rfl
  rotate_left
  · simp only [Act.put, List.setIfInBounds_toArray, List.set_cons_zero, List.set_cons_succ, i64_w, i32_w]
    rfl
  refine take_ (i := 3) (N := some 25) (v := ?_) (a' := ?_) #[true, true, true, true, false, false] rfl rfl (take_ofW HT_.out HW_.out (by kernel_rfl)) (fun _ _ _ h => h) (Or.inl ⟨by rfl, ?_⟩) hHeld ?_ ?_
  rotate_left
  · intro w' s0
    go_simp
    with_reducible rfl
  rotate_left
  · simp only [Act.put, List.setIfInBounds_toArray, List.set_cons_zero, List.set_cons_succ, i64_w, i32_w]
    rfl
  refine last_ (i := 4) (N := some 26) #[true, true, true, true, true, false] rfl rfl (one_of HT_.out (by kernel_rfl)) (by decide) (fun K hK => ?_)
  refine goes_ Tryz.func57 (by kernel_rfl) rfl #[.slice (some ⟨g5, 0, none⟩) 4 4, .string w3] (by rfl) rfl rfl (by simp only [List.map_toArray, List.map_cons, List.map_nil]; rfl) ?_
  with_reducible refine (index4_calls _ _ _ _ BM5.out hKX.out).mono ?_
  rintro e w4 ⟨rfl, ⟨nd, rfl⟩⟩
  refine ⟨_, rfl, ?_⟩
  refine hK.out _ _ ?_
  clear hK K
  refine norm_ (a' := ?_) ?_ ?_
  rotate_left
  · show Act.put _ (some 26) _ = _
    simp only [Act.put, List.setIfInBounds_toArray, List.set_cons_zero, List.set_cons_succ, i64_w, i32_w]
    rfl
  refine pure_ (i := 5) (N := some 6) (v := ?_) (a' := ?_) #[true, true, true, true, true, true] rfl rfl (any_of HT_.out (by kernel_rfl)) (fun _ _ _ h => h) (Or.inl ⟨by rfl, ?_⟩) ?_ ?_
  rotate_left
  · intro w'
    go_simp
    with_reducible rfl
  rotate_left
  · simp only [Act.put, List.setIfInBounds_toArray, List.set_cons_zero, List.set_cons_succ, i64_w, i32_w]
    rfl
  refine done_ (done_of HT_.out (by kernel_rfl)) ?_
  clear BM5 NE25 CG5 GE5
  have n0_ := Aside0.mk (blk_drewN BM2.out nd)
  have n1_ := Aside0.mk (pw_below_drewN HB.out nd)
  have n2_ := Aside0.mk (Kd.C_below HC.out (pw_below_drewN (Below.refl _ _) nd))
  clear BM2 HB HC
  have BM2 := n0_
  have HB := n1_
  have HC := n2_
  clear n0_ n1_ n2_
  have c4 := C_atN HC.out 4 _ rfl
  go_upto_region 7 with (first | (go_at_call 58; refine (prefix_ParseRange.calls 7 w4 x0 x1 xe _ (HLd.below HB.out) hX.out).mono ?_; rintro e w11 ⟨rfl, hb⟩; have n0_ := Aside0.mk (blk_below BM2.out hb); have n1_ := Aside0.mk (below_step HB.out hb); have n2_ := Aside0.mk (Kd.C_below HC.out hb); clear BM2 HB HC c4 hb; have BM2 := n0_; have HB := n1_; have HC := n2_; clear n0_ n1_ n2_) | ((with_reducible refine gate_dst (N := 7) rfl ?_); refine box_event ?hg (N := 7) ?hd (cs := #[.int .u32 0, .int .u32 0]) (t := 25) ?hr ?_; (case hd => rfl); (case hg => rfl); (case hr => first | (go_simp; done) | (go_simp; rfl)); intro g7 hg w12 hbox hb; have NE27 := Aside0.mk (ne_of_blk BM2.out hg); have CG7 := Aside0.mk (show (⟨bk, oo, none⟩ : Addr).block ≠ g7 by have := World.block_lt_of_cell? _ _ (C_atN HC.out 0 _ rfl); simp only at this ⊢; omega); have GE7 := Aside0.mk (show w.heap.size ≤ g7 by rw [hg]; exact below_size HB.out); have B7 := Aside0.mk hbox; have n0_ := Aside0.mk (blk_below BM2.out hb); have n1_ := Aside0.mk (below_step HB.out hb); have n2_ := Aside0.mk (Kd.C_below HC.out hb); clear BM2 HB HC hb hbox hg; have BM2 := n0_; have HB := n1_; have HC := n2_; clear n0_ n1_ n2_) | ((with_reducible refine gate_ (.store 25 (.tmp 7) (.tmp 32)) rfl ?_); refine store_block rfl rfl 25 (.tmp 7) (.tmp 32) rfl (.agg #[.int .u32 x0, .int .u32 x1]) [.int .u32 x0, .int .u32 x1] rfl rfl rfl (by kernel_rfl) (range_one x0 x1) B7.out rfl ?_; intro w13 hm hgr; have n0_ := Aside0.mk (blk_grown BM2.out hgr NE27.out); have n1_ := Aside0.mk (pw_below_grown HB.out (some g7) HB.out.size hgr (fun k hk => by injection hk with hk; subst hk; exact GE7.out)); have n2_ := Aside0.mk (C_grownS HC.out hgr CG7.out); clear BM2 HB HC B7; have B7 := Aside0.mk hm; have BM2 := n0_; have HB := n1_; have HC := n2_; clear n0_ n1_ n2_ hm hgr))
  have n0_ := Aside0.mk (blk_drew BM2.out)
  have n1_ := Aside0.mk (below_drew1 HB.out)
  have n2_ := Aside0.mk (Kd.C_below HC.out (below_drew1 (Below.refl _ _)))
  have n3_ := Aside0.mk (blk_drew B7.out)
  clear BM2 HB HC B7
  have BM2 := n0_
  have HB := n1_
  have HC := n2_
  have B7 := n3_
  clear n0_ n1_ n2_ n3_
  refine start_ (n := 17) (S := fun w' => w'.cell? ⟨bk, oo, none⟩ = some (.string w0) ∧ w'.cell? ⟨bk, oo + 1, none⟩ = some (.string w1) ∧ w'.cell? ⟨bk, oo + 2, none⟩ = some (.string w2) ∧ w'.cell? ⟨g7, 0, none⟩ = some (.int .u32 x0) ∧ w'.cell? ⟨g7, 1, none⟩ = some (.int .u32 x1)) (ds := [16]) #[false, false, false, false, false, false, false, false, false, false, false, false, false, false, false, false, false] (by kernel_rfl) rfl rfl ⟨C_atN HC.out 0 _ rfl, C_atN HC.out 1 _ rfl, C_atN HC.out 2 _ rfl, (blk_cell B7.out 0).trans rfl, (blk_cell B7.out 1).trans rfl⟩ (fun hHeld => ?_)
  refine with_tabW rule_Parse.tab7 rule_Parse.bits7 (fun HT_ HW_ => ?_)
  generalize World.drew _ = wp at HC HB BM2 B7 hHeld ⊢
  refine pure_ (i := 0) (N := some 34) (v := ?_) (a' := ?_) #[true, false, false, false, false, false, false, false, false, false, false, false, false, false, false, false, false] rfl rfl (any_of HT_.out (by kernel_rfl)) (fun _ _ _ h => h) (Or.inl ⟨by rfl, ?_⟩) ?_ ?_
  rotate_left
  · intro w'
    go_simp
    with_reducible rfl
  rotate_left
  · simp only [Act.put, List.setIfInBounds_toArray, List.set_cons_zero, List.set_cons_succ, i64_w, i32_w]
    rfl
  refine pure_ (i := 1) (N := some 35) (v := ?_) (a' := ?_) #[true, true, false, false, false, false, false, false, false, false, false, false, false, false, false, false, false] rfl rfl (any_of HT_.out (by kernel_rfl)) (fun _ _ _ h => h) (Or.inl ⟨by rfl, ?_⟩) ?_ ?_
  rotate_left
  · intro w'
    go_simp
    with_reducible rfl
  rotate_left
  · simp only [Act.put, List.setIfInBounds_toArray, List.set_cons_zero, List.set_cons_succ, i64_w, i32_w]
    rfl
  refine pure_ (i := 4) (N := some 38) (v := ?_) (a' := ?_) #[true, true, false, false, true, false, false, false, false, false, false, false, false, false, false, false, false] rfl rfl (any_of HT_.out (by kernel_rfl)) (fun _ _ _ h => h) (Or.inl ⟨by rfl, ?_⟩) ?_ ?_
  rotate_left
  · intro w'
    go_simp
    with_reducible rfl
  rotate_left
  · simp only [Act.put, List.setIfInBounds_toArray, List.set_cons_zero, List.set_cons_succ, i64_w, i32_w]
    rfl
  refine pure_ (i := 5) (N := some 39) (v := ?_) (a' := ?_) #[true, true, false, false, true, true, false, false, false, false, false, false, false, false, false, false, false] rfl rfl (any_of HT_.out (by kernel_rfl)) (fun _ _ _ h => h) (Or.inl ⟨by rfl, ?_⟩) ?_ ?_
  rotate_left
  · intro w'
    go_simp
    with_reducible rfl
  rotate_left
  · simp only [Act.put, List.setIfInBounds_toArray, List.set_cons_zero, List.set_cons_succ, i64_w, i32_w]
    rfl
  refine pure_ (i := 8) (N := some 42) (v := ?_) (a' := ?_) #[true, true, false, false, true, true, false, false, true, false, false, false, false, false, false, false, false] rfl rfl (any_of HT_.out (by kernel_rfl)) (fun _ _ _ h => h) (Or.inl ⟨by rfl, ?_⟩) ?_ ?_
  rotate_left
  · intro w'
    go_simp
    with_reducible rfl
  rotate_left
  · simp only [Act.put, List.setIfInBounds_toArray, List.set_cons_zero, List.set_cons_succ, i64_w, i32_w]
    rfl
  refine pure_ (i := 9) (N := some 43) (v := ?_) (a' := ?_) #[true, true, false, false, true, true, false, false, true, true, false, false, false, false, false, false, false] rfl rfl (any_of HT_.out (by kernel_rfl)) (fun _ _ _ h => h) (Or.inl ⟨by rfl, ?_⟩) ?_ ?_
  rotate_left
  · intro w'
    go_simp
    with_reducible rfl
  rotate_left
  · simp only [Act.put, List.setIfInBounds_toArray, List.set_cons_zero, List.set_cons_succ, i64_w, i32_w]
    rfl
  refine pure_ (i := 12) (N := some 46) (v := ?_) (a' := ?_) #[true, true, false, false, true, true, false, false, true, true, false, false, true, false, false, false, false] rfl rfl (any_of HT_.out (by kernel_rfl)) (fun _ _ _ h => h) (Or.inl ⟨by rfl, ?_⟩) ?_ ?_
  rotate_left
  · intro w'
    go_simp
    with_reducible rfl
  rotate_left
  · simp only [Act.put, List.setIfInBounds_toArray, List.set_cons_zero, List.set_cons_succ, i64_w, i32_w]
    rfl
  refine take_ (i := 2) (N := some 36) (v := ?_) (a' := ?_) #[true, true, true, false, true, true, false, false, true, true, false, false, true, false, false, false, false] rfl rfl (take_ofW HT_.out HW_.out (by kernel_rfl)) (fun _ _ _ h => h) (Or.inl ⟨by rfl, ?_⟩) hHeld ?_ ?_
  rotate_left
  · rintro w' ⟨s0, s1, s2, s3, s4⟩
    go_simp
    with_reducible rfl
  rotate_left
  · simp only [Act.put, List.setIfInBounds_toArray, List.set_cons_zero, List.set_cons_succ, i64_w, i32_w]
    rfl
  refine take_ (i := 6) (N := some 40) (v := ?_) (a' := ?_) #[true, true, true, false, true, true, true, false, true, true, false, false, true, false, false, false, false] rfl rfl (take_ofW HT_.out HW_.out (by kernel_rfl)) (fun _ _ _ h => h) (Or.inl ⟨by rfl, ?_⟩) hHeld ?_ ?_
  rotate_left
  · rintro w' ⟨s0, s1, s2, s3, s4⟩
    go_simp
    with_reducible rfl
  rotate_left
  · simp only [Act.put, List.setIfInBounds_toArray, List.set_cons_zero, List.set_cons_succ, i64_w, i32_w]
    rfl
  refine take_ (i := 10) (N := some 44) (v := ?_) (a' := ?_) #[true, true, true, false, true, true, true, false, true, true, true, false, true, false, false, false, false] rfl rfl (take_ofW HT_.out HW_.out (by kernel_rfl)) (fun _ _ _ h => h) (Or.inl ⟨by rfl, ?_⟩) hHeld ?_ ?_
  rotate_left
  · rintro w' ⟨s0, s1, s2, s3, s4⟩
    go_simp
    with_reducible rfl
  rotate_left
  · simp only [Act.put, List.setIfInBounds_toArray, List.set_cons_zero, List.set_cons_succ, i64_w, i32_w]
    rfl
  refine take_ (i := 13) (N := some 47) (v := ?_) (a' := ?_) #[true, true, true, false, true, true, true, false, true, true, true, false, true, true, false, false, false] rfl rfl (take_ofW HT_.out HW_.out (by kernel_rfl)) (fun _ _ _ h => h) (Or.inl ⟨by rfl, ?_⟩) hHeld ?_ ?_
  rotate_left
  · rintro w' ⟨s0, s1, s2, s3, s4⟩
    go_simp
    with_reducible rfl
  rotate_left
  · simp only [Act.put, List.setIfInBounds_toArray, List.set_cons_zero, List.set_cons_succ, i64_w, i32_w]
    rfl
  refine join_ (σ := Nat) 1 #[true, true, true, true, true, true, true, true, true, true, true, true, true, true, true, true, false] (fun s => [(37, Value.int .i64 n0), (41, Value.int .i64 n1), (45, Value.int .i64 n2), (9, Value.pointer (some ⟨s, 0, none⟩)), (48, Value.agg #[.int .i64 n0, .int .i64 n1, .int .i64 n2, .int .i64 kx, .int .u32 x0, .int .u32 x1, .int .i64 0])]) (fun s w' => Aside0 (w'.heap[s]? = some (.cells #[.int .i64 0, .int .i64 0, .int .i64 0, .int .i64 0, .int .u32 0, .int .u32 0, .int .i64 0] 27 (0, 0))) ∧ Aside0 (w'.heap[g7]? = some (.cells #[.int .u32 x0, .int .u32 x1] 25 (0, 0))) ∧ Aside0 (Below w.heap.size w w') ∧ Aside0 (Kd.C Kd.string w' (some ⟨bk, oo, none⟩) 6 [w0, w1, w2, w3, w4, w5]) ∧ Aside0 (w'.heap[g2]? = some (.cells #[.int .i64 0, .int .i64 0, .int .i64 0, .int .i64 0, .int .u32 0, .int .u32 0, .int .i64 0] 27 (0, 0))) ∧ Aside0 (w.heap.size ≤ s) ∧ Aside0 (some g2 ≠ some s) ∧ Aside0 ((⟨bk, oo, none⟩ : Addr).block ≠ s)) ?_ ?_
  rotate_left
  · intro hCont
    refine two_ (i := 3) (j := 15) (Ni := some 37) (Nj := some 9) #[true, true, true, true, true, true, true, false, true, true, true, false, true, true, false, false, false] #[true, true, true, false, true, true, true, false, true, true, true, false, true, true, false, true, false] rfl rfl rfl rfl (two_of HT_.out (by kernel_rfl)) (by decide) (by decide) (fun K hK => ?_) (fun K hK => ?_)
    · skip
      refine goes_ Tryz.func59 (by kernel_rfl) rfl #[.string w0] (by rfl) rfl rfl (by simp only [List.map_toArray, List.map_cons, List.map_nil]; rfl) ?_
      with_reducible refine (rule_number.calls w0 n0 _ (HLd.below HB.out) hN0.out).mono ?_
      rintro e wq ⟨rfl, hb⟩
      refine ⟨_, rfl, ?_⟩
      have n0_ := Aside0.mk (blk_below B7.out hb)
      have n1_ := Aside0.mk (below_step HB.out hb)
      have n2_ := Aside0.mk (Kd.C_below HC.out hb)
      have n3_ := Aside0.mk (blk_below BM2.out hb)
      clear B7 HB HC BM2 hb
      have B7 := n0_
      have HB := n1_
      have HC := n2_
      have BM2 := n3_
      clear n0_ n1_ n2_ n3_
      refine hK.out _ _ ⟨C_atN HC.out 0 _ rfl, C_atN HC.out 1 _ rfl, C_atN HC.out 2 _ rfl, (blk_cell B7.out 0).trans rfl, (blk_cell B7.out 1).trans rfl⟩ (fun hHeld => ?_)
      clear hK K
      refine norm_ (a' := ?_) ?_ ?_
      rotate_left
      · show Act.put _ (some 37) _ = _
        simp only [Act.put, List.setIfInBounds_toArray, List.set_cons_zero, List.set_cons_succ, i64_w, i32_w]
        rfl
      refine two_ (i := 7) (j := 15) (Ni := some 41) (Nj := some 9) #[true, true, true, true, true, true, true, true, true, true, true, false, true, true, false, false, false] #[true, true, true, true, true, true, true, false, true, true, true, false, true, true, false, true, false] rfl rfl rfl rfl (two_of HT_.out (by kernel_rfl)) (by decide) (by decide) (fun K hK => ?_) (fun K hK => ?_)
      · skip
        refine goes_ Tryz.func59 (by kernel_rfl) rfl #[.string w1] (by rfl) rfl rfl (by simp only [List.map_toArray, List.map_cons, List.map_nil]; rfl) ?_
        with_reducible refine (rule_number.calls w1 n1 _ (HLd.below HB.out) hN1.out).mono ?_
        rintro e wq ⟨rfl, hb⟩
        refine ⟨_, rfl, ?_⟩
        have n0_ := Aside0.mk (blk_below B7.out hb)
        have n1_ := Aside0.mk (below_step HB.out hb)
        have n2_ := Aside0.mk (Kd.C_below HC.out hb)
        have n3_ := Aside0.mk (blk_below BM2.out hb)
        clear B7 HB HC BM2 hb
        have B7 := n0_
        have HB := n1_
        have HC := n2_
        have BM2 := n3_
        clear n0_ n1_ n2_ n3_
        refine hK.out _ _ ⟨C_atN HC.out 0 _ rfl, C_atN HC.out 1 _ rfl, C_atN HC.out 2 _ rfl, (blk_cell B7.out 0).trans rfl, (blk_cell B7.out 1).trans rfl⟩ (fun hHeld => ?_)
        clear hK K
        refine norm_ (a' := ?_) ?_ ?_
        rotate_left
        · show Act.put _ (some 41) _ = _
          simp only [Act.put, List.setIfInBounds_toArray, List.set_cons_zero, List.set_cons_succ, i64_w, i32_w]
          rfl
        refine two_ (i := 11) (j := 15) (Ni := some 45) (Nj := some 9) #[true, true, true, true, true, true, true, true, true, true, true, true, true, true, false, false, false] #[true, true, true, true, true, true, true, true, true, true, true, false, true, true, false, true, false] rfl rfl rfl rfl (two_of HT_.out (by kernel_rfl)) (by decide) (by decide) (fun K hK => ?_) (fun K hK => ?_)
        · skip
          refine goes_ Tryz.func59 (by kernel_rfl) rfl #[.string w2] (by rfl) rfl rfl (by simp only [List.map_toArray, List.map_cons, List.map_nil]; rfl) ?_
          with_reducible refine (rule_number.calls w2 n2 _ (HLd.below HB.out) hN2.out).mono ?_
          rintro e wq ⟨rfl, hb⟩
          refine ⟨_, rfl, ?_⟩
          have n0_ := Aside0.mk (blk_below B7.out hb)
          have n1_ := Aside0.mk (below_step HB.out hb)
          have n2_ := Aside0.mk (Kd.C_below HC.out hb)
          have n3_ := Aside0.mk (blk_below BM2.out hb)
          clear B7 HB HC BM2 hb
          have B7 := n0_
          have HB := n1_
          have HC := n2_
          have BM2 := n3_
          clear n0_ n1_ n2_ n3_
          refine hK.out _ _ ⟨C_atN HC.out 0 _ rfl, C_atN HC.out 1 _ rfl, C_atN HC.out 2 _ rfl, (blk_cell B7.out 0).trans rfl, (blk_cell B7.out 1).trans rfl⟩ (fun hHeld => ?_)
          clear hK K
          refine norm_ (a' := ?_) ?_ ?_
          rotate_left
          · show Act.put _ (some 45) _ = _
            simp only [Act.put, List.setIfInBounds_toArray, List.set_cons_zero, List.set_cons_succ, i64_w, i32_w]
            rfl
          refine pure_ (i := 14) (N := some 48) (v := ?_) (a' := ?_) #[true, true, true, true, true, true, true, true, true, true, true, true, true, true, true, false, false] rfl rfl (any_of HT_.out (by kernel_rfl)) (fun _ _ _ h => h) (Or.inl ⟨by rfl, ?_⟩) ?_ ?_
          rotate_left
          · intro w'
            go_simp
            with_reducible rfl
          rotate_left
          · simp only [Act.put, List.setIfInBounds_toArray, List.set_cons_zero, List.set_cons_succ, i64_w, i32_w]
            rfl
          refine one_ (i := 15) (N := some 9) #[true, true, true, true, true, true, true, true, true, true, true, true, true, true, true, true, false] rfl rfl (one_of HT_.out (by kernel_rfl)) (by decide) (fun K hK => ?_)
          refine value_ (w1 := ?_) (v := ?_) (by rfl) rfl ?_ ?_
          rotate_left 2
          · go_simp
            constructor
            · rfl
            · rfl
          have hb : Below wq.heap.size wq (wq.alloc (.cells #[.int .i64 0, .int .i64 0, .int .i64 0, .int .i64 0, .int .u32 0, .int .u32 0, .int .i64 0] 27)) := below_alloc (Below.refl _ _) _
          have BN := Aside0.mk (blk_new wq (.cells #[.int .i64 0, .int .i64 0, .int .i64 0, .int .i64 0, .int .u32 0, .int .u32 0, .int .i64 0] 27))
          have GE9 := Aside0.mk (show w.heap.size ≤ wq.heap.size from below_size HB.out)
          have NE9 := Aside0.mk (ne_of_blk BM2.out (rfl : wq.heap.size = wq.heap.size))
          have CG9 := Aside0.mk (show (⟨bk, oo, none⟩ : Addr).block ≠ wq.heap.size by have := World.block_lt_of_cell? _ _ (C_atN HC.out 0 _ rfl); simp only at this ⊢; omega)
          have n0_ := Aside0.mk (blk_below B7.out hb)
          have n1_ := Aside0.mk (below_step HB.out hb)
          have n2_ := Aside0.mk (Kd.C_below HC.out hb)
          have n3_ := Aside0.mk (blk_below BM2.out hb)
          clear B7 HB HC BM2 hb
          have B7 := n0_
          have HB := n1_
          have HC := n2_
          have BM2 := n3_
          clear n0_ n1_ n2_ n3_
          generalize World.alloc _ _ = wa at BN B7 HB HC BM2 ⊢
          generalize wq.heap.size = g9 at BN GE9 NE9 CG9 ⊢
          refine hK.out _ _ ⟨C_atN HC.out 0 _ rfl, C_atN HC.out 1 _ rfl, C_atN HC.out 2 _ rfl, (blk_cell B7.out 0).trans rfl, (blk_cell B7.out 1).trans rfl⟩ (fun hHeld => ?_)
          clear hK K
          refine norm_ (a' := ?_) ?_ ?_
          rotate_left
          · show Act.put _ (some 9) _ = _
            simp only [Act.put, List.setIfInBounds_toArray, List.set_cons_zero, List.set_cons_succ, i64_w, i32_w]
            rfl
          exact norm_ (by simp only [putAll, Act.put, List.setIfInBounds_toArray, List.set_cons_zero, List.set_cons_succ]) (hCont g9 _ ⟨BN, B7, HB, HC, BM2, GE9, NE9, CG9⟩)
        · skip
          refine value_ (w1 := ?_) (v := ?_) (by rfl) rfl ?_ ?_
          rotate_left 2
          · go_simp
            constructor
            · rfl
            · rfl
          have hb : Below wq.heap.size wq (wq.alloc (.cells #[.int .i64 0, .int .i64 0, .int .i64 0, .int .i64 0, .int .u32 0, .int .u32 0, .int .i64 0] 27)) := below_alloc (Below.refl _ _) _
          have BN := Aside0.mk (blk_new wq (.cells #[.int .i64 0, .int .i64 0, .int .i64 0, .int .i64 0, .int .u32 0, .int .u32 0, .int .i64 0] 27))
          have GE9 := Aside0.mk (show w.heap.size ≤ wq.heap.size from below_size HB.out)
          have NE9 := Aside0.mk (ne_of_blk BM2.out (rfl : wq.heap.size = wq.heap.size))
          have CG9 := Aside0.mk (show (⟨bk, oo, none⟩ : Addr).block ≠ wq.heap.size by have := World.block_lt_of_cell? _ _ (C_atN HC.out 0 _ rfl); simp only at this ⊢; omega)
          have n0_ := Aside0.mk (blk_below B7.out hb)
          have n1_ := Aside0.mk (below_step HB.out hb)
          have n2_ := Aside0.mk (Kd.C_below HC.out hb)
          have n3_ := Aside0.mk (blk_below BM2.out hb)
          clear B7 HB HC BM2 hb
          have B7 := n0_
          have HB := n1_
          have HC := n2_
          have BM2 := n3_
          clear n0_ n1_ n2_ n3_
          generalize World.alloc _ _ = wa at BN B7 HB HC BM2 ⊢
          generalize wq.heap.size = g9 at BN GE9 NE9 CG9 ⊢
          refine hK.out _ _ ⟨C_atN HC.out 0 _ rfl, C_atN HC.out 1 _ rfl, C_atN HC.out 2 _ rfl, (blk_cell B7.out 0).trans rfl, (blk_cell B7.out 1).trans rfl⟩ (fun hHeld => ?_)
          clear hK K
          refine norm_ (a' := ?_) ?_ ?_
          rotate_left
          · show Act.put _ (some 9) _ = _
            simp only [Act.put, List.setIfInBounds_toArray, List.set_cons_zero, List.set_cons_succ, i64_w, i32_w]
            rfl
          refine one_ (i := 11) (N := some 45) #[true, true, true, true, true, true, true, true, true, true, true, true, true, true, false, true, false] rfl rfl (one_of HT_.out (by kernel_rfl)) (by decide) (fun K hK => ?_)
          refine goes_ Tryz.func59 (by kernel_rfl) rfl #[.string w2] (by rfl) rfl rfl (by simp only [List.map_toArray, List.map_cons, List.map_nil]; rfl) ?_
          with_reducible refine (rule_number.calls w2 n2 _ (HLd.below HB.out) hN2.out).mono ?_
          rintro e wq ⟨rfl, hb⟩
          refine ⟨_, rfl, ?_⟩
          have n0_ := Aside0.mk (blk_below B7.out hb)
          have n1_ := Aside0.mk (below_step HB.out hb)
          have n2_ := Aside0.mk (Kd.C_below HC.out hb)
          have n3_ := Aside0.mk (blk_below BM2.out hb)
          have n4_ := Aside0.mk (blk_below BN.out hb)
          clear B7 HB HC BM2 hb BN
          have B7 := n0_
          have HB := n1_
          have HC := n2_
          have BM2 := n3_
          have BN := n4_
          clear n0_ n1_ n2_ n3_ n4_
          refine hK.out _ _ ⟨C_atN HC.out 0 _ rfl, C_atN HC.out 1 _ rfl, C_atN HC.out 2 _ rfl, (blk_cell B7.out 0).trans rfl, (blk_cell B7.out 1).trans rfl⟩ (fun hHeld => ?_)
          clear hK K
          refine norm_ (a' := ?_) ?_ ?_
          rotate_left
          · show Act.put _ (some 45) _ = _
            simp only [Act.put, List.setIfInBounds_toArray, List.set_cons_zero, List.set_cons_succ, i64_w, i32_w]
            rfl
          refine pure_ (i := 14) (N := some 48) (v := ?_) (a' := ?_) #[true, true, true, true, true, true, true, true, true, true, true, true, true, true, true, true, false] rfl rfl (any_of HT_.out (by kernel_rfl)) (fun _ _ _ h => h) (Or.inl ⟨by rfl, ?_⟩) ?_ ?_
          rotate_left
          · intro w'
            go_simp
            with_reducible rfl
          rotate_left
          · simp only [Act.put, List.setIfInBounds_toArray, List.set_cons_zero, List.set_cons_succ, i64_w, i32_w]
            rfl
          exact norm_ (by simp only [putAll, Act.put, List.setIfInBounds_toArray, List.set_cons_zero, List.set_cons_succ]) (hCont g9 _ ⟨BN, B7, HB, HC, BM2, GE9, NE9, CG9⟩)
      · skip
        refine value_ (w1 := ?_) (v := ?_) (by rfl) rfl ?_ ?_
        rotate_left 2
        · go_simp
          constructor
          · rfl
          · rfl
        have hb : Below wq.heap.size wq (wq.alloc (.cells #[.int .i64 0, .int .i64 0, .int .i64 0, .int .i64 0, .int .u32 0, .int .u32 0, .int .i64 0] 27)) := below_alloc (Below.refl _ _) _
        have BN := Aside0.mk (blk_new wq (.cells #[.int .i64 0, .int .i64 0, .int .i64 0, .int .i64 0, .int .u32 0, .int .u32 0, .int .i64 0] 27))
        have GE9 := Aside0.mk (show w.heap.size ≤ wq.heap.size from below_size HB.out)
        have NE9 := Aside0.mk (ne_of_blk BM2.out (rfl : wq.heap.size = wq.heap.size))
        have CG9 := Aside0.mk (show (⟨bk, oo, none⟩ : Addr).block ≠ wq.heap.size by have := World.block_lt_of_cell? _ _ (C_atN HC.out 0 _ rfl); simp only at this ⊢; omega)
        have n0_ := Aside0.mk (blk_below B7.out hb)
        have n1_ := Aside0.mk (below_step HB.out hb)
        have n2_ := Aside0.mk (Kd.C_below HC.out hb)
        have n3_ := Aside0.mk (blk_below BM2.out hb)
        clear B7 HB HC BM2 hb
        have B7 := n0_
        have HB := n1_
        have HC := n2_
        have BM2 := n3_
        clear n0_ n1_ n2_ n3_
        generalize World.alloc _ _ = wa at BN B7 HB HC BM2 ⊢
        generalize wq.heap.size = g9 at BN GE9 NE9 CG9 ⊢
        refine hK.out _ _ ⟨C_atN HC.out 0 _ rfl, C_atN HC.out 1 _ rfl, C_atN HC.out 2 _ rfl, (blk_cell B7.out 0).trans rfl, (blk_cell B7.out 1).trans rfl⟩ (fun hHeld => ?_)
        clear hK K
        refine norm_ (a' := ?_) ?_ ?_
        rotate_left
        · show Act.put _ (some 9) _ = _
          simp only [Act.put, List.setIfInBounds_toArray, List.set_cons_zero, List.set_cons_succ, i64_w, i32_w]
          rfl
        refine one_ (i := 7) (N := some 41) #[true, true, true, true, true, true, true, true, true, true, true, false, true, true, false, true, false] rfl rfl (one_of HT_.out (by kernel_rfl)) (by decide) (fun K hK => ?_)
        refine goes_ Tryz.func59 (by kernel_rfl) rfl #[.string w1] (by rfl) rfl rfl (by simp only [List.map_toArray, List.map_cons, List.map_nil]; rfl) ?_
        with_reducible refine (rule_number.calls w1 n1 _ (HLd.below HB.out) hN1.out).mono ?_
        rintro e wq ⟨rfl, hb⟩
        refine ⟨_, rfl, ?_⟩
        have n0_ := Aside0.mk (blk_below B7.out hb)
        have n1_ := Aside0.mk (below_step HB.out hb)
        have n2_ := Aside0.mk (Kd.C_below HC.out hb)
        have n3_ := Aside0.mk (blk_below BM2.out hb)
        have n4_ := Aside0.mk (blk_below BN.out hb)
        clear B7 HB HC BM2 hb BN
        have B7 := n0_
        have HB := n1_
        have HC := n2_
        have BM2 := n3_
        have BN := n4_
        clear n0_ n1_ n2_ n3_ n4_
        refine hK.out _ _ ⟨C_atN HC.out 0 _ rfl, C_atN HC.out 1 _ rfl, C_atN HC.out 2 _ rfl, (blk_cell B7.out 0).trans rfl, (blk_cell B7.out 1).trans rfl⟩ (fun hHeld => ?_)
        clear hK K
        refine norm_ (a' := ?_) ?_ ?_
        rotate_left
        · show Act.put _ (some 41) _ = _
          simp only [Act.put, List.setIfInBounds_toArray, List.set_cons_zero, List.set_cons_succ, i64_w, i32_w]
          rfl
        refine one_ (i := 11) (N := some 45) #[true, true, true, true, true, true, true, true, true, true, true, true, true, true, false, true, false] rfl rfl (one_of HT_.out (by kernel_rfl)) (by decide) (fun K hK => ?_)
        refine goes_ Tryz.func59 (by kernel_rfl) rfl #[.string w2] (by rfl) rfl rfl (by simp only [List.map_toArray, List.map_cons, List.map_nil]; rfl) ?_
        with_reducible refine (rule_number.calls w2 n2 _ (HLd.below HB.out) hN2.out).mono ?_
        rintro e wq ⟨rfl, hb⟩
        refine ⟨_, rfl, ?_⟩
        have n0_ := Aside0.mk (blk_below B7.out hb)
        have n1_ := Aside0.mk (below_step HB.out hb)
        have n2_ := Aside0.mk (Kd.C_below HC.out hb)
        have n3_ := Aside0.mk (blk_below BM2.out hb)
        have n4_ := Aside0.mk (blk_below BN.out hb)
        clear B7 HB HC BM2 hb BN
        have B7 := n0_
        have HB := n1_
        have HC := n2_
        have BM2 := n3_
        have BN := n4_
        clear n0_ n1_ n2_ n3_ n4_
        refine hK.out _ _ ⟨C_atN HC.out 0 _ rfl, C_atN HC.out 1 _ rfl, C_atN HC.out 2 _ rfl, (blk_cell B7.out 0).trans rfl, (blk_cell B7.out 1).trans rfl⟩ (fun hHeld => ?_)
        clear hK K
        refine norm_ (a' := ?_) ?_ ?_
        rotate_left
        · show Act.put _ (some 45) _ = _
          simp only [Act.put, List.setIfInBounds_toArray, List.set_cons_zero, List.set_cons_succ, i64_w, i32_w]
          rfl
        refine pure_ (i := 14) (N := some 48) (v := ?_) (a' := ?_) #[true, true, true, true, true, true, true, true, true, true, true, true, true, true, true, true, false] rfl rfl (any_of HT_.out (by kernel_rfl)) (fun _ _ _ h => h) (Or.inl ⟨by rfl, ?_⟩) ?_ ?_
        rotate_left
        · intro w'
          go_simp
          with_reducible rfl
        rotate_left
        · simp only [Act.put, List.setIfInBounds_toArray, List.set_cons_zero, List.set_cons_succ, i64_w, i32_w]
          rfl
        exact norm_ (by simp only [putAll, Act.put, List.setIfInBounds_toArray, List.set_cons_zero, List.set_cons_succ]) (hCont g9 _ ⟨BN, B7, HB, HC, BM2, GE9, NE9, CG9⟩)
    · skip
      refine value_ (w1 := ?_) (v := ?_) (by rfl) rfl ?_ ?_
      rotate_left 2
      · go_simp
        constructor
        · rfl
        · rfl
      have hb : Below wp.heap.size wp (wp.alloc (.cells #[.int .i64 0, .int .i64 0, .int .i64 0, .int .i64 0, .int .u32 0, .int .u32 0, .int .i64 0] 27)) := below_alloc (Below.refl _ _) _
      have BN := Aside0.mk (blk_new wp (.cells #[.int .i64 0, .int .i64 0, .int .i64 0, .int .i64 0, .int .u32 0, .int .u32 0, .int .i64 0] 27))
      have GE9 := Aside0.mk (show w.heap.size ≤ wp.heap.size from below_size HB.out)
      have NE9 := Aside0.mk (ne_of_blk BM2.out (rfl : wp.heap.size = wp.heap.size))
      have CG9 := Aside0.mk (show (⟨bk, oo, none⟩ : Addr).block ≠ wp.heap.size by have := World.block_lt_of_cell? _ _ (C_atN HC.out 0 _ rfl); simp only at this ⊢; omega)
      have n0_ := Aside0.mk (blk_below B7.out hb)
      have n1_ := Aside0.mk (below_step HB.out hb)
      have n2_ := Aside0.mk (Kd.C_below HC.out hb)
      have n3_ := Aside0.mk (blk_below BM2.out hb)
      clear B7 HB HC BM2 hb
      have B7 := n0_
      have HB := n1_
      have HC := n2_
      have BM2 := n3_
      clear n0_ n1_ n2_ n3_
      generalize World.alloc _ _ = wa at BN B7 HB HC BM2 ⊢
      generalize wp.heap.size = g9 at BN GE9 NE9 CG9 ⊢
      refine hK.out _ _ ⟨C_atN HC.out 0 _ rfl, C_atN HC.out 1 _ rfl, C_atN HC.out 2 _ rfl, (blk_cell B7.out 0).trans rfl, (blk_cell B7.out 1).trans rfl⟩ (fun hHeld => ?_)
      clear hK K
      refine norm_ (a' := ?_) ?_ ?_
      rotate_left
      · show Act.put _ (some 9) _ = _
        simp only [Act.put, List.setIfInBounds_toArray, List.set_cons_zero, List.set_cons_succ, i64_w, i32_w]
        rfl
      refine one_ (i := 3) (N := some 37) #[true, true, true, true, true, true, true, false, true, true, true, false, true, true, false, true, false] rfl rfl (one_of HT_.out (by kernel_rfl)) (by decide) (fun K hK => ?_)
      refine goes_ Tryz.func59 (by kernel_rfl) rfl #[.string w0] (by rfl) rfl rfl (by simp only [List.map_toArray, List.map_cons, List.map_nil]; rfl) ?_
      with_reducible refine (rule_number.calls w0 n0 _ (HLd.below HB.out) hN0.out).mono ?_
      rintro e wq ⟨rfl, hb⟩
      refine ⟨_, rfl, ?_⟩
      have n0_ := Aside0.mk (blk_below B7.out hb)
      have n1_ := Aside0.mk (below_step HB.out hb)
      have n2_ := Aside0.mk (Kd.C_below HC.out hb)
      have n3_ := Aside0.mk (blk_below BM2.out hb)
      have n4_ := Aside0.mk (blk_below BN.out hb)
      clear B7 HB HC BM2 hb BN
      have B7 := n0_
      have HB := n1_
      have HC := n2_
      have BM2 := n3_
      have BN := n4_
      clear n0_ n1_ n2_ n3_ n4_
      refine hK.out _ _ ⟨C_atN HC.out 0 _ rfl, C_atN HC.out 1 _ rfl, C_atN HC.out 2 _ rfl, (blk_cell B7.out 0).trans rfl, (blk_cell B7.out 1).trans rfl⟩ (fun hHeld => ?_)
      clear hK K
      refine norm_ (a' := ?_) ?_ ?_
      rotate_left
      · show Act.put _ (some 37) _ = _
        simp only [Act.put, List.setIfInBounds_toArray, List.set_cons_zero, List.set_cons_succ, i64_w, i32_w]
        rfl
      refine one_ (i := 7) (N := some 41) #[true, true, true, true, true, true, true, true, true, true, true, false, true, true, false, true, false] rfl rfl (one_of HT_.out (by kernel_rfl)) (by decide) (fun K hK => ?_)
      refine goes_ Tryz.func59 (by kernel_rfl) rfl #[.string w1] (by rfl) rfl rfl (by simp only [List.map_toArray, List.map_cons, List.map_nil]; rfl) ?_
      with_reducible refine (rule_number.calls w1 n1 _ (HLd.below HB.out) hN1.out).mono ?_
      rintro e wq ⟨rfl, hb⟩
      refine ⟨_, rfl, ?_⟩
      have n0_ := Aside0.mk (blk_below B7.out hb)
      have n1_ := Aside0.mk (below_step HB.out hb)
      have n2_ := Aside0.mk (Kd.C_below HC.out hb)
      have n3_ := Aside0.mk (blk_below BM2.out hb)
      have n4_ := Aside0.mk (blk_below BN.out hb)
      clear B7 HB HC BM2 hb BN
      have B7 := n0_
      have HB := n1_
      have HC := n2_
      have BM2 := n3_
      have BN := n4_
      clear n0_ n1_ n2_ n3_ n4_
      refine hK.out _ _ ⟨C_atN HC.out 0 _ rfl, C_atN HC.out 1 _ rfl, C_atN HC.out 2 _ rfl, (blk_cell B7.out 0).trans rfl, (blk_cell B7.out 1).trans rfl⟩ (fun hHeld => ?_)
      clear hK K
      refine norm_ (a' := ?_) ?_ ?_
      rotate_left
      · show Act.put _ (some 41) _ = _
        simp only [Act.put, List.setIfInBounds_toArray, List.set_cons_zero, List.set_cons_succ, i64_w, i32_w]
        rfl
      refine one_ (i := 11) (N := some 45) #[true, true, true, true, true, true, true, true, true, true, true, true, true, true, false, true, false] rfl rfl (one_of HT_.out (by kernel_rfl)) (by decide) (fun K hK => ?_)
      refine goes_ Tryz.func59 (by kernel_rfl) rfl #[.string w2] (by rfl) rfl rfl (by simp only [List.map_toArray, List.map_cons, List.map_nil]; rfl) ?_
      with_reducible refine (rule_number.calls w2 n2 _ (HLd.below HB.out) hN2.out).mono ?_
      rintro e wq ⟨rfl, hb⟩
      refine ⟨_, rfl, ?_⟩
      have n0_ := Aside0.mk (blk_below B7.out hb)
      have n1_ := Aside0.mk (below_step HB.out hb)
      have n2_ := Aside0.mk (Kd.C_below HC.out hb)
      have n3_ := Aside0.mk (blk_below BM2.out hb)
      have n4_ := Aside0.mk (blk_below BN.out hb)
      clear B7 HB HC BM2 hb BN
      have B7 := n0_
      have HB := n1_
      have HC := n2_
      have BM2 := n3_
      have BN := n4_
      clear n0_ n1_ n2_ n3_ n4_
      refine hK.out _ _ ⟨C_atN HC.out 0 _ rfl, C_atN HC.out 1 _ rfl, C_atN HC.out 2 _ rfl, (blk_cell B7.out 0).trans rfl, (blk_cell B7.out 1).trans rfl⟩ (fun hHeld => ?_)
      clear hK K
      refine norm_ (a' := ?_) ?_ ?_
      rotate_left
      · show Act.put _ (some 45) _ = _
        simp only [Act.put, List.setIfInBounds_toArray, List.set_cons_zero, List.set_cons_succ, i64_w, i32_w]
        rfl
      refine pure_ (i := 14) (N := some 48) (v := ?_) (a' := ?_) #[true, true, true, true, true, true, true, true, true, true, true, true, true, true, true, true, false] rfl rfl (any_of HT_.out (by kernel_rfl)) (fun _ _ _ h => h) (Or.inl ⟨by rfl, ?_⟩) ?_ ?_
      rotate_left
      · intro w'
        go_simp
        with_reducible rfl
      rotate_left
      · simp only [Act.put, List.setIfInBounds_toArray, List.set_cons_zero, List.set_cons_succ, i64_w, i32_w]
        rfl
      exact norm_ (by simp only [putAll, Act.put, List.setIfInBounds_toArray, List.set_cons_zero, List.set_cons_succ]) (hCont g9 _ ⟨BN, B7, HB, HC, BM2, GE9, NE9, CG9⟩)
  rintro g9 wz ⟨BN, B7, HB, HC, BM2, GE9, NE9, CG9⟩
  have hHeld : wz.cell? ⟨bk, oo, none⟩ = some (.string w0) ∧ wz.cell? ⟨bk, oo + 1, none⟩ = some (.string w1) ∧ wz.cell? ⟨bk, oo + 2, none⟩ = some (.string w2) ∧ wz.cell? ⟨g7, 0, none⟩ = some (.int .u32 x0) ∧ wz.cell? ⟨g7, 1, none⟩ = some (.int .u32 x1) := ⟨C_atN HC.out 0 _ rfl, C_atN HC.out 1 _ rfl, C_atN HC.out 2 _ rfl, (blk_cell B7.out 0).trans rfl, (blk_cell B7.out 1).trans rfl⟩
  refine norm_ (a' := ?_) ?_ ?_
  rotate_left
  · simp only [putAll, Act.put, List.setIfInBounds_toArray, List.set_cons_zero, List.set_cons_succ]
    rfl
  refine last_ (i := 16) (N := none) #[true, true, true, true, true, true, true, true, true, true, true, true, true, true, true, true, true] rfl rfl (one_of HT_.out (by kernel_rfl)) (by decide) (fun K hK => ?_)
  refine storeK_ (by rfl) rfl 27 (.tmp 9) (.tmp 48) rfl (rv ⟨n0, n1, n2, kx, ⟨x0, x1⟩, 0⟩) (rcells ⟨n0, n1, n2, kx, ⟨x0, x1⟩, 0⟩) rfl rfl rfl (by kernel_rfl) (rcells_one _) BN.out rfl ?_
  intro wb hm hgr
  have n0_ := Aside0.mk (blk_grown BM2.out hgr NE9.out)
  have n1_ := Aside0.mk (pw_below_grown HB.out (some g9) HB.out.size hgr (fun k hk => by injection hk with hk; subst hk; exact GE9.out))
  have n2_ := Aside0.mk (C_grownS HC.out hgr CG9.out)
  clear BM2 HB HC BN B7
  have BN := Aside0.mk hm
  have BM2 := n0_
  have HB := n1_
  have HC := n2_
  clear n0_ n1_ n2_ hm hgr
  refine hK.out _ _ ?_
  clear hK K
  refine done_ (done_of HT_.out (by kernel_rfl)) ?_
  have cw5 := C_atN HC.out 5 _ rfl
  have RN := Aside0.mk (rcells_set ⟨n0, n1, n2, kx, ⟨x0, x1⟩, 0⟩ n5)
  go_upto_region 10 with (first | (go_at_call 59; refine (rule_number.calls w5 n5 _ (HLd.below HB.out) hN5.out).mono ?_; rintro e w13 ⟨rfl, hb⟩; have n0_ := Aside0.mk (blk_below BM2.out hb); have n1_ := Aside0.mk (below_step HB.out hb); have n2_ := Aside0.mk (blk_below BN.out hb); clear BM2 HB BN cw5 hb; have BM2 := n0_; have HB := n1_; have BN := n2_; clear n0_ n1_ n2_) | ((with_reducible refine gate_ (.store 3 (.tmp 56) (.tmp 55)) rfl ?_); refine store_part rfl rfl 3 (.tmp 56) (.tmp 55) rfl 6 (.int .i64 n5) [.int .i64 n5] rfl rfl rfl (by kernel_rfl) (int_one n5) BN.out (by show 6 + 1 ≤ 7; decide) ?_; intro w16 cur' hm hl hgr; have hcc := RN.out cur' hl; subst hcc; have n0_ := Aside0.mk (blk_grown BM2.out hgr NE9.out); have n1_ := Aside0.mk (pw_below_grown HB.out (some g9) HB.out.size hgr (fun k hk => by injection hk with hk; subst hk; exact GE9.out)); clear BM2 HB BN hgr; have BN := Aside0.mk hm; have BM2 := n0_; have HB := n1_; clear n0_ n1_ hm hl))
  by_cases hxe : xe = 0
  · subst hxe
    have H := HE.out
    unfold parseEnd at H
    rw [if_pos rfl] at H
    obtain ⟨ok, hRt0, H2⟩ := Option.bind_eq_some_iff.mp H
    clear H
    have hRt := Aside0.mk hRt0
    clear hRt0 HE
    have c0 := (blk_cell BN.out 0).trans (show _ = some (Value.int .i64 n0) from rfl)
    have c1 := (blk_cell BN.out 1).trans (show _ = some (Value.int .i64 n1) from rfl)
    have c2 := (blk_cell BN.out 2).trans (show _ = some (Value.int .i64 n2) from rfl)
    have c3 := (blk_cell BN.out 3).trans (show _ = some (Value.int .i64 kx) from rfl)
    have c4 := (blk_cell BN.out 4).trans (show _ = some (Value.int .u32 x0) from rfl)
    have c5 := (blk_cell BN.out 5).trans (show _ = some (Value.int .u32 x1) from rfl)
    have c6 := (blk_cell BN.out 6).trans (show _ = some (Value.int .i64 n5) from rfl)
    cases ok
    · rw [if_neg (by decide)] at H2
      have HE := Aside0.mk (Option.some.inj H2)
      clear H2
      go_wp2_with (first | (go_at_call 60; refine (rule_Right.calls _ _ _ _ _ _ _ _ _ hRt.out).mono ?_; rintro e w14 ⟨rfl, hb⟩; have n0_ := Aside0.mk (blk_below BM2.out hb); have n1_ := Aside0.mk (below_step HB.out hb); have n2_ := Aside0.mk (blk_below BN.out hb); clear BM2 HB BN c0 c1 c2 c3 c4 c5 c6 hb; have BM2 := n0_; have HB := n1_; have BN := n2_; clear n0_ n1_ n2_; have c0 := (blk_cell BN.out 0).trans (show _ = some (Value.int .i64 n0) from rfl); have c1 := (blk_cell BN.out 1).trans (show _ = some (Value.int .i64 n1) from rfl); have c2 := (blk_cell BN.out 2).trans (show _ = some (Value.int .i64 n2) from rfl); have c3 := (blk_cell BN.out 3).trans (show _ = some (Value.int .i64 kx) from rfl); have c4 := (blk_cell BN.out 4).trans (show _ = some (Value.int .u32 x0) from rfl); have c5 := (blk_cell BN.out 5).trans (show _ = some (Value.int .u32 x1) from rfl); have c6 := (blk_cell BN.out 6).trans (show _ = some (Value.int .i64 n5) from rfl)) | ((with_reducible refine gate_ (.store 27 (.tmp 2) (.tmp 70)) rfl ?_); refine store_block rfl rfl 27 (.tmp 2) (.tmp 70) rfl (rv z27) (rcells z27) rfl rfl rfl (by kernel_rfl) (rcells_one _) BM2.out rfl ?_; intro wz hm hgr))
      refine bodyPost_ret (results_ct rfl _ _ g2 27 (rcells z27).toArray (0, 0) _ rfl hm Tryz.underlying27 rfl (by kernel_rfl)) rfl ?_
      exact ⟨by first | rfl | (cases HE.out; rfl), pw_below_grown HB.out (some g2) HB.out.size hgr (fun k hk => by injection hk with hk; subst hk; exact GE2.out)⟩
    · rw [if_pos rfl] at H2
      obtain ⟨tx, hTx0, H3⟩ := Option.bind_eq_some_iff.mp H2
      clear H2
      have hTx := Aside0.mk hTx0
      clear hTx0
      cases hts : (tx.toList == s.toList)
      · rw [hts, if_neg (by decide)] at H3
        have HE := Aside0.mk (Option.some.inj H3)
        clear H3
        go_wp2_with (first | (go_at_call 60; refine (rule_Right.calls _ _ _ _ _ _ _ _ _ hRt.out).mono ?_; rintro e w14 ⟨rfl, hb⟩; have n0_ := Aside0.mk (blk_below BM2.out hb); have n1_ := Aside0.mk (below_step HB.out hb); have n2_ := Aside0.mk (blk_below BN.out hb); clear BM2 HB BN c0 c1 c2 c3 c4 c5 c6 hb; have BM2 := n0_; have HB := n1_; have BN := n2_; clear n0_ n1_ n2_; have c0 := (blk_cell BN.out 0).trans (show _ = some (Value.int .i64 n0) from rfl); have c1 := (blk_cell BN.out 1).trans (show _ = some (Value.int .i64 n1) from rfl); have c2 := (blk_cell BN.out 2).trans (show _ = some (Value.int .i64 n2) from rfl); have c3 := (blk_cell BN.out 3).trans (show _ = some (Value.int .i64 kx) from rfl); have c4 := (blk_cell BN.out 4).trans (show _ = some (Value.int .u32 x0) from rfl); have c5 := (blk_cell BN.out 5).trans (show _ = some (Value.int .u32 x1) from rfl); have c6 := (blk_cell BN.out 6).trans (show _ = some (Value.int .i64 n5) from rfl)) | (go_at_call 11; refine (rule_Text.calls _ _ _ _ _ _ _ tx _ (HLd.below HB.out) hTx.out).mono ?_; rintro e w15 ⟨rfl, hb⟩; have n0_ := Aside0.mk (blk_below BM2.out hb); have n1_ := Aside0.mk (below_step HB.out hb); have n2_ := Aside0.mk (blk_below BN.out hb); clear BM2 HB BN c0 c1 c2 c3 c4 c5 c6 hb; have BM2 := n0_; have HB := n1_; have BN := n2_; clear n0_ n1_ n2_; have c0 := (blk_cell BN.out 0).trans (show _ = some (Value.int .i64 n0) from rfl); have c1 := (blk_cell BN.out 1).trans (show _ = some (Value.int .i64 n1) from rfl); have c2 := (blk_cell BN.out 2).trans (show _ = some (Value.int .i64 n2) from rfl); have c3 := (blk_cell BN.out 3).trans (show _ = some (Value.int .i64 kx) from rfl); have c4 := (blk_cell BN.out 4).trans (show _ = some (Value.int .u32 x0) from rfl); have c5 := (blk_cell BN.out 5).trans (show _ = some (Value.int .u32 x1) from rfl); have c6 := (blk_cell BN.out 6).trans (show _ = some (Value.int .i64 n5) from rfl)) | ((with_reducible refine gate_ (.store 27 (.tmp 2) (.tmp 70)) rfl ?_); refine store_block rfl rfl 27 (.tmp 2) (.tmp 70) rfl (rv z27) (rcells z27) rfl rfl rfl (by kernel_rfl) (rcells_one _) BM2.out rfl ?_; intro wz hm hgr))
        refine bodyPost_ret (results_ct rfl _ _ g2 27 (rcells z27).toArray (0, 0) _ rfl hm Tryz.underlying27 rfl (by kernel_rfl)) rfl ?_
        exact ⟨by first | rfl | (cases HE.out; rfl), pw_below_grown HB.out (some g2) HB.out.size hgr (fun k hk => by injection hk with hk; subst hk; exact GE2.out)⟩
      · rw [hts, if_pos rfl] at H3
        have HE := Aside0.mk (Option.some.inj H3)
        clear H3
        go_wp2_with (first | (go_at_call 60; refine (rule_Right.calls _ _ _ _ _ _ _ _ _ hRt.out).mono ?_; rintro e w14 ⟨rfl, hb⟩; have n0_ := Aside0.mk (blk_below BM2.out hb); have n1_ := Aside0.mk (below_step HB.out hb); have n2_ := Aside0.mk (blk_below BN.out hb); clear BM2 HB BN c0 c1 c2 c3 c4 c5 c6 hb; have BM2 := n0_; have HB := n1_; have BN := n2_; clear n0_ n1_ n2_; have c0 := (blk_cell BN.out 0).trans (show _ = some (Value.int .i64 n0) from rfl); have c1 := (blk_cell BN.out 1).trans (show _ = some (Value.int .i64 n1) from rfl); have c2 := (blk_cell BN.out 2).trans (show _ = some (Value.int .i64 n2) from rfl); have c3 := (blk_cell BN.out 3).trans (show _ = some (Value.int .i64 kx) from rfl); have c4 := (blk_cell BN.out 4).trans (show _ = some (Value.int .u32 x0) from rfl); have c5 := (blk_cell BN.out 5).trans (show _ = some (Value.int .u32 x1) from rfl); have c6 := (blk_cell BN.out 6).trans (show _ = some (Value.int .i64 n5) from rfl)) | (go_at_call 11; refine (rule_Text.calls _ _ _ _ _ _ _ tx _ (HLd.below HB.out) hTx.out).mono ?_; rintro e w15 ⟨rfl, hb⟩; have n0_ := Aside0.mk (blk_below BM2.out hb); have n1_ := Aside0.mk (below_step HB.out hb); have n2_ := Aside0.mk (blk_below BN.out hb); clear BM2 HB BN c0 c1 c2 c3 c4 c5 c6 hb; have BM2 := n0_; have HB := n1_; have BN := n2_; clear n0_ n1_ n2_; have c0 := (blk_cell BN.out 0).trans (show _ = some (Value.int .i64 n0) from rfl); have c1 := (blk_cell BN.out 1).trans (show _ = some (Value.int .i64 n1) from rfl); have c2 := (blk_cell BN.out 2).trans (show _ = some (Value.int .i64 n2) from rfl); have c3 := (blk_cell BN.out 3).trans (show _ = some (Value.int .i64 kx) from rfl); have c4 := (blk_cell BN.out 4).trans (show _ = some (Value.int .u32 x0) from rfl); have c5 := (blk_cell BN.out 5).trans (show _ = some (Value.int .u32 x1) from rfl); have c6 := (blk_cell BN.out 6).trans (show _ = some (Value.int .i64 n5) from rfl)) | ((with_reducible refine gate_ (.store 27 (.tmp 2) (.tmp 71)) rfl ?_); refine store_block rfl rfl 27 (.tmp 2) (.tmp 71) rfl (rv (⟨n0, n1, n2, kx, ⟨x0, x1⟩, n5⟩ : Rl)) (rcells (⟨n0, n1, n2, kx, ⟨x0, x1⟩, n5⟩ : Rl)) rfl rfl rfl (by kernel_rfl) (rcells_one _) BM2.out rfl ?_; intro wz hm hgr))
        refine bodyPost_ret (results_ct rfl _ _ g2 27 (rcells (⟨n0, n1, n2, kx, ⟨x0, x1⟩, n5⟩ : Rl)).toArray (0, 0) _ rfl hm Tryz.underlying27 rfl (by kernel_rfl)) rfl ?_
        exact ⟨by first | rfl | (cases HE.out; rfl), pw_below_grown HB.out (some g2) HB.out.size hgr (fun k hk => by injection hk with hk; subst hk; exact GE2.out)⟩
  · have H := HE.out
    unfold parseEnd at H
    rw [if_neg hxe] at H
    clear HE
    have HE := Aside0.mk (Option.some.inj H)
    clear H
    have d1 : (xe != 0) = true := by simpa using hxe
    have d2 : decide (xe = 0) = false := decide_eq_false hxe
    have d3 : (xe == 0) = false := by simpa using hxe
    have d4 : (xe = 0) = False := eq_false hxe
    go_wp2_with ((with_reducible refine gate_ (.store 27 (.tmp 2) (.tmp 70)) rfl ?_); refine store_block rfl rfl 27 (.tmp 2) (.tmp 70) rfl (rv z27) (rcells z27) rfl rfl rfl (by kernel_rfl) (rcells_one _) BM2.out rfl ?_; intro wz hm hgr)
    refine bodyPost_ret (results_ct rfl _ _ g2 27 (rcells z27).toArray (0, 0) _ rfl hm Tryz.underlying27 rfl (by kernel_rfl)) rfl ?_
    exact ⟨by first | rfl | (cases HE.out; rfl), pw_below_grown HB.out (some g2) HB.out.size hgr (fun k hk => by injection hk with hk; subst hk; exact GE2.out)⟩
set_option maxHeartbeats 2000000 in
set_option maxRecDepth 100000 in
theorem parseBad_calls (s : ByteArray) (r1 r2 r3 r4 r5 r6 r7 r8 : Int) (w : World) (HLd : Laid w) (ws : List ByteArray) (hS : strings_Split.f s ⟨#[32]⟩ = some ws) (h5 : ws.length ≠ 5) (h6 : ws.length ≠ 6) (h : pErr = (r1, r2, r3, r4, r5, r6, r7, r8)) :
    Calls Tryz.prog 14 #[.string s] w fun e w' => e = .returned (.tuple #[.agg #[.int .i64 r1, .int .i64 r2, .int .i64 r3, .int .i64 r4, .int .u32 r5, .int .u32 r6, .int .i64 r7], .int .i64 r8]) ∧ Below w.heap.size w w' := by
  have hS := Aside0.mk hS
  have HE := Aside0.mk h
  clear h
  have hu45 := Tryz.underlying27
  have HB := Aside0.mk (Below.refl w.heap.size w)
  have d1 : ((ws.length : Int) != 5) = true := by simp; omega
  have d2 : decide ((ws.length : Int) = 5) = false := decide_eq_false (by omega)
  have d3 : ((ws.length : Int) == 5) = false := by simp; omega
  have d5 : ((ws.length : Int) != 6) = true := by simp; omega
  have d6 : decide ((ws.length : Int) = 6) = false := decide_eq_false (by omega)
  have d7 : ((ws.length : Int) == 6) = false := by simp; omega
  go_enter Tryz.func14, Tryz.ntmps14
  go_wp2_with (first | ((with_reducible refine gate_dst (N := 2) rfl ?_); refine box_event ?hg (N := 2) ?hd (cs := #[.int .i64 0, .int .i64 0, .int .i64 0, .int .i64 0, .int .u32 0, .int .u32 0, .int .i64 0]) (t := 27) ?hr ?_; (case hd => rfl); (case hg => rfl); (case hr => first | (go_simp; done) | (go_simp; rfl)); intro g2 hg w6 hbox hb; have BM2 := Aside0.mk hbox; have GE2 := Aside0.mk (show w.heap.size ≤ g2 by rw [hg]; exact below_size HB.out); have n1_ := Aside0.mk (below_step HB.out hb); clear HB; have HB := n1_; clear n1_ hb hbox hg) | (go_at_call 56; refine (strings_Split.calls _ _ _ _ (HLd.below HB.out) hS.out).mono ?_; rintro e w7 ⟨v8, rfl, hR, hb⟩; have n0_ := Aside0.mk (blk_below BM2.out hb); have n1_ := Aside0.mk (below_step HB.out hb); obtain ⟨A8, c8, hv8, hc8, hC8⟩ := Kd.R_reads hR; subst hv8; clear BM2 HB hb hR hC8 hc8; have BM2 := n0_; have HB := n1_; clear n0_ n1_) | ((with_reducible refine gate_ (.store 27 (.tmp 2) (.tmp 20)) rfl ?_); refine store_block rfl rfl 27 (.tmp 2) (.tmp 20) rfl (rv z27) (rcells z27) rfl rfl rfl (by kernel_rfl) (rcells_one _) BM2.out rfl ?_; intro wz hm hgr))
  refine bodyPost_ret (results_ct rfl _ _ g2 27 (rcells z27).toArray (0, 0) _ rfl hm Tryz.underlying27 rfl (by kernel_rfl)) rfl ?_
  exact ⟨by first | rfl | (cases HE.out; rfl), pw_below_grown HB.out (some g2) HB.out.size hgr (fun k hk => by injection hk with hk; subst hk; exact GE2.out)⟩

theorem rule_Parse.calls (a0 : ByteArray) (r1 r2 r3 r4 r5 r6 r7 r8 : Int) (w : World) (HLd : Laid w) (h : rule_Parse.f a0 = some (r1, r2, r3, r4, r5, r6, r7, r8)) :
    Calls Tryz.prog 14 #[.string a0] w fun e w' => e = .returned (.tuple #[.agg #[.int .i64 r1, .int .i64 r2, .int .i64 r3, .int .i64 r4, .int .u32 r5, .int .u32 r6, .int .i64 r7], .int .i64 r8]) ∧ Below w.heap.size w w' := by
  unfold rule_Parse.f at h
  obtain ⟨ws, hS, h⟩ := Option.bind_eq_some_iff.mp h
  match ws, hS, h with
  | [w0, w1, w2, w3, w4], hS, h =>
    simp only at h
    obtain ⟨kx, hk, h⟩ := Option.bind_eq_some_iff.mp h
    obtain ⟨⟨x0, x1, xe⟩, hx, h⟩ := Option.bind_eq_some_iff.mp h
    obtain ⟨n0, hn0, h⟩ := Option.bind_eq_some_iff.mp h
    obtain ⟨n1, hn1, h⟩ := Option.bind_eq_some_iff.mp h
    obtain ⟨n2, hn2, h⟩ := Option.bind_eq_some_iff.mp h
    exact parse5_calls a0 _ _ _ _ _ _ _ _ w HLd _ _ _ _ _ _ _ _ _ _ _ _ hS hk hx hn0 hn1 hn2 h
  | [w0, w1, w2, w3, w4, w5], hS, h =>
    simp only at h
    obtain ⟨kx, hk, h⟩ := Option.bind_eq_some_iff.mp h
    obtain ⟨⟨x0, x1, xe⟩, hx, h⟩ := Option.bind_eq_some_iff.mp h
    obtain ⟨n0, hn0, h⟩ := Option.bind_eq_some_iff.mp h
    obtain ⟨n1, hn1, h⟩ := Option.bind_eq_some_iff.mp h
    obtain ⟨n2, hn2, h⟩ := Option.bind_eq_some_iff.mp h
    obtain ⟨n5, hn5, h⟩ := Option.bind_eq_some_iff.mp h
    exact parse6_calls a0 _ _ _ _ _ _ _ _ w HLd _ _ _ _ _ _ _ _ _ _ _ _ _ _ hS hk hx hn0 hn1 hn2 hn5 h
  | [], hS, h => exact parseBad_calls a0 _ _ _ _ _ _ _ _ w HLd _ hS (by decide) (by decide) (by simpa using h)
  | [_], hS, h => exact parseBad_calls a0 _ _ _ _ _ _ _ _ w HLd _ hS (by simp) (by simp) (by simpa using h)
  | [_, _], hS, h => exact parseBad_calls a0 _ _ _ _ _ _ _ _ w HLd _ hS (by simp) (by simp) (by simpa using h)
  | [_, _, _], hS, h => exact parseBad_calls a0 _ _ _ _ _ _ _ _ w HLd _ hS (by simp) (by simp) (by simpa using h)
  | [_, _, _, _], hS, h => exact parseBad_calls a0 _ _ _ _ _ _ _ _ w HLd _ hS (by simp) (by simp) (by simpa using h)
  | _ :: _ :: _ :: _ :: _ :: _ :: _ :: r, hS, h => exact parseBad_calls a0 _ _ _ _ _ _ _ _ w HLd _ hS (by simp) (by simp) (by simpa using h)
end Go.Proofs.YtfjamikpahmfhaaGreatDoor.P
