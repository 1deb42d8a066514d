/- Texts of the session's and of the print's, put together by a program. -/
import Derived.Test.YtfjamikpahmfhaaGreatDoorQT2
set_option linter.unusedVariables false
set_option linter.unusedSimpArgs false
section
open List renaming map_toArray → mA_, map_cons → mC_, map_nil → mN_, length_drop → lD_, length_take → lT_, setIfInBounds_toArray → sI_, set_cons_zero → z0_, set_cons_succ → z1_
namespace Go.Proofs.YtfjamikpahmfhaaGreatDoor.P
open Go.RowKit Go.Proofs.YtfjamikpahmfhaaGreatDoorW.PrintWords Go.Proofs.YtfjamikpahmfhaaGreatDoorW.PrintLast Go.Proofs.YtfjamikpahmfhaaGreatDoorW.PrintMore
set_option linter.unusedVariables false
set_option linter.unusedSimpArgs false
theorem C_at {w : World} {ad : Addr} {n : Nat} {ws : List ByteArray} (h : Kd.C Kd.string w (some ad) n ws) (j : Nat) (x : ByteArray) (hj : ws[j]? = some x) : w.cell? (ad.add j) = some (.string x) := by
 have hl : j < ws.length := (List.getElem?_eq_some_iff.1 hj).1
 obtain ⟨ad', e, hcell⟩ := h.2.2 (by have := h.1; omega)
 cases e
 obtain ⟨cs, hl2, hk, hcs⟩ := hcell j x hj
 have : cs = [.string x] := hk
 subst this
 have h3 := hcs 0 (.string x) rfl
 have e1 : Kd.string.sz = 1 := rfl
 rw [e1, Nat.mul_one, Nat.add_zero] at h3
 exact h3
theorem C_block {w : World} {g : Nat} {ws : List ByteArray} {t : TypeId} (h : w.heap[g]? = some (.cells (ws.map Value.string).toArray t (0, 0))) (hl : ws.length ≤ 9223372036854775807 := by decide) : Kd.C Kd.string w (some ⟨g, 0, none⟩) ws.length ws := by
 refine ⟨rfl, hl, fun _ => ⟨_, rfl, fun j x hj => ⟨[.string x], rfl, rfl, fun i u hi => ?_⟩⟩⟩
 match i, hi with
 | 0, hi =>
  cases hi
  have e1 : Kd.string.sz = 1 := rfl
  rw [e1, Nat.mul_one, Nat.add_zero, addr_add0, blk_cell h j]
  simp [hj]
theorem C_spot {w : World} {ad : Addr} {n : Nat} {x : ByteArray} {ws : List ByteArray} (h : Kd.C Kd.string w (some ad) n ws) (hj : ws[0]? = some x) : ad = ⟨ad.block, ad.off, none⟩ := by
 have h3 := C_at h 0 x hj
 obtain ⟨bk, o, spot⟩ := ad
 have e2 : (⟨bk, o, spot⟩ : Addr).add 0 = ⟨bk, o, spot⟩ := rfl
 rw [e2] at h3
 cases spot with
 | none => rfl
 | some s =>
  simp only [World.cell?] at h3
  split at h3
  ·simp at h3
  ·cases h3
theorem C_atN {w : World} {bk o : Nat} {n : Nat} {ws : List ByteArray} (h : Kd.C Kd.string w (some ⟨bk, o, none⟩) n ws) (j : Nat) (x : ByteArray) (hj : ws[j]? = some x) : w.cell? ⟨bk, o + j, none⟩ = some (.string x) := by
 have h3 := C_at h j x hj
 rw [show (⟨bk, o, none⟩ : Addr).add j = ⟨bk, o + j, none⟩ by unfold Addr.add; split <;> simp_all] at h3
 exact h3
theorem C_grownS {W w1 : World} {ad : Addr} {n g : Nat} {l : List ByteArray} (h : Kd.C Kd.string W (some ad) n l) (hg : W.grownBy w1 (some g)) (hne : ad.block ≠ g) : Kd.C Kd.string w1 (some ad) n l := by
 refine ⟨h.1, h.2.1, fun h0 => ?_⟩
 obtain ⟨ad', e, hc⟩ := h.2.2 h0
 cases e
 refine ⟨ad, rfl, fun j p hj => ?_⟩
 obtain ⟨c, hl, hk, hcs⟩ := hc j p hj
 refine ⟨c, hl, hk, fun i u hi => ?_⟩
 have h1 := hcs i u hi
 have hlt := World.block_lt_of_cell? W _ h1
 rw [addr_add_block] at hlt
 have hb := hg.block ad.block hlt (fun he => hne (by injection he))
 rw [← h1]
 unfold World.cell?
 rw [addr_add_block, hb]
theorem index4_calls (g : Nat) (x : ByteArray) (kx : Int) (w : World) (h : w.heap[g]? = some (.cells #[.string wForward, .string wDrop, .string wPermit, .string wDeny] 93 (0, 0))) (hk : slices_Index_string_string.f 5 [wForward, wDrop, wPermit, wDeny] x = some kx) :
  Calls Tryz.prog 57 #[.slice (some ⟨g, 0, none⟩) 4 4, .string x] w fun e w' => e = .returned (.int .i64 kx) ∧ Drawn0 w w' :=
 slices_Index_string_string.calls 5 _ 4 [wForward, wDrop, wPermit, wDeny] x kx w (C_block (ws := [wForward, wDrop, wPermit, wDeny]) h) (by decide) hk
def pErr : Int × Int × Int × Int × Int × Int × Int × Int := (0, 0, 0, 0, 0, 0, 0, 71)
def parseEnd (s : ByteArray) (n0 n1 n2 kx : Int) (x : Int × Int × Int) (n5 : Int) : Option (Int × Int × Int × Int × Int × Int × Int × Int) :=
 if x.2.2 = 0 then
  (rule_Right.f n0 n1 n2 kx x.1 x.2.1 n5).bind fun ok =>
   if ok = true then (rule_Text.f n0 n1 n2 kx x.1 x.2.1 n5).bind fun t => if (t.toList == s.toList) = true then some (n0, n1, n2, kx, x.1, x.2.1, n5, 0) else some pErr
   else some pErr
 else some pErr
def rule_Parse.f (s : ByteArray) : Option (Int × Int × Int × Int × Int × Int × Int × Int) :=
 (strings_Split.f s ⟨#[32]⟩).bind fun ws => match ws with
  | [w0, w1, w2, w3, w4] => (slices_Index_string_string.f 5 [wForward, wDrop, wPermit, wDeny] w3).bind fun kx => (prefix_ParseRange.f 7 w4).bind fun x => (rule_number.f w0).bind fun n0 => (rule_number.f w1).bind fun n1 => (rule_number.f w2).bind fun n2 => parseEnd s n0 n1 n2 kx x 0
  | [w0, w1, w2, w3, w4, w5] => (slices_Index_string_string.f 5 [wForward, wDrop, wPermit, wDeny] w3).bind fun kx => (prefix_ParseRange.f 7 w4).bind fun x => (rule_number.f w0).bind fun n0 => (rule_number.f w1).bind fun n1 => (rule_number.f w2).bind fun n2 => (rule_number.f w5).bind fun n5 => parseEnd s n0 n1 n2 kx x n5
  | ws => if ws.length = 5 ∨ ws.length = 6 then none else some pErr
def rule_Parse.T5 : Bool × List (List Nat × List Nat) := (true, [([], []), ([], []), ([1], [1]), ([2], [2]), ([0, 3], [0, 3]), ([4, 4, 0, 1, 2, 3, 4], [4])])
def rule_Parse.B5 : List Nat := [0, 0, 2, 6, 15, 31]
theorem rule_Parse.tab5 : rtab .any (opsOf Tryz.f14 5) = rule_Parse.T5 := by kernel_rfl
theorem rule_Parse.bits5 : waitsOk rule_Parse.T5.2 rule_Parse.B5 = true := by kernel_rfl
def rule_Parse.T7 : Bool × List (List Nat × List Nat) := (true, [([], []), ([0], [0]), ([1], [1]), ([2], [2]), ([], []), ([4], [4]), ([5], [5]), ([6, 3], [6]), ([], []), ([8], [8]), ([9], [9]), ([10, 7], [10]), ([], []), ([], []), ([3, 7, 11, 12, 13], [3, 7, 11, 12, 13]), ([], []), ([15, 14, 11, 0, 1, 2, 3, 4, 5, 6, 7, 8, 9, 10, 11, 12, 13, 14, 15], [14, 15])])
def rule_Parse.B7 : List Nat := [0, 1, 3, 7, 0, 16, 48, 127, 0, 256, 768, 2047, 0, 0, 16383, 0, 65535]
theorem rule_Parse.tab7 : rtab .any (opsOf Tryz.f14 7) = rule_Parse.T7 := by kernel_rfl
theorem rule_Parse.bits7 : waitsOk rule_Parse.T7.2 rule_Parse.B7 = true := by kernel_rfl
section
variable {P : Program} {ops : Array Oper} {Q : Exit → Act → World → Prop}
theorem storeK_ {oi : Oper} {a : Act} {W : World} {K : Act → World → Prop} (hw : Region.wanted oi (yielded ops a.tmps) = true) (hN : oi.dst = none) (t : TypeId) (p x : Operand) (ho : oi.op = .store t p x) {g : Nat} {te : TypeId} {cur : Array Value} (u : Value) (seg : List Value) (haddr : a.eval p = .pointer (some ⟨g, 0, none⟩)) (hx : a.eval x = u) (hu : u.cells.toList = seg)
  (ht : (P.info? t).map (·.size) = some seg.length) (h1 : ∀ q ∈ seg, q.oneCell' = true) (hh : W.heap[g]? = some (.cells cur te (0, 0))) (hsz : cur.size = seg.length)
  (h : ∀ w1, w1.heap[g]? = some (.cells seg.toArray te (0, 0)) → W.grownBy w1 (some g) → K a w1) : if Region.wanted oi (yielded ops a.tmps) = true then Oper.wp P oi a W K Q else K (a.put none undef) W := by
 obtain ⟨cur', h3, h4, h5⟩ := setCells_row seg 0 W cur hh (by omega)
 obtain ⟨s1, s2, s3, s4⟩ := setCells_same g seg 0 W
 have hg : W.grownBy (W.setCells g 0 seg) (some g) := ⟨s1, s2, s3, by rw [s4]; exact Nat.le_refl _, fun k _ hk => setCells_far seg 0 k (fun he => hk (by rw [he]))⟩
 have hc : cur' = seg.toArray := by
  apply Array.ext'
  rw [h5]
  simp [List.drop_eq_nil_of_le, hsz]
 subst hc
 have hrun : (Instr.storeAt t (.pointer (some ⟨g, 0, none⟩)) u).run P W = .ok () (W.setCells g 0 seg) := run_store_run t u seg hh hu ht (by omega) h1
 rw [if_pos hw]
 unfold Oper.wp execOp
 simp only [ho, haddr, hx, Sem.run_bind, Sem.run_pure, Result.andThen_ok, hrun]
 show K (a.put oi.dst undef) _
 rw [hN]
 exact h _ h3 hg
end
theorem kindWords_one : ∀ q ∈ ([.string wForward, .string wDrop, .string wPermit, .string wDeny] : List Value), q.oneCell' = true := by
 intro q hq
 simp only [List.mem_cons, List.not_mem_nil, or_false] at hq
 rcases hq with rfl | rfl | rfl | rfl <;> rfl
theorem range_one (x0 x1 : Int) : ∀ q ∈ ([.int .u32 x0, .int .u32 x1] : List Value), q.oneCell' = true := by
 intro q hq
 simp only [List.mem_cons, List.not_mem_nil, or_false] at hq
 rcases hq with rfl | rfl <;> rfl
theorem ne_of_blk {W : World} {g g' : Nat} {o : Obj} (h : W.heap[g]? = some o) (hg : g' = W.heap.size) : some g ≠ some g' := by
 have := blk_lt h
 intro he
 injection he with he
 omega
theorem int_one (n : Int) : ∀ q ∈ ([.int .i64 n] : List Value), q.oneCell' = true := by
 intro q hq
 simp only [List.mem_cons, List.not_mem_nil, or_false] at hq
 subst hq; rfl
theorem rcells_set (x : Rl) (n : Int) : ∀ cur' : Array Value, cur'.toList = (rcells x).toArray.toList.take 6 ++ [.int .i64 n] ++ (rcells x).toArray.toList.drop (6 + ([.int .i64 n] : List Value).length) → cur' = (rcells ⟨x.f0, x.f1, x.f2, x.f3, x.f4, n⟩).toArray := by
 intro cur' h
 apply Array.ext'
 rw [h]
 rfl
section
variable {P : Program} {ops : Array Oper} {rest : List Oper} {o : Oper} {a : Act} {Q : Exit → Act → World → Prop}
theorem store_part {W : World} (hN : o.dst = none) (hgd : o.guard = none) (t : TypeId) (p x : Operand) (ho : o.op = .store t p x) {g : Nat} (off : Nat) {te : TypeId} {cur : Array Value} (u : Value) (seg : List Value) (haddr : a.eval p = .pointer (some ⟨g, off, none⟩)) (hx : a.eval x = u) (hu : u.cells.toList = seg)
  (ht : (P.info? t).map (·.size) = some seg.length) (h1 : ∀ q ∈ seg, q.oneCell' = true) (hh : W.heap[g]? = some (.cells cur te (0, 0))) (hsz : off + seg.length ≤ cur.size)
  (h : ∀ w1 cur', w1.heap[g]? = some (.cells cur' te (0, 0)) → cur'.toList = cur.toList.take off ++ seg ++ cur.toList.drop (off + seg.length) → W.grownBy w1 (some g) → wpList P ops Q rest a w1) : wpList P ops Q (o :: rest) a W := by
 obtain ⟨cur', h3, h4, h5⟩ := setCells_row seg off W cur hh hsz
 obtain ⟨s1, s2, s3, s4⟩ := setCells_same g seg off W
 have hg : W.grownBy (W.setCells g off seg) (some g) := ⟨s1, s2, s3, by rw [s4]; exact Nat.le_refl _, fun k _ hk => setCells_far seg off k (fun he => hk (by rw [he]))⟩
 refine wpList_plain hgd fun K hK => ?_
 have hrun : (Instr.storeAt t (.pointer (some ⟨g, off, none⟩)) u).run P W = .ok () (W.setCells g off seg) := run_store_run t u seg hh hu ht hsz h1
 unfold Oper.wp execOp
 simp only [ho, haddr, hx, Sem.run_bind, Sem.run_pure, Result.andThen_ok, hrun]
 show K (a.put o.dst undef) _
 rw [hN]
 exact hK a _ (h _ cur' h3 h5 hg)
end
set_option maxHeartbeats 8000000 in
set_option maxRecDepth 100000 in
theorem parse5_calls (s : ByteArray) (r1 r2 r3 r4 r5 r6 r7 r8 : Int) (w : World) (HLd : Laid w) (w0 w1 w2 w3 w4 : ByteArray) (kx : Int) (x0 x1 xe n0 n1 n2 : Int) (hS : strings_Split.f s ⟨#[32]⟩ = some [w0, w1, w2, w3, w4])
  (hk : slices_Index_string_string.f 5 [wForward, wDrop, wPermit, wDeny] w3 = some kx) (hx : prefix_ParseRange.f 7 w4 = some (x0, x1, xe)) (hn0 : rule_number.f w0 = some n0) (hn1 : rule_number.f w1 = some n1) (hn2 : rule_number.f w2 = some n2) (h : parseEnd s n0 n1 n2 kx (x0, x1, xe) 0 = some (r1, r2, r3, r4, r5, r6, r7, r8)) :
  Calls Tryz.prog 14 #[.string s] w fun e w' => e = .returned (.tuple #[.agg #[.int .i64 r1, .int .i64 r2, .int .i64 r3, .int .i64 r4, .int .u32 r5, .int .u32 r6, .int .i64 r7], .int .i64 r8]) ∧ Below w.heap.size w w' := by
 have hKX := Aside0.mk hk
 have hS := Aside0.mk hS
 have hX := Aside0.mk hx
 have hN0 := Aside0.mk hn0
 have hN1 := Aside0.mk hn1
 have hN2 := Aside0.mk hn2
 have HE := Aside0.mk h
 clear hk hx hn0 hn1 hn2 h
 have hu45 := Tryz.underlying27
 have hu26 := Tryz.underlying25
 have hu58 := Tryz.underlying88
 have hu74 := Tryz.underlying93
 have HB := Aside0.mk (Below.refl w.heap.size w)
 go_enter Tryz.func14, Tryz.ntmps14
 go_upto_region 5 with (first | ((with_reducible refine gate_dst (N := 2) rfl ?_); refine box_event ?hg (N := 2) ?hd (cs := #[.int .i64 0, .int .i64 0, .int .i64 0, .int .i64 0, .int .u32 0, .int .u32 0, .int .i64 0]) (t := 27) ?hr ?_; (case hd => rfl); (case hg => rfl); (case hr => first | (go_simp; done) | (go_simp; rfl)); intro g2 hg w6 hbox hb; have BM2 := Aside0.mk hbox; have GE2 := Aside0.mk (show w.heap.size ≤ g2 by rw [hg]; exact below_size HB.out); have n1_ := Aside0.mk (below_step HB.out hb); clear HB; have HB := n1_; clear n1_ hb hbox hg) | (go_at_call 56; refine (strings_Split.calls _ _ _ _ (HLd.below HB.out) hS.out).mono ?_; rintro e w7 ⟨v8, rfl, hR, hb⟩; have n0_ := Aside0.mk (blk_below BM2.out hb); have n1_ := Aside0.mk (below_step HB.out hb); obtain ⟨A8, c8, hv8, hc8, hC8⟩ := Kd.R_reads hR; subst hv8; obtain ⟨ad, hA8, _⟩ := hC8.2.2 (show 0 < 5 by decide); subst hA8; have hsp := C_spot hC8 rfl; generalize ad.block = bk at hsp; generalize ad.off = oo at hsp; subst hsp; have HC := Aside0.mk hC8; clear BM2 HB hb hR hC8; have BM2 := n0_; have HB := n1_; clear n0_ n1_) | (go_at_call 47; refine (rule_named_calls _).mono ?_; rintro e w8 ⟨rfl, hb⟩; have n0_ := Aside0.mk (blk_below BM2.out hb); have n1_ := Aside0.mk (below_step HB.out hb); have n2_ := Aside0.mk (Kd.C_below HC.out hb); clear BM2 HB HC hb; have BM2 := n0_; have HB := n1_; have HC := n2_; clear n0_ n1_ n2_) | ((with_reducible refine gate_dst (N := 5) rfl ?_); refine box_event ?hg (N := 5) ?hd (cs := #[.string ⟨#[]⟩, .string ⟨#[]⟩, .string ⟨#[]⟩, .string ⟨#[]⟩]) (t := 93) ?hr ?_; (case hd => rfl); (case hg => rfl); (case hr => first | (go_simp; done) | (go_simp; rfl)); intro g5 hg w9 hbox hb; have NE25 := Aside0.mk (ne_of_blk BM2.out hg); have CG5 := Aside0.mk (show (⟨bk, oo, none⟩ : Addr).block ≠ g5 by have := World.block_lt_of_cell? _ _ (C_atN HC.out 0 _ rfl); simp only at this ⊢; omega); have GE5 := Aside0.mk (show w.heap.size ≤ g5 by rw [hg]; exact below_size HB.out); have BM5 := Aside0.mk hbox; have n0_ := Aside0.mk (blk_below BM2.out hb); have n1_ := Aside0.mk (below_step HB.out hb); have n2_ := Aside0.mk (Kd.C_below HC.out hb); clear BM2 HB HC hb hbox hg; have BM2 := n0_; have HB := n1_; have HC := n2_; clear n0_ n1_ n2_) | ((with_reducible refine gate_ (.store 93 (.tmp 5) (.tmp 21)) rfl ?_); refine store_block rfl rfl 93 (.tmp 5) (.tmp 21) rfl kindWords [.string wForward, .string wDrop, .string wPermit, .string wDeny] rfl rfl rfl (by kernel_rfl) kindWords_one BM5.out rfl ?_; intro w10 hm hgr; have n0_ := Aside0.mk (blk_grown BM2.out hgr NE25.out); have n1_ := Aside0.mk (pw_below_grown HB.out (some g5) HB.out.size hgr (fun k hk => by injection hk with hk; subst hk; exact GE5.out)); have n2_ := Aside0.mk (C_grownS HC.out hgr CG5.out); clear BM2 HB HC BM5; have BM5 := Aside0.mk hm; have BM2 := n0_; have HB := n1_; have HC := n2_; clear n0_ n1_ n2_ hm hgr))
 have n0_ := Aside0.mk (blk_drew BM2.out)
 have n1_ := Aside0.mk (below_drew1 HB.out)
 have n2_ := Aside0.mk (Kd.C_below HC.out (below_drew1 (Below.refl _ _)))
 have n3_ := Aside0.mk (blk_drew BM5.out)
 clear BM2 HB HC BM5
 have BM2 := n0_
 have HB := n1_
 have HC := n2_
 have BM5 := n3_
 clear n0_ n1_ n2_ n3_
 refine start_ (n := 6) (S := fun w' => w'.cell? ⟨bk, oo + 3, none⟩ = some (.string w3)) (ds := [4]) #[false, false, false, false, false, false] (by kernel_rfl) rfl rfl (C_atN HC.out 3 _ rfl) (fun hHeld => ?_)
 refine with_tabW rule_Parse.tab5 rule_Parse.bits5 (fun HT_ HW_ => ?_)
 generalize World.drew _ = w7 at HC HB BM2 BM5 hHeld ⊢
 refine pure_ (i := 0) (N := some 22) (v := ?_) (a' := ?_) #[true, false, false, false, false, false] rfl rfl (any_of HT_.out (by kernel_rfl)) (fun _ _ _ h => h) (Or.inl ⟨by rfl, ?_⟩) ?_ ?_
 rotate_left
 ·intro w'
  go_simp
  with_reducible rfl
 rotate_left
 ·simp only [Act.put, sI_, z0_, z1_, i64_w, i32_w]
  rfl
 refine pure_ (i := 1) (N := some 23) (v := ?_) (a' := ?_) #[true, true, false, false, false, false] rfl rfl (any_of HT_.out (by kernel_rfl)) (fun _ _ _ h => h) (Or.inl ⟨by rfl, ?_⟩) ?_ ?_
 rotate_left
 ·intro w'
  go_simp
  with_reducible rfl
 rotate_left
 ·simp only [Act.put, sI_, z0_, z1_, i64_w, i32_w]
  rfl
 refine pure_ (i := 2) (N := some 24) (v := ?_) (a' := ?_) #[true, true, true, false, false, false] rfl rfl (any_of HT_.out (by kernel_rfl)) (fun _ _ _ h => h) (Or.inl ⟨by rfl, ?_⟩) ?_ ?_
 rotate_left
 ·intro w'
  go_simp
  with_reducible rfl
 rotate_left
 ·simp only [Act.put, sI_, z0_, z1_, i64_w, i32_w]
  rfl
 refine take_ (i := 3) (N := some 25) (v := ?_) (a' := ?_) #[true, true, true, true, false, false] rfl rfl (take_ofW HT_.out HW_.out (by kernel_rfl)) (fun _ _ _ h => h) (Or.inl ⟨by rfl, ?_⟩) hHeld ?_ ?_
 rotate_left
 ·intro w' s0
  go_simp
  with_reducible rfl
 rotate_left
 ·simp only [Act.put, sI_, z0_, z1_, i64_w, i32_w]
  rfl
 refine last_ (i := 4) (N := some 26) #[true, true, true, true, true, false] rfl rfl (one_of HT_.out (by kernel_rfl)) (by decide) (fun K hK => ?_)
 refine goes_ Tryz.func57 (by kernel_rfl) rfl #[.slice (some ⟨g5, 0, none⟩) 4 4, .string w3] (by rfl) rfl rfl (by simp only [mA_, mC_, mN_]; rfl) ?_
 with_reducible refine (index4_calls _ _ _ _ BM5.out hKX.out).mono ?_
 rintro e w4 ⟨rfl, ⟨nd, rfl⟩⟩
 refine ⟨_, rfl, ?_⟩
 refine hK.out _ _ ?_
 clear hK K
 refine norm_ (a' := ?_) ?_ ?_
 rotate_left
 ·show Act.put _ (some 26) _ = _
  simp only [Act.put, sI_, z0_, z1_, i64_w, i32_w]
  rfl
 refine pure_ (i := 5) (N := some 6) (v := ?_) (a' := ?_) #[true, true, true, true, true, true] rfl rfl (any_of HT_.out (by kernel_rfl)) (fun _ _ _ h => h) (Or.inl ⟨by rfl, ?_⟩) ?_ ?_
 rotate_left
 ·intro w'
  go_simp
  with_reducible rfl
 rotate_left
 ·simp only [Act.put, sI_, z0_, z1_, i64_w, i32_w]
  rfl
 refine done_ (done_of HT_.out (by kernel_rfl)) ?_
 clear BM5 NE25 CG5 GE5
 have n0_ := Aside0.mk (blk_drewN BM2.out nd)
 have n1_ := Aside0.mk (pw_below_drewN HB.out nd)
 have n2_ := Aside0.mk (Kd.C_below HC.out (pw_below_drewN (Below.refl _ _) nd))
 clear BM2 HB HC
 have BM2 := n0_
 have HB := n1_
 have HC := n2_
 clear n0_ n1_ n2_
 have c4 := C_atN HC.out 4 _ rfl
 go_upto_region 7 with (first | (go_at_call 58; refine (prefix_ParseRange.calls 7 w4 x0 x1 xe _ (HLd.below HB.out) hX.out).mono ?_; rintro e w11 ⟨rfl, hb⟩; have n0_ := Aside0.mk (blk_below BM2.out hb); have n1_ := Aside0.mk (below_step HB.out hb); have n2_ := Aside0.mk (Kd.C_below HC.out hb); clear BM2 HB HC c4 hb; have BM2 := n0_; have HB := n1_; have HC := n2_; clear n0_ n1_ n2_) | ((with_reducible refine gate_dst (N := 7) rfl ?_); refine box_event ?hg (N := 7) ?hd (cs := #[.int .u32 0, .int .u32 0]) (t := 25) ?hr ?_; (case hd => rfl); (case hg => rfl); (case hr => first | (go_simp; done) | (go_simp; rfl)); intro g7 hg w12 hbox hb; have NE27 := Aside0.mk (ne_of_blk BM2.out hg); have CG7 := Aside0.mk (show (⟨bk, oo, none⟩ : Addr).block ≠ g7 by have := World.block_lt_of_cell? _ _ (C_atN HC.out 0 _ rfl); simp only at this ⊢; omega); have GE7 := Aside0.mk (show w.heap.size ≤ g7 by rw [hg]; exact below_size HB.out); have B7 := Aside0.mk hbox; have n0_ := Aside0.mk (blk_below BM2.out hb); have n1_ := Aside0.mk (below_step HB.out hb); have n2_ := Aside0.mk (Kd.C_below HC.out hb); clear BM2 HB HC hb hbox hg; have BM2 := n0_; have HB := n1_; have HC := n2_; clear n0_ n1_ n2_) | ((with_reducible refine gate_ (.store 25 (.tmp 7) (.tmp 32)) rfl ?_); refine store_block rfl rfl 25 (.tmp 7) (.tmp 32) rfl (.agg #[.int .u32 x0, .int .u32 x1]) [.int .u32 x0, .int .u32 x1] rfl rfl rfl (by kernel_rfl) (range_one x0 x1) B7.out rfl ?_; intro w13 hm hgr; have n0_ := Aside0.mk (blk_grown BM2.out hgr NE27.out); have n1_ := Aside0.mk (pw_below_grown HB.out (some g7) HB.out.size hgr (fun k hk => by injection hk with hk; subst hk; exact GE7.out)); have n2_ := Aside0.mk (C_grownS HC.out hgr CG7.out); clear BM2 HB HC B7; have B7 := Aside0.mk hm; have BM2 := n0_; have HB := n1_; have HC := n2_; clear n0_ n1_ n2_ hm hgr))
 have n0_ := Aside0.mk (blk_drew BM2.out)
 have n1_ := Aside0.mk (below_drew1 HB.out)
 have n2_ := Aside0.mk (Kd.C_below HC.out (below_drew1 (Below.refl _ _)))
 have n3_ := Aside0.mk (blk_drew B7.out)
 clear BM2 HB HC B7
 have BM2 := n0_
 have HB := n1_
 have HC := n2_
 have B7 := n3_
 clear n0_ n1_ n2_ n3_
 refine start_ (n := 17) (S := fun w' => w'.cell? ⟨bk, oo, none⟩ = some (.string w0) ∧ w'.cell? ⟨bk, oo + 1, none⟩ = some (.string w1) ∧ w'.cell? ⟨bk, oo + 2, none⟩ = some (.string w2) ∧ w'.cell? ⟨g7, 0, none⟩ = some (.int .u32 x0) ∧ w'.cell? ⟨g7, 1, none⟩ = some (.int .u32 x1)) (ds := [16]) #[false, false, false, false, false, false, false, false, false, false, false, false, false, false, false, false, false] (by kernel_rfl) rfl rfl ⟨C_atN HC.out 0 _ rfl, C_atN HC.out 1 _ rfl, C_atN HC.out 2 _ rfl, (blk_cell B7.out 0).trans rfl, (blk_cell B7.out 1).trans rfl⟩ (fun hHeld => ?_)
 refine with_tabW rule_Parse.tab7 rule_Parse.bits7 (fun HT_ HW_ => ?_)
 generalize World.drew _ = wp at HC HB BM2 B7 hHeld ⊢
 refine pure_ (i := 0) (N := some 34) (v := ?_) (a' := ?_) #[true, false, false, false, false, false, false, false, false, false, false, false, false, false, false, false, false] rfl rfl (any_of HT_.out (by kernel_rfl)) (fun _ _ _ h => h) (Or.inl ⟨by rfl, ?_⟩) ?_ ?_
 rotate_left
 ·intro w'
  go_simp
  with_reducible rfl
 rotate_left
 ·simp only [Act.put, sI_, z0_, z1_, i64_w, i32_w]
  rfl
 refine pure_ (i := 1) (N := some 35) (v := ?_) (a' := ?_) #[true, true, false, false, false, false, false, false, false, false, false, false, false, false, false, false, false] rfl rfl (any_of HT_.out (by kernel_rfl)) (fun _ _ _ h => h) (Or.inl ⟨by rfl, ?_⟩) ?_ ?_
 rotate_left
 ·intro w'
  go_simp
  with_reducible rfl
 rotate_left
 ·simp only [Act.put, sI_, z0_, z1_, i64_w, i32_w]
  rfl
 refine pure_ (i := 4) (N := some 38) (v := ?_) (a' := ?_) #[true, true, false, false, true, false, false, false, false, false, false, false, false, false, false, false, false] rfl rfl (any_of HT_.out (by kernel_rfl)) (fun _ _ _ h => h) (Or.inl ⟨by rfl, ?_⟩) ?_ ?_
 rotate_left
 ·intro w'
  go_simp
  with_reducible rfl
 rotate_left
 ·simp only [Act.put, sI_, z0_, z1_, i64_w, i32_w]
  rfl
 refine pure_ (i := 5) (N := some 39) (v := ?_) (a' := ?_) #[true, true, false, false, true, true, false, false, false, false, false, false, false, false, false, false, false] rfl rfl (any_of HT_.out (by kernel_rfl)) (fun _ _ _ h => h) (Or.inl ⟨by rfl, ?_⟩) ?_ ?_
 rotate_left
 ·intro w'
  go_simp
  with_reducible rfl
 rotate_left
 ·simp only [Act.put, sI_, z0_, z1_, i64_w, i32_w]
  rfl
 refine pure_ (i := 8) (N := some 42) (v := ?_) (a' := ?_) #[true, true, false, false, true, true, false, false, true, false, false, false, false, false, false, false, false] rfl rfl (any_of HT_.out (by kernel_rfl)) (fun _ _ _ h => h) (Or.inl ⟨by rfl, ?_⟩) ?_ ?_
 rotate_left
 ·intro w'
  go_simp
  with_reducible rfl
 rotate_left
 ·simp only [Act.put, sI_, z0_, z1_, i64_w, i32_w]
  rfl
 refine pure_ (i := 9) (N := some 43) (v := ?_) (a' := ?_) #[true, true, false, false, true, true, false, false, true, true, false, false, false, false, false, false, false] rfl rfl (any_of HT_.out (by kernel_rfl)) (fun _ _ _ h => h) (Or.inl ⟨by rfl, ?_⟩) ?_ ?_
 rotate_left
 ·intro w'
  go_simp
  with_reducible rfl
 rotate_left
 ·simp only [Act.put, sI_, z0_, z1_, i64_w, i32_w]
  rfl
 refine pure_ (i := 12) (N := some 46) (v := ?_) (a' := ?_) #[true, true, false, false, true, true, false, false, true, true, false, false, true, false, false, false, false] rfl rfl (any_of HT_.out (by kernel_rfl)) (fun _ _ _ h => h) (Or.inl ⟨by rfl, ?_⟩) ?_ ?_
 rotate_left
 ·intro w'
  go_simp
  with_reducible rfl
 rotate_left
 ·simp only [Act.put, sI_, z0_, z1_, i64_w, i32_w]
  rfl
 refine take_ (i := 2) (N := some 36) (v := ?_) (a' := ?_) #[true, true, true, false, true, true, false, false, true, true, false, false, true, false, false, false, false] rfl rfl (take_ofW HT_.out HW_.out (by kernel_rfl)) (fun _ _ _ h => h) (Or.inl ⟨by rfl, ?_⟩) hHeld ?_ ?_
 rotate_left
 ·rintro w' ⟨s0, s1, s2, s3, s4⟩
  go_simp
  with_reducible rfl
 rotate_left
 ·simp only [Act.put, sI_, z0_, z1_, i64_w, i32_w]
  rfl
 refine take_ (i := 6) (N := some 40) (v := ?_) (a' := ?_) #[true, true, true, false, true, true, true, false, true, true, false, false, true, false, false, false, false] rfl rfl (take_ofW HT_.out HW_.out (by kernel_rfl)) (fun _ _ _ h => h) (Or.inl ⟨by rfl, ?_⟩) hHeld ?_ ?_
 rotate_left
 ·rintro w' ⟨s0, s1, s2, s3, s4⟩
  go_simp
  with_reducible rfl
 rotate_left
 ·simp only [Act.put, sI_, z0_, z1_, i64_w, i32_w]
  rfl
 refine take_ (i := 10) (N := some 44) (v := ?_) (a' := ?_) #[true, true, true, false, true, true, true, false, true, true, true, false, true, false, false, false, false] rfl rfl (take_ofW HT_.out HW_.out (by kernel_rfl)) (fun _ _ _ h => h) (Or.inl ⟨by rfl, ?_⟩) hHeld ?_ ?_
 rotate_left
 ·rintro w' ⟨s0, s1, s2, s3, s4⟩
  go_simp
  with_reducible rfl
 rotate_left
 ·simp only [Act.put, sI_, z0_, z1_, i64_w, i32_w]
  rfl
 refine take_ (i := 13) (N := some 47) (v := ?_) (a' := ?_) #[true, true, true, false, true, true, true, false, true, true, true, false, true, true, false, false, false] rfl rfl (take_ofW HT_.out HW_.out (by kernel_rfl)) (fun _ _ _ h => h) (Or.inl ⟨by rfl, ?_⟩) hHeld ?_ ?_
 rotate_left
 ·rintro w' ⟨s0, s1, s2, s3, s4⟩
  go_simp
  with_reducible rfl
 rotate_left
 ·simp only [Act.put, sI_, z0_, z1_, i64_w, i32_w]
  rfl
 refine join_ (σ := Nat) 1 #[true, true, true, true, true, true, true, true, true, true, true, true, true, true, true, true, false] (fun s => [(37, Value.int .i64 n0), (41, Value.int .i64 n1), (45, Value.int .i64 n2), (9, Value.pointer (some ⟨s, 0, none⟩)), (48, Value.agg #[.int .i64 n0, .int .i64 n1, .int .i64 n2, .int .i64 kx, .int .u32 x0, .int .u32 x1, .int .i64 0])]) (fun s w' => Aside0 (w'.heap[s]? = some (.cells #[.int .i64 0, .int .i64 0, .int .i64 0, .int .i64 0, .int .u32 0, .int .u32 0, .int .i64 0] 27 (0, 0))) ∧ Aside0 (w'.heap[g7]? = some (.cells #[.int .u32 x0, .int .u32 x1] 25 (0, 0))) ∧ Aside0 (Below w.heap.size w w') ∧ Aside0 (Kd.C Kd.string w' (some ⟨bk, oo, none⟩) 5 [w0, w1, w2, w3, w4]) ∧ Aside0 (w'.heap[g2]? = some (.cells #[.int .i64 0, .int .i64 0, .int .i64 0, .int .i64 0, .int .u32 0, .int .u32 0, .int .i64 0] 27 (0, 0))) ∧ Aside0 (w.heap.size ≤ s) ∧ Aside0 (some g2 ≠ some s) ∧ Aside0 ((⟨bk, oo, none⟩ : Addr).block ≠ s)) ?_ ?_
 rotate_left
 ·intro hCont
  refine two_ (i := 3) (j := 15) (Ni := some 37) (Nj := some 9) #[true, true, true, true, true, true, true, false, true, true, true, false, true, true, false, false, false] #[true, true, true, false, true, true, true, false, true, true, true, false, true, true, false, true, false] rfl rfl rfl rfl (two_of HT_.out (by kernel_rfl)) (by decide) (by decide) (fun K hK => ?_) (fun K hK => ?_)
  ·skip
   refine goes_ Tryz.func59 (by kernel_rfl) rfl #[.string w0] (by rfl) rfl rfl (by simp only [mA_, mC_, mN_]; rfl) ?_
   with_reducible refine (rule_number.calls w0 n0 _ (HLd.below HB.out) hN0.out).mono ?_
   rintro e wq ⟨rfl, hb⟩
   refine ⟨_, rfl, ?_⟩
   have n0_ := Aside0.mk (blk_below B7.out hb)
   have n1_ := Aside0.mk (below_step HB.out hb)
   have n2_ := Aside0.mk (Kd.C_below HC.out hb)
   have n3_ := Aside0.mk (blk_below BM2.out hb)
   clear B7 HB HC BM2 hb
   have B7 := n0_
   have HB := n1_
   have HC := n2_
   have BM2 := n3_
   clear n0_ n1_ n2_ n3_
   refine hK.out _ _ ⟨C_atN HC.out 0 _ rfl, C_atN HC.out 1 _ rfl, C_atN HC.out 2 _ rfl, (blk_cell B7.out 0).trans rfl, (blk_cell B7.out 1).trans rfl⟩ (fun hHeld => ?_)
   clear hK K
   refine norm_ (a' := ?_) ?_ ?_
   rotate_left
   ·show Act.put _ (some 37) _ = _
    simp only [Act.put, sI_, z0_, z1_, i64_w, i32_w]
    rfl
   refine two_ (i := 7) (j := 15) (Ni := some 41) (Nj := some 9) #[true, true, true, true, true, true, true, true, true, true, true, false, true, true, false, false, false] #[true, true, true, true, true, true, true, false, true, true, true, false, true, true, false, true, false] rfl rfl rfl rfl (two_of HT_.out (by kernel_rfl)) (by decide) (by decide) (fun K hK => ?_) (fun K hK => ?_)
   ·skip
    refine goes_ Tryz.func59 (by kernel_rfl) rfl #[.string w1] (by rfl) rfl rfl (by simp only [mA_, mC_, mN_]; rfl) ?_
    with_reducible refine (rule_number.calls w1 n1 _ (HLd.below HB.out) hN1.out).mono ?_
    rintro e wq ⟨rfl, hb⟩
    refine ⟨_, rfl, ?_⟩
    have n0_ := Aside0.mk (blk_below B7.out hb)
    have n1_ := Aside0.mk (below_step HB.out hb)
    have n2_ := Aside0.mk (Kd.C_below HC.out hb)
    have n3_ := Aside0.mk (blk_below BM2.out hb)
    clear B7 HB HC BM2 hb
    have B7 := n0_
    have HB := n1_
    have HC := n2_
    have BM2 := n3_
    clear n0_ n1_ n2_ n3_
    refine hK.out _ _ ⟨C_atN HC.out 0 _ rfl, C_atN HC.out 1 _ rfl, C_atN HC.out 2 _ rfl, (blk_cell B7.out 0).trans rfl, (blk_cell B7.out 1).trans rfl⟩ (fun hHeld => ?_)
    clear hK K
    refine norm_ (a' := ?_) ?_ ?_
    rotate_left
    ·show Act.put _ (some 41) _ = _
     simp only [Act.put, sI_, z0_, z1_, i64_w, i32_w]
     rfl
    refine two_ (i := 11) (j := 15) (Ni := some 45) (Nj := some 9) #[true, true, true, true, true, true, true, true, true, true, true, true, true, true, false, false, false] #[true, true, true, true, true, true, true, true, true, true, true, false, true, true, false, true, false] rfl rfl rfl rfl (two_of HT_.out (by kernel_rfl)) (by decide) (by decide) (fun K hK => ?_) (fun K hK => ?_)
    ·skip
     refine goes_ Tryz.func59 (by kernel_rfl) rfl #[.string w2] (by rfl) rfl rfl (by simp only [mA_, mC_, mN_]; rfl) ?_
     with_reducible refine (rule_number.calls w2 n2 _ (HLd.below HB.out) hN2.out).mono ?_
     rintro e wq ⟨rfl, hb⟩
     refine ⟨_, rfl, ?_⟩
     have n0_ := Aside0.mk (blk_below B7.out hb)
     have n1_ := Aside0.mk (below_step HB.out hb)
     have n2_ := Aside0.mk (Kd.C_below HC.out hb)
     have n3_ := Aside0.mk (blk_below BM2.out hb)
     clear B7 HB HC BM2 hb
     have B7 := n0_
     have HB := n1_
     have HC := n2_
     have BM2 := n3_
     clear n0_ n1_ n2_ n3_
     refine hK.out _ _ ⟨C_atN HC.out 0 _ rfl, C_atN HC.out 1 _ rfl, C_atN HC.out 2 _ rfl, (blk_cell B7.out 0).trans rfl, (blk_cell B7.out 1).trans rfl⟩ (fun hHeld => ?_)
     clear hK K
     refine norm_ (a' := ?_) ?_ ?_
     rotate_left
     ·show Act.put _ (some 45) _ = _
      simp only [Act.put, sI_, z0_, z1_, i64_w, i32_w]
      rfl
     refine pure_ (i := 14) (N := some 48) (v := ?_) (a' := ?_) #[true, true, true, true, true, true, true, true, true, true, true, true, true, true, true, false, false] rfl rfl (any_of HT_.out (by kernel_rfl)) (fun _ _ _ h => h) (Or.inl ⟨by rfl, ?_⟩) ?_ ?_
     rotate_left
     ·intro w'
      go_simp
      with_reducible rfl
     rotate_left
     ·simp only [Act.put, sI_, z0_, z1_, i64_w, i32_w]
      rfl
     refine one_ (i := 15) (N := some 9) #[true, true, true, true, true, true, true, true, true, true, true, true, true, true, true, true, false] rfl rfl (one_of HT_.out (by kernel_rfl)) (by decide) (fun K hK => ?_)
     refine value_ (w1 := ?_) (v := ?_) (by rfl) rfl ?_ ?_
     rotate_left 2
     ·go_simp
      constructor
      ·rfl
      ·rfl
     have hb : Below wq.heap.size wq (wq.alloc (.cells #[.int .i64 0, .int .i64 0, .int .i64 0, .int .i64 0, .int .u32 0, .int .u32 0, .int .i64 0] 27)) := below_alloc (Below.refl _ _) _
     have BN := Aside0.mk (blk_new wq (.cells #[.int .i64 0, .int .i64 0, .int .i64 0, .int .i64 0, .int .u32 0, .int .u32 0, .int .i64 0] 27))
     have GE9 := Aside0.mk (show w.heap.size ≤ wq.heap.size from below_size HB.out)
     have NE9 := Aside0.mk (ne_of_blk BM2.out (rfl : wq.heap.size = wq.heap.size))
     have CG9 := Aside0.mk (show (⟨bk, oo, none⟩ : Addr).block ≠ wq.heap.size by have := World.block_lt_of_cell? _ _ (C_atN HC.out 0 _ rfl); simp only at this ⊢; omega)
     have n0_ := Aside0.mk (blk_below B7.out hb)
     have n1_ := Aside0.mk (below_step HB.out hb)
     have n2_ := Aside0.mk (Kd.C_below HC.out hb)
     have n3_ := Aside0.mk (blk_below BM2.out hb)
     clear B7 HB HC BM2 hb
     have B7 := n0_
     have HB := n1_
     have HC := n2_
     have BM2 := n3_
     clear n0_ n1_ n2_ n3_
     generalize World.alloc _ _ = wa at BN B7 HB HC BM2 ⊢
     generalize wq.heap.size = g9 at BN GE9 NE9 CG9 ⊢
     refine hK.out _ _ ⟨C_atN HC.out 0 _ rfl, C_atN HC.out 1 _ rfl, C_atN HC.out 2 _ rfl, (blk_cell B7.out 0).trans rfl, (blk_cell B7.out 1).trans rfl⟩ (fun hHeld => ?_)
     clear hK K
     refine norm_ (a' := ?_) ?_ ?_
     rotate_left
     ·show Act.put _ (some 9) _ = _
      simp only [Act.put, sI_, z0_, z1_, i64_w, i32_w]
      rfl
     exact norm_ (by simp only [putAll, Act.put, sI_, z0_, z1_]) (hCont g9 _ ⟨BN, B7, HB, HC, BM2, GE9, NE9, CG9⟩)
    ·skip
     refine value_ (w1 := ?_) (v := ?_) (by rfl) rfl ?_ ?_
     rotate_left 2
     ·go_simp
      constructor
      ·rfl
      ·rfl
     have hb : Below wq.heap.size wq (wq.alloc (.cells #[.int .i64 0, .int .i64 0, .int .i64 0, .int .i64 0, .int .u32 0, .int .u32 0, .int .i64 0] 27)) := below_alloc (Below.refl _ _) _
     have BN := Aside0.mk (blk_new wq (.cells #[.int .i64 0, .int .i64 0, .int .i64 0, .int .i64 0, .int .u32 0, .int .u32 0, .int .i64 0] 27))
     have GE9 := Aside0.mk (show w.heap.size ≤ wq.heap.size from below_size HB.out)
     have NE9 := Aside0.mk (ne_of_blk BM2.out (rfl : wq.heap.size = wq.heap.size))
     have CG9 := Aside0.mk (show (⟨bk, oo, none⟩ : Addr).block ≠ wq.heap.size by have := World.block_lt_of_cell? _ _ (C_atN HC.out 0 _ rfl); simp only at this ⊢; omega)
     have n0_ := Aside0.mk (blk_below B7.out hb)
     have n1_ := Aside0.mk (below_step HB.out hb)
     have n2_ := Aside0.mk (Kd.C_below HC.out hb)
     have n3_ := Aside0.mk (blk_below BM2.out hb)
     clear B7 HB HC BM2 hb
     have B7 := n0_
     have HB := n1_
     have HC := n2_
     have BM2 := n3_
     clear n0_ n1_ n2_ n3_
     generalize World.alloc _ _ = wa at BN B7 HB HC BM2 ⊢
     generalize wq.heap.size = g9 at BN GE9 NE9 CG9 ⊢
     refine hK.out _ _ ⟨C_atN HC.out 0 _ rfl, C_atN HC.out 1 _ rfl, C_atN HC.out 2 _ rfl, (blk_cell B7.out 0).trans rfl, (blk_cell B7.out 1).trans rfl⟩ (fun hHeld => ?_)
     clear hK K
     refine norm_ (a' := ?_) ?_ ?_
     rotate_left
     ·show Act.put _ (some 9) _ = _
      simp only [Act.put, sI_, z0_, z1_, i64_w, i32_w]
      rfl
     refine one_ (i := 11) (N := some 45) #[true, true, true, true, true, true, true, true, true, true, true, true, true, true, false, true, false] rfl rfl (one_of HT_.out (by kernel_rfl)) (by decide) (fun K hK => ?_)
     refine goes_ Tryz.func59 (by kernel_rfl) rfl #[.string w2] (by rfl) rfl rfl (by simp only [mA_, mC_, mN_]; rfl) ?_
     with_reducible refine (rule_number.calls w2 n2 _ (HLd.below HB.out) hN2.out).mono ?_
     rintro e wq ⟨rfl, hb⟩
     refine ⟨_, rfl, ?_⟩
     have n0_ := Aside0.mk (blk_below B7.out hb)
     have n1_ := Aside0.mk (below_step HB.out hb)
     have n2_ := Aside0.mk (Kd.C_below HC.out hb)
     have n3_ := Aside0.mk (blk_below BM2.out hb)
     have n4_ := Aside0.mk (blk_below BN.out hb)
     clear B7 HB HC BM2 hb BN
     have B7 := n0_
     have HB := n1_
     have HC := n2_
     have BM2 := n3_
     have BN := n4_
     clear n0_ n1_ n2_ n3_ n4_
     refine hK.out _ _ ⟨C_atN HC.out 0 _ rfl, C_atN HC.out 1 _ rfl, C_atN HC.out 2 _ rfl, (blk_cell B7.out 0).trans rfl, (blk_cell B7.out 1).trans rfl⟩ (fun hHeld => ?_)
     clear hK K
     refine norm_ (a' := ?_) ?_ ?_
     rotate_left
     ·show Act.put _ (some 45) _ = _
      simp only [Act.put, sI_, z0_, z1_, i64_w, i32_w]
      rfl
     refine pure_ (i := 14) (N := some 48) (v := ?_) (a' := ?_) #[true, true, true, true, true, true, true, true, true, true, true, true, true, true, true, true, false] rfl rfl (any_of HT_.out (by kernel_rfl)) (fun _ _ _ h => h) (Or.inl ⟨by rfl, ?_⟩) ?_ ?_
     rotate_left
     ·intro w'
      go_simp
      with_reducible rfl
     rotate_left
     ·simp only [Act.put, sI_, z0_, z1_, i64_w, i32_w]
      rfl
     exact norm_ (by simp only [putAll, Act.put, sI_, z0_, z1_]) (hCont g9 _ ⟨BN, B7, HB, HC, BM2, GE9, NE9, CG9⟩)
   ·skip
    refine value_ (w1 := ?_) (v := ?_) (by rfl) rfl ?_ ?_
    rotate_left 2
    ·go_simp
     constructor
     ·rfl
     ·rfl
    have hb : Below wq.heap.size wq (wq.alloc (.cells #[.int .i64 0, .int .i64 0, .int .i64 0, .int .i64 0, .int .u32 0, .int .u32 0, .int .i64 0] 27)) := below_alloc (Below.refl _ _) _
    have BN := Aside0.mk (blk_new wq (.cells #[.int .i64 0, .int .i64 0, .int .i64 0, .int .i64 0, .int .u32 0, .int .u32 0, .int .i64 0] 27))
    have GE9 := Aside0.mk (show w.heap.size ≤ wq.heap.size from below_size HB.out)
    have NE9 := Aside0.mk (ne_of_blk BM2.out (rfl : wq.heap.size = wq.heap.size))
    have CG9 := Aside0.mk (show (⟨bk, oo, none⟩ : Addr).block ≠ wq.heap.size by have := World.block_lt_of_cell? _ _ (C_atN HC.out 0 _ rfl); simp only at this ⊢; omega)
    have n0_ := Aside0.mk (blk_below B7.out hb)
    have n1_ := Aside0.mk (below_step HB.out hb)
    have n2_ := Aside0.mk (Kd.C_below HC.out hb)
    have n3_ := Aside0.mk (blk_below BM2.out hb)
    clear B7 HB HC BM2 hb
    have B7 := n0_
    have HB := n1_
    have HC := n2_
    have BM2 := n3_
    clear n0_ n1_ n2_ n3_
    generalize World.alloc _ _ = wa at BN B7 HB HC BM2 ⊢
    generalize wq.heap.size = g9 at BN GE9 NE9 CG9 ⊢
    refine hK.out _ _ ⟨C_atN HC.out 0 _ rfl, C_atN HC.out 1 _ rfl, C_atN HC.out 2 _ rfl, (blk_cell B7.out 0).trans rfl, (blk_cell B7.out 1).trans rfl⟩ (fun hHeld => ?_)
    clear hK K
    refine norm_ (a' := ?_) ?_ ?_
    rotate_left
    ·show Act.put _ (some 9) _ = _
     simp only [Act.put, sI_, z0_, z1_, i64_w, i32_w]
     rfl
    refine one_ (i := 7) (N := some 41) #[true, true, true, true, true, true, true, true, true, true, true, false, true, true, false, true, false] rfl rfl (one_of HT_.out (by kernel_rfl)) (by decide) (fun K hK => ?_)
    refine goes_ Tryz.func59 (by kernel_rfl) rfl #[.string w1] (by rfl) rfl rfl (by simp only [mA_, mC_, mN_]; rfl) ?_
    with_reducible refine (rule_number.calls w1 n1 _ (HLd.below HB.out) hN1.out).mono ?_
    rintro e wq ⟨rfl, hb⟩
    refine ⟨_, rfl, ?_⟩
    have n0_ := Aside0.mk (blk_below B7.out hb)
    have n1_ := Aside0.mk (below_step HB.out hb)
    have n2_ := Aside0.mk (Kd.C_below HC.out hb)
    have n3_ := Aside0.mk (blk_below BM2.out hb)
    have n4_ := Aside0.mk (blk_below BN.out hb)
    clear B7 HB HC BM2 hb BN
    have B7 := n0_
    have HB := n1_
    have HC := n2_
    have BM2 := n3_
    have BN := n4_
    clear n0_ n1_ n2_ n3_ n4_
    refine hK.out _ _ ⟨C_atN HC.out 0 _ rfl, C_atN HC.out 1 _ rfl, C_atN HC.out 2 _ rfl, (blk_cell B7.out 0).trans rfl, (blk_cell B7.out 1).trans rfl⟩ (fun hHeld => ?_)
    clear hK K
    refine norm_ (a' := ?_) ?_ ?_
    rotate_left
    ·show Act.put _ (some 41) _ = _
     simp only [Act.put, sI_, z0_, z1_, i64_w, i32_w]
     rfl
    refine one_ (i := 11) (N := some 45) #[true, true, true, true, true, true, true, true, true, true, true, true, true, true, false, true, false] rfl rfl (one_of HT_.out (by kernel_rfl)) (by decide) (fun K hK => ?_)
    refine goes_ Tryz.func59 (by kernel_rfl) rfl #[.string w2] (by rfl) rfl rfl (by simp only [mA_, mC_, mN_]; rfl) ?_
    with_reducible refine (rule_number.calls w2 n2 _ (HLd.below HB.out) hN2.out).mono ?_
    rintro e wq ⟨rfl, hb⟩
    refine ⟨_, rfl, ?_⟩
    have n0_ := Aside0.mk (blk_below B7.out hb)
    have n1_ := Aside0.mk (below_step HB.out hb)
    have n2_ := Aside0.mk (Kd.C_below HC.out hb)
    have n3_ := Aside0.mk (blk_below BM2.out hb)
    have n4_ := Aside0.mk (blk_below BN.out hb)
    clear B7 HB HC BM2 hb BN
    have B7 := n0_
    have HB := n1_
    have HC := n2_
    have BM2 := n3_
    have BN := n4_
    clear n0_ n1_ n2_ n3_ n4_
    refine hK.out _ _ ⟨C_atN HC.out 0 _ rfl, C_atN HC.out 1 _ rfl, C_atN HC.out 2 _ rfl, (blk_cell B7.out 0).trans rfl, (blk_cell B7.out 1).trans rfl⟩ (fun hHeld => ?_)
    clear hK K
    refine norm_ (a' := ?_) ?_ ?_
    rotate_left
    ·show Act.put _ (some 45) _ = _
     simp only [Act.put, sI_, z0_, z1_, i64_w, i32_w]
     rfl
    refine pure_ (i := 14) (N := some 48) (v := ?_) (a' := ?_) #[true, true, true, true, true, true, true, true, true, true, true, true, true, true, true, true, false] rfl rfl (any_of HT_.out (by kernel_rfl)) (fun _ _ _ h => h) (Or.inl ⟨by rfl, ?_⟩) ?_ ?_
    rotate_left
    ·intro w'
     go_simp
     with_reducible rfl
    rotate_left
    ·simp only [Act.put, sI_, z0_, z1_, i64_w, i32_w]
     rfl
    exact norm_ (by simp only [putAll, Act.put, sI_, z0_, z1_]) (hCont g9 _ ⟨BN, B7, HB, HC, BM2, GE9, NE9, CG9⟩)
  ·skip
   refine value_ (w1 := ?_) (v := ?_) (by rfl) rfl ?_ ?_
   rotate_left 2
   ·go_simp
    constructor
    ·rfl
    ·rfl
   have hb : Below wp.heap.size wp (wp.alloc (.cells #[.int .i64 0, .int .i64 0, .int .i64 0, .int .i64 0, .int .u32 0, .int .u32 0, .int .i64 0] 27)) := below_alloc (Below.refl _ _) _
   have BN := Aside0.mk (blk_new wp (.cells #[.int .i64 0, .int .i64 0, .int .i64 0, .int .i64 0, .int .u32 0, .int .u32 0, .int .i64 0] 27))
   have GE9 := Aside0.mk (show w.heap.size ≤ wp.heap.size from below_size HB.out)
   have NE9 := Aside0.mk (ne_of_blk BM2.out (rfl : wp.heap.size = wp.heap.size))
   have CG9 := Aside0.mk (show (⟨bk, oo, none⟩ : Addr).block ≠ wp.heap.size by have := World.block_lt_of_cell? _ _ (C_atN HC.out 0 _ rfl); simp only at this ⊢; omega)
   have n0_ := Aside0.mk (blk_below B7.out hb)
   have n1_ := Aside0.mk (below_step HB.out hb)
   have n2_ := Aside0.mk (Kd.C_below HC.out hb)
   have n3_ := Aside0.mk (blk_below BM2.out hb)
   clear B7 HB HC BM2 hb
   have B7 := n0_
   have HB := n1_
   have HC := n2_
   have BM2 := n3_
   clear n0_ n1_ n2_ n3_
   generalize World.alloc _ _ = wa at BN B7 HB HC BM2 ⊢
   generalize wp.heap.size = g9 at BN GE9 NE9 CG9 ⊢
   refine hK.out _ _ ⟨C_atN HC.out 0 _ rfl, C_atN HC.out 1 _ rfl, C_atN HC.out 2 _ rfl, (blk_cell B7.out 0).trans rfl, (blk_cell B7.out 1).trans rfl⟩ (fun hHeld => ?_)
   clear hK K
   refine norm_ (a' := ?_) ?_ ?_
   rotate_left
   ·show Act.put _ (some 9) _ = _
    simp only [Act.put, sI_, z0_, z1_, i64_w, i32_w]
    rfl
   refine one_ (i := 3) (N := some 37) #[true, true, true, true, true, true, true, false, true, true, true, false, true, true, false, true, false] rfl rfl (one_of HT_.out (by kernel_rfl)) (by decide) (fun K hK => ?_)
   refine goes_ Tryz.func59 (by kernel_rfl) rfl #[.string w0] (by rfl) rfl rfl (by simp only [mA_, mC_, mN_]; rfl) ?_
   with_reducible refine (rule_number.calls w0 n0 _ (HLd.below HB.out) hN0.out).mono ?_
   rintro e wq ⟨rfl, hb⟩
   refine ⟨_, rfl, ?_⟩
   have n0_ := Aside0.mk (blk_below B7.out hb)
   have n1_ := Aside0.mk (below_step HB.out hb)
   have n2_ := Aside0.mk (Kd.C_below HC.out hb)
   have n3_ := Aside0.mk (blk_below BM2.out hb)
   have n4_ := Aside0.mk (blk_below BN.out hb)
   clear B7 HB HC BM2 hb BN
   have B7 := n0_
   have HB := n1_
   have HC := n2_
   have BM2 := n3_
   have BN := n4_
   clear n0_ n1_ n2_ n3_ n4_
   refine hK.out _ _ ⟨C_atN HC.out 0 _ rfl, C_atN HC.out 1 _ rfl, C_atN HC.out 2 _ rfl, (blk_cell B7.out 0).trans rfl, (blk_cell B7.out 1).trans rfl⟩ (fun hHeld => ?_)
   clear hK K
   refine norm_ (a' := ?_) ?_ ?_
   rotate_left
   ·show Act.put _ (some 37) _ = _
    simp only [Act.put, sI_, z0_, z1_, i64_w, i32_w]
    rfl
   refine one_ (i := 7) (N := some 41) #[true, true, true, true, true, true, true, true, true, true, true, false, true, true, false, true, false] rfl rfl (one_of HT_.out (by kernel_rfl)) (by decide) (fun K hK => ?_)
   refine goes_ Tryz.func59 (by kernel_rfl) rfl #[.string w1] (by rfl) rfl rfl (by simp only [mA_, mC_, mN_]; rfl) ?_
   with_reducible refine (rule_number.calls w1 n1 _ (HLd.below HB.out) hN1.out).mono ?_
   rintro e wq ⟨rfl, hb⟩
   refine ⟨_, rfl, ?_⟩
   have n0_ := Aside0.mk (blk_below B7.out hb)
   have n1_ := Aside0.mk (below_step HB.out hb)
   have n2_ := Aside0.mk (Kd.C_below HC.out hb)
   have n3_ := Aside0.mk (blk_below BM2.out hb)
   have n4_ := Aside0.mk (blk_below BN.out hb)
   clear B7 HB HC BM2 hb BN
   have B7 := n0_
   have HB := n1_
   have HC := n2_
   have BM2 := n3_
   have BN := n4_
   clear n0_ n1_ n2_ n3_ n4_
   refine hK.out _ _ ⟨C_atN HC.out 0 _ rfl, C_atN HC.out 1 _ rfl, C_atN HC.out 2 _ rfl, (blk_cell B7.out 0).trans rfl, (blk_cell B7.out 1).trans rfl⟩ (fun hHeld => ?_)
   clear hK K
   refine norm_ (a' := ?_) ?_ ?_
   rotate_left
   ·show Act.put _ (some 41) _ = _
    simp only [Act.put, sI_, z0_, z1_, i64_w, i32_w]
    rfl
   refine one_ (i := 11) (N := some 45) #[true, true, true, true, true, true, true, true, true, true, true, true, true, true, false, true, false] rfl rfl (one_of HT_.out (by kernel_rfl)) (by decide) (fun K hK => ?_)
   refine goes_ Tryz.func59 (by kernel_rfl) rfl #[.string w2] (by rfl) rfl rfl (by simp only [mA_, mC_, mN_]; rfl) ?_
   with_reducible refine (rule_number.calls w2 n2 _ (HLd.below HB.out) hN2.out).mono ?_
   rintro e wq ⟨rfl, hb⟩
   refine ⟨_, rfl, ?_⟩
   have n0_ := Aside0.mk (blk_below B7.out hb)
   have n1_ := Aside0.mk (below_step HB.out hb)
   have n2_ := Aside0.mk (Kd.C_below HC.out hb)
   have n3_ := Aside0.mk (blk_below BM2.out hb)
   have n4_ := Aside0.mk (blk_below BN.out hb)
   clear B7 HB HC BM2 hb BN
   have B7 := n0_
   have HB := n1_
   have HC := n2_
   have BM2 := n3_
   have BN := n4_
   clear n0_ n1_ n2_ n3_ n4_
   refine hK.out _ _ ⟨C_atN HC.out 0 _ rfl, C_atN HC.out 1 _ rfl, C_atN HC.out 2 _ rfl, (blk_cell B7.out 0).trans rfl, (blk_cell B7.out 1).trans rfl⟩ (fun hHeld => ?_)
   clear hK K
   refine norm_ (a' := ?_) ?_ ?_
   rotate_left
   ·show Act.put _ (some 45) _ = _
    simp only [Act.put, sI_, z0_, z1_, i64_w, i32_w]
    rfl
   refine pure_ (i := 14) (N := some 48) (v := ?_) (a' := ?_) #[true, true, true, true, true, true, true, true, true, true, true, true, true, true, true, true, false] rfl rfl (any_of HT_.out (by kernel_rfl)) (fun _ _ _ h => h) (Or.inl ⟨by rfl, ?_⟩) ?_ ?_
   rotate_left
   ·intro w'
    go_simp
    with_reducible rfl
   rotate_left
   ·simp only [Act.put, sI_, z0_, z1_, i64_w, i32_w]
    rfl
   exact norm_ (by simp only [putAll, Act.put, sI_, z0_, z1_]) (hCont g9 _ ⟨BN, B7, HB, HC, BM2, GE9, NE9, CG9⟩)
 rintro g9 wz ⟨BN, B7, HB, HC, BM2, GE9, NE9, CG9⟩
 have hHeld : wz.cell? ⟨bk, oo, none⟩ = some (.string w0) ∧ wz.cell? ⟨bk, oo + 1, none⟩ = some (.string w1) ∧ wz.cell? ⟨bk, oo + 2, none⟩ = some (.string w2) ∧ wz.cell? ⟨g7, 0, none⟩ = some (.int .u32 x0) ∧ wz.cell? ⟨g7, 1, none⟩ = some (.int .u32 x1) := ⟨C_atN HC.out 0 _ rfl, C_atN HC.out 1 _ rfl, C_atN HC.out 2 _ rfl, (blk_cell B7.out 0).trans rfl, (blk_cell B7.out 1).trans rfl⟩
 refine norm_ (a' := ?_) ?_ ?_
 rotate_left
 ·simp only [putAll, Act.put, sI_, z0_, z1_]
  rfl
 refine last_ (i := 16) (N := none) #[true, true, true, true, true, true, true, true, true, true, true, true, true, true, true, true, true] rfl rfl (one_of HT_.out (by kernel_rfl)) (by decide) (fun K hK => ?_)
 refine storeK_ (by rfl) rfl 27 (.tmp 9) (.tmp 48) rfl (rv ⟨n0, n1, n2, kx, ⟨x0, x1⟩, 0⟩) (rcells ⟨n0, n1, n2, kx, ⟨x0, x1⟩, 0⟩) rfl rfl rfl (by kernel_rfl) (rcells_one _) BN.out rfl ?_
 intro wb hm hgr
 have n0_ := Aside0.mk (blk_grown BM2.out hgr NE9.out)
 have n1_ := Aside0.mk (pw_below_grown HB.out (some g9) HB.out.size hgr (fun k hk => by injection hk with hk; subst hk; exact GE9.out))
 have n2_ := Aside0.mk (C_grownS HC.out hgr CG9.out)
 clear BM2 HB HC BN B7
 have BN := Aside0.mk hm
 have BM2 := n0_
 have HB := n1_
 have HC := n2_
 clear n0_ n1_ n2_ hm hgr
 refine hK.out _ _ ?_
 clear hK K
 refine done_ (done_of HT_.out (by kernel_rfl)) ?_
 by_cases hxe : xe = 0
 ·subst hxe
  have H := HE.out
  unfold parseEnd at H
  rw [if_pos rfl] at H
  obtain ⟨ok, hRt0, H2⟩ := Option.bind_eq_some_iff.mp H
  clear H
  have hRt := Aside0.mk hRt0
  clear hRt0 HE
  have c0 := (blk_cell BN.out 0).trans (show _ = some (Value.int .i64 n0) from rfl)
  have c1 := (blk_cell BN.out 1).trans (show _ = some (Value.int .i64 n1) from rfl)
  have c2 := (blk_cell BN.out 2).trans (show _ = some (Value.int .i64 n2) from rfl)
  have c3 := (blk_cell BN.out 3).trans (show _ = some (Value.int .i64 kx) from rfl)
  have c4 := (blk_cell BN.out 4).trans (show _ = some (Value.int .u32 x0) from rfl)
  have c5 := (blk_cell BN.out 5).trans (show _ = some (Value.int .u32 x1) from rfl)
  have c6 := (blk_cell BN.out 6).trans (show _ = some (Value.int .i64 0) from rfl)
  cases ok
  ·rw [if_neg (by decide)] at H2
   have HE := Aside0.mk (Option.some.inj H2)
   clear H2
   go_wp2_with (first | (go_at_call 60; refine (rule_Right.calls _ _ _ _ _ _ _ _ _ hRt.out).mono ?_; rintro e w14 ⟨rfl, hb⟩; have n0_ := Aside0.mk (blk_below BM2.out hb); have n1_ := Aside0.mk (below_step HB.out hb); have n2_ := Aside0.mk (blk_below BN.out hb); clear BM2 HB BN c0 c1 c2 c3 c4 c5 c6 hb; have BM2 := n0_; have HB := n1_; have BN := n2_; clear n0_ n1_ n2_; have c0 := (blk_cell BN.out 0).trans (show _ = some (Value.int .i64 n0) from rfl); have c1 := (blk_cell BN.out 1).trans (show _ = some (Value.int .i64 n1) from rfl); have c2 := (blk_cell BN.out 2).trans (show _ = some (Value.int .i64 n2) from rfl); have c3 := (blk_cell BN.out 3).trans (show _ = some (Value.int .i64 kx) from rfl); have c4 := (blk_cell BN.out 4).trans (show _ = some (Value.int .u32 x0) from rfl); have c5 := (blk_cell BN.out 5).trans (show _ = some (Value.int .u32 x1) from rfl); have c6 := (blk_cell BN.out 6).trans (show _ = some (Value.int .i64 0) from rfl)) | ((with_reducible refine gate_ (.store 27 (.tmp 2) (.tmp 70)) rfl ?_); refine store_block rfl rfl 27 (.tmp 2) (.tmp 70) rfl (rv z27) (rcells z27) rfl rfl rfl (by kernel_rfl) (rcells_one _) BM2.out rfl ?_; intro wz hm hgr))
   refine bodyPost_ret (results_ct rfl _ _ g2 27 (rcells z27).toArray (0, 0) _ rfl hm Tryz.underlying27 rfl (by kernel_rfl)) rfl ?_
   exact ⟨by first | rfl | (cases HE.out; rfl), pw_below_grown HB.out (some g2) HB.out.size hgr (fun k hk => by injection hk with hk; subst hk; exact GE2.out)⟩
  ·rw [if_pos rfl] at H2
   obtain ⟨tx, hTx0, H3⟩ := Option.bind_eq_some_iff.mp H2
   clear H2
   have hTx := Aside0.mk hTx0
   clear hTx0
   cases hts : (tx.toList == s.toList)
   ·rw [hts, if_neg (by decide)] at H3
    have HE := Aside0.mk (Option.some.inj H3)
    clear H3
    go_wp2_with (first | (go_at_call 60; refine (rule_Right.calls _ _ _ _ _ _ _ _ _ hRt.out).mono ?_; rintro e w14 ⟨rfl, hb⟩; have n0_ := Aside0.mk (blk_below BM2.out hb); have n1_ := Aside0.mk (below_step HB.out hb); have n2_ := Aside0.mk (blk_below BN.out hb); clear BM2 HB BN c0 c1 c2 c3 c4 c5 c6 hb; have BM2 := n0_; have HB := n1_; have BN := n2_; clear n0_ n1_ n2_; have c0 := (blk_cell BN.out 0).trans (show _ = some (Value.int .i64 n0) from rfl); have c1 := (blk_cell BN.out 1).trans (show _ = some (Value.int .i64 n1) from rfl); have c2 := (blk_cell BN.out 2).trans (show _ = some (Value.int .i64 n2) from rfl); have c3 := (blk_cell BN.out 3).trans (show _ = some (Value.int .i64 kx) from rfl); have c4 := (blk_cell BN.out 4).trans (show _ = some (Value.int .u32 x0) from rfl); have c5 := (blk_cell BN.out 5).trans (show _ = some (Value.int .u32 x1) from rfl); have c6 := (blk_cell BN.out 6).trans (show _ = some (Value.int .i64 0) from rfl)) | (go_at_call 11; refine (rule_Text.calls _ _ _ _ _ _ _ tx _ (HLd.below HB.out) hTx.out).mono ?_; rintro e w15 ⟨rfl, hb⟩; have n0_ := Aside0.mk (blk_below BM2.out hb); have n1_ := Aside0.mk (below_step HB.out hb); have n2_ := Aside0.mk (blk_below BN.out hb); clear BM2 HB BN c0 c1 c2 c3 c4 c5 c6 hb; have BM2 := n0_; have HB := n1_; have BN := n2_; clear n0_ n1_ n2_; have c0 := (blk_cell BN.out 0).trans (show _ = some (Value.int .i64 n0) from rfl); have c1 := (blk_cell BN.out 1).trans (show _ = some (Value.int .i64 n1) from rfl); have c2 := (blk_cell BN.out 2).trans (show _ = some (Value.int .i64 n2) from rfl); have c3 := (blk_cell BN.out 3).trans (show _ = some (Value.int .i64 kx) from rfl); have c4 := (blk_cell BN.out 4).trans (show _ = some (Value.int .u32 x0) from rfl); have c5 := (blk_cell BN.out 5).trans (show _ = some (Value.int .u32 x1) from rfl); have c6 := (blk_cell BN.out 6).trans (show _ = some (Value.int .i64 0) from rfl)) | ((with_reducible refine gate_ (.store 27 (.tmp 2) (.tmp 70)) rfl ?_); refine store_block rfl rfl 27 (.tmp 2) (.tmp 70) rfl (rv z27) (rcells z27) rfl rfl rfl (by kernel_rfl) (rcells_one _) BM2.out rfl ?_; intro wz hm hgr))
    refine bodyPost_ret (results_ct rfl _ _ g2 27 (rcells z27).toArray (0, 0) _ rfl hm Tryz.underlying27 rfl (by kernel_rfl)) rfl ?_
    exact ⟨by first | rfl | (cases HE.out; rfl), pw_below_grown HB.out (some g2) HB.out.size hgr (fun k hk => by injection hk with hk; subst hk; exact GE2.out)⟩
   ·rw [hts, if_pos rfl] at H3
    have HE := Aside0.mk (Option.some.inj H3)
    clear H3
    go_wp2_with (first | (go_at_call 60; refine (rule_Right.calls _ _ _ _ _ _ _ _ _ hRt.out).mono ?_; rintro e w14 ⟨rfl, hb⟩; have n0_ := Aside0.mk (blk_below BM2.out hb); have n1_ := Aside0.mk (below_step HB.out hb); have n2_ := Aside0.mk (blk_below BN.out hb); clear BM2 HB BN c0 c1 c2 c3 c4 c5 c6 hb; have BM2 := n0_; have HB := n1_; have BN := n2_; clear n0_ n1_ n2_; have c0 := (blk_cell BN.out 0).trans (show _ = some (Value.int .i64 n0) from rfl); have c1 := (blk_cell BN.out 1).trans (show _ = some (Value.int .i64 n1) from rfl); have c2 := (blk_cell BN.out 2).trans (show _ = some (Value.int .i64 n2) from rfl); have c3 := (blk_cell BN.out 3).trans (show _ = some (Value.int .i64 kx) from rfl); have c4 := (blk_cell BN.out 4).trans (show _ = some (Value.int .u32 x0) from rfl); have c5 := (blk_cell BN.out 5).trans (show _ = some (Value.int .u32 x1) from rfl); have c6 := (blk_cell BN.out 6).trans (show _ = some (Value.int .i64 0) from rfl)) | (go_at_call 11; refine (rule_Text.calls _ _ _ _ _ _ _ tx _ (HLd.below HB.out) hTx.out).mono ?_; rintro e w15 ⟨rfl, hb⟩; have n0_ := Aside0.mk (blk_below BM2.out hb); have n1_ := Aside0.mk (below_step HB.out hb); have n2_ := Aside0.mk (blk_below BN.out hb); clear BM2 HB BN c0 c1 c2 c3 c4 c5 c6 hb; have BM2 := n0_; have HB := n1_; have BN := n2_; clear n0_ n1_ n2_; have c0 := (blk_cell BN.out 0).trans (show _ = some (Value.int .i64 n0) from rfl); have c1 := (blk_cell BN.out 1).trans (show _ = some (Value.int .i64 n1) from rfl); have c2 := (blk_cell BN.out 2).trans (show _ = some (Value.int .i64 n2) from rfl); have c3 := (blk_cell BN.out 3).trans (show _ = some (Value.int .i64 kx) from rfl); have c4 := (blk_cell BN.out 4).trans (show _ = some (Value.int .u32 x0) from rfl); have c5 := (blk_cell BN.out 5).trans (show _ = some (Value.int .u32 x1) from rfl); have c6 := (blk_cell BN.out 6).trans (show _ = some (Value.int .i64 0) from rfl)) | ((with_reducible refine gate_ (.store 27 (.tmp 2) (.tmp 71)) rfl ?_); refine store_block rfl rfl 27 (.tmp 2) (.tmp 71) rfl (rv (⟨n0, n1, n2, kx, ⟨x0, x1⟩, 0⟩ : Rl)) (rcells (⟨n0, n1, n2, kx, ⟨x0, x1⟩, 0⟩ : Rl)) rfl rfl rfl (by kernel_rfl) (rcells_one _) BM2.out rfl ?_; intro wz hm hgr))
    refine bodyPost_ret (results_ct rfl _ _ g2 27 (rcells (⟨n0, n1, n2, kx, ⟨x0, x1⟩, 0⟩ : Rl)).toArray (0, 0) _ rfl hm Tryz.underlying27 rfl (by kernel_rfl)) rfl ?_
    exact ⟨by first | rfl | (cases HE.out; rfl), pw_below_grown HB.out (some g2) HB.out.size hgr (fun k hk => by injection hk with hk; subst hk; exact GE2.out)⟩
 ·have H := HE.out
  unfold parseEnd at H
  rw [if_neg hxe] at H
  clear HE
  have HE := Aside0.mk (Option.some.inj H)
  clear H
  have d1 : (xe != 0) = true := by simpa using hxe
  have d2 : decide (xe = 0) = false := decide_eq_false hxe
  have d3 : (xe == 0) = false := by simpa using hxe
  have d4 : (xe = 0) = False := eq_false hxe
  go_wp2_with ((with_reducible refine gate_ (.store 27 (.tmp 2) (.tmp 70)) rfl ?_); refine store_block rfl rfl 27 (.tmp 2) (.tmp 70) rfl (rv z27) (rcells z27) rfl rfl rfl (by kernel_rfl) (rcells_one _) BM2.out rfl ?_; intro wz hm hgr)
  refine bodyPost_ret (results_ct rfl _ _ g2 27 (rcells z27).toArray (0, 0) _ rfl hm Tryz.underlying27 rfl (by kernel_rfl)) rfl ?_
  exact ⟨by first | rfl | (cases HE.out; rfl), pw_below_grown HB.out (some g2) HB.out.size hgr (fun k hk => by injection hk with hk; subst hk; exact GE2.out)⟩
set_option maxHeartbeats 8000000 in
set_option maxRecDepth 100000 in
theorem parse6_calls (s : ByteArray) (r1 r2 r3 r4 r5 r6 r7 r8 : Int) (w : World) (HLd : Laid w) (w0 w1 w2 w3 w4 w5 : ByteArray) (kx : Int) (x0 x1 xe n0 n1 n2 n5 : Int) (hS : strings_Split.f s ⟨#[32]⟩ = some [w0, w1, w2, w3, w4, w5])
  (hk : slices_Index_string_string.f 5 [wForward, wDrop, wPermit, wDeny] w3 = some kx) (hx : prefix_ParseRange.f 7 w4 = some (x0, x1, xe)) (hn0 : rule_number.f w0 = some n0) (hn1 : rule_number.f w1 = some n1) (hn2 : rule_number.f w2 = some n2) (hn5 : rule_number.f w5 = some n5) (h : parseEnd s n0 n1 n2 kx (x0, x1, xe) n5 = some (r1, r2, r3, r4, r5, r6, r7, r8)) :
  Calls Tryz.prog 14 #[.string s] w fun e w' => e = .returned (.tuple #[.agg #[.int .i64 r1, .int .i64 r2, .int .i64 r3, .int .i64 r4, .int .u32 r5, .int .u32 r6, .int .i64 r7], .int .i64 r8]) ∧ Below w.heap.size w w' := by
 have hKX := Aside0.mk hk
 have hS := Aside0.mk hS
 have hX := Aside0.mk hx
 have hN0 := Aside0.mk hn0
 have hN1 := Aside0.mk hn1
 have hN2 := Aside0.mk hn2
 have hN5 := Aside0.mk hn5
 have HE := Aside0.mk h
 clear hk hx hn0 hn1 hn2 hn5 h
 have hu45 := Tryz.underlying27
 have hu26 := Tryz.underlying25
 have hu58 := Tryz.underlying88
 have hu74 := Tryz.underlying93
 have HB := Aside0.mk (Below.refl w.heap.size w)
 go_enter Tryz.func14, Tryz.ntmps14
 go_upto_region 5 with (first | ((with_reducible refine gate_dst (N := 2) rfl ?_); refine box_event ?hg (N := 2) ?hd (cs := #[.int .i64 0, .int .i64 0, .int .i64 0, .int .i64 0, .int .u32 0, .int .u32 0, .int .i64 0]) (t := 27) ?hr ?_; (case hd => rfl); (case hg => rfl); (case hr => first | (go_simp; done) | (go_simp; rfl)); intro g2 hg w6 hbox hb; have BM2 := Aside0.mk hbox; have GE2 := Aside0.mk (show w.heap.size ≤ g2 by rw [hg]; exact below_size HB.out); have n1_ := Aside0.mk (below_step HB.out hb); clear HB; have HB := n1_; clear n1_ hb hbox hg) | (go_at_call 56; refine (strings_Split.calls _ _ _ _ (HLd.below HB.out) hS.out).mono ?_; rintro e w7 ⟨v8, rfl, hR, hb⟩; have n0_ := Aside0.mk (blk_below BM2.out hb); have n1_ := Aside0.mk (below_step HB.out hb); obtain ⟨A8, c8, hv8, hc8, hC8⟩ := Kd.R_reads hR; subst hv8; obtain ⟨ad, hA8, _⟩ := hC8.2.2 (show 0 < 6 by decide); subst hA8; have hsp := C_spot hC8 rfl; generalize ad.block = bk at hsp; generalize ad.off = oo at hsp; subst hsp; have HC := Aside0.mk hC8; clear BM2 HB hb hR hC8; have BM2 := n0_; have HB := n1_; clear n0_ n1_) | (go_at_call 47; refine (rule_named_calls _).mono ?_; rintro e w8 ⟨rfl, hb⟩; have n0_ := Aside0.mk (blk_below BM2.out hb); have n1_ := Aside0.mk (below_step HB.out hb); have n2_ := Aside0.mk (Kd.C_below HC.out hb); clear BM2 HB HC hb; have BM2 := n0_; have HB := n1_; have HC := n2_; clear n0_ n1_ n2_) | ((with_reducible refine gate_dst (N := 5) rfl ?_); refine box_event ?hg (N := 5) ?hd (cs := #[.string ⟨#[]⟩, .string ⟨#[]⟩, .string ⟨#[]⟩, .string ⟨#[]⟩]) (t := 93) ?hr ?_; (case hd => rfl); (case hg => rfl); (case hr => first | (go_simp; done) | (go_simp; rfl)); intro g5 hg w9 hbox hb; have NE25 := Aside0.mk (ne_of_blk BM2.out hg); have CG5 := Aside0.mk (show (⟨bk, oo, none⟩ : Addr).block ≠ g5 by have := World.block_lt_of_cell? _ _ (C_atN HC.out 0 _ rfl); simp only at this ⊢; omega); have GE5 := Aside0.mk (show w.heap.size ≤ g5 by rw [hg]; exact below_size HB.out); have BM5 := Aside0.mk hbox; have n0_ := Aside0.mk (blk_below BM2.out hb); have n1_ := Aside0.mk (below_step HB.out hb); have n2_ := Aside0.mk (Kd.C_below HC.out hb); clear BM2 HB HC hb hbox hg; have BM2 := n0_; have HB := n1_; have HC := n2_; clear n0_ n1_ n2_) | ((with_reducible refine gate_ (.store 93 (.tmp 5) (.tmp 21)) rfl ?_); refine store_block rfl rfl 93 (.tmp 5) (.tmp 21) rfl kindWords [.string wForward, .string wDrop, .string wPermit, .string wDeny] rfl rfl rfl (by kernel_rfl) kindWords_one BM5.out rfl ?_; intro w10 hm hgr; have n0_ := Aside0.mk (blk_grown BM2.out hgr NE25.out); have n1_ := Aside0.mk (pw_below_grown HB.out (some g5) HB.out.size hgr (fun k hk => by injection hk with hk; subst hk; exact GE5.out)); have n2_ := Aside0.mk (C_grownS HC.out hgr CG5.out); clear BM2 HB HC BM5; have BM5 := Aside0.mk hm; have BM2 := n0_; have HB := n1_; have HC := n2_; clear n0_ n1_ n2_ hm hgr))
 have n0_ := Aside0.mk (blk_drew BM2.out)
 have n1_ := Aside0.mk (below_drew1 HB.out)
 have n2_ := Aside0.mk (Kd.C_below HC.out (below_drew1 (Below.refl _ _)))
 have n3_ := Aside0.mk (blk_drew BM5.out)
 clear BM2 HB HC BM5
 have BM2 := n0_
 have HB := n1_
 have HC := n2_
 have BM5 := n3_
 clear n0_ n1_ n2_ n3_
 refine start_ (n := 6) (S := fun w' => w'.cell? ⟨bk, oo + 3, none⟩ = some (.string w3)) (ds := [4]) #[false, false, false, false, false, false] (by kernel_rfl) rfl rfl (C_atN HC.out 3 _ rfl) (fun hHeld => ?_)
 refine with_tabW rule_Parse.tab5 rule_Parse.bits5 (fun HT_ HW_ => ?_)
 generalize World.drew _ = w7 at HC HB BM2 BM5 hHeld ⊢
 refine pure_ (i := 0) (N := some 22) (v := ?_) (a' := ?_) #[true, false, false, false, false, false] rfl rfl (any_of HT_.out (by kernel_rfl)) (fun _ _ _ h => h) (Or.inl ⟨by rfl, ?_⟩) ?_ ?_
 rotate_left
 ·intro w'
  go_simp
  with_reducible rfl
 rotate_left
 ·simp only [Act.put, sI_, z0_, z1_, i64_w, i32_w]
  rfl
 refine pure_ (i := 1) (N := some 23) (v := ?_) (a' := ?_) #[true, true, false, false, false, false] rfl rfl (any_of HT_.out (by kernel_rfl)) (fun _ _ _ h => h) (Or.inl ⟨by rfl, ?_⟩) ?_ ?_
 rotate_left
 ·intro w'
  go_simp
  with_reducible rfl
 rotate_left
 ·simp only [Act.put, sI_, z0_, z1_, i64_w, i32_w]
  rfl
 refine pure_ (i := 2) (N := some 24) (v := ?_) (a' := ?_) #[true, true, true, false, false, false] rfl rfl (any_of HT_.out (by kernel_rfl)) (fun _ _ _ h => h) (Or.inl ⟨by rfl, ?_⟩) ?_ ?_
 rotate_left
 ·intro w'
  go_simp
  with_reducible rfl
 rotate_left
 ·simp only [Act.put, sI_, z0_, z1_, i64_w, i32_w]
  rfl
 refine take_ (i := 3) (N := some 25) (v := ?_) (a' := ?_) #[true, true, true, true, false, false] rfl rfl (take_ofW HT_.out HW_.out (by kernel_rfl)) (fun _ _ _ h => h) (Or.inl ⟨by rfl, ?_⟩) hHeld ?_ ?_
 rotate_left
 ·intro w' s0
  go_simp
  with_reducible rfl
 rotate_left
 ·simp only [Act.put, sI_, z0_, z1_, i64_w, i32_w]
  rfl
 refine last_ (i := 4) (N := some 26) #[true, true, true, true, true, false] rfl rfl (one_of HT_.out (by kernel_rfl)) (by decide) (fun K hK => ?_)
 refine goes_ Tryz.func57 (by kernel_rfl) rfl #[.slice (some ⟨g5, 0, none⟩) 4 4, .string w3] (by rfl) rfl rfl (by simp only [mA_, mC_, mN_]; rfl) ?_
 with_reducible refine (index4_calls _ _ _ _ BM5.out hKX.out).mono ?_
 rintro e w4 ⟨rfl, ⟨nd, rfl⟩⟩
 refine ⟨_, rfl, ?_⟩
 refine hK.out _ _ ?_
 clear hK K
 refine norm_ (a' := ?_) ?_ ?_
 rotate_left
 ·show Act.put _ (some 26) _ = _
  simp only [Act.put, sI_, z0_, z1_, i64_w, i32_w]
  rfl
 refine pure_ (i := 5) (N := some 6) (v := ?_) (a' := ?_) #[true, true, true, true, true, true] rfl rfl (any_of HT_.out (by kernel_rfl)) (fun _ _ _ h => h) (Or.inl ⟨by rfl, ?_⟩) ?_ ?_
 rotate_left
 ·intro w'
  go_simp
  with_reducible rfl
 rotate_left
 ·simp only [Act.put, sI_, z0_, z1_, i64_w, i32_w]
  rfl
 refine done_ (done_of HT_.out (by kernel_rfl)) ?_
 clear BM5 NE25 CG5 GE5
 have n0_ := Aside0.mk (blk_drewN BM2.out nd)
 have n1_ := Aside0.mk (pw_below_drewN HB.out nd)
 have n2_ := Aside0.mk (Kd.C_below HC.out (pw_below_drewN (Below.refl _ _) nd))
 clear BM2 HB HC
 have BM2 := n0_
 have HB := n1_
 have HC := n2_
 clear n0_ n1_ n2_
 have c4 := C_atN HC.out 4 _ rfl
 go_upto_region 7 with (first | (go_at_call 58; refine (prefix_ParseRange.calls 7 w4 x0 x1 xe _ (HLd.below HB.out) hX.out).mono ?_; rintro e w11 ⟨rfl, hb⟩; have n0_ := Aside0.mk (blk_below BM2.out hb); have n1_ := Aside0.mk (below_step HB.out hb); have n2_ := Aside0.mk (Kd.C_below HC.out hb); clear BM2 HB HC c4 hb; have BM2 := n0_; have HB := n1_; have HC := n2_; clear n0_ n1_ n2_) | ((with_reducible refine gate_dst (N := 7) rfl ?_); refine box_event ?hg (N := 7) ?hd (cs := #[.int .u32 0, .int .u32 0]) (t := 25) ?hr ?_; (case hd => rfl); (case hg => rfl); (case hr => first | (go_simp; done) | (go_simp; rfl)); intro g7 hg w12 hbox hb; have NE27 := Aside0.mk (ne_of_blk BM2.out hg); have CG7 := Aside0.mk (show (⟨bk, oo, none⟩ : Addr).block ≠ g7 by have := World.block_lt_of_cell? _ _ (C_atN HC.out 0 _ rfl); simp only at this ⊢; omega); have GE7 := Aside0.mk (show w.heap.size ≤ g7 by rw [hg]; exact below_size HB.out); have B7 := Aside0.mk hbox; have n0_ := Aside0.mk (blk_below BM2.out hb); have n1_ := Aside0.mk (below_step HB.out hb); have n2_ := Aside0.mk (Kd.C_below HC.out hb); clear BM2 HB HC hb hbox hg; have BM2 := n0_; have HB := n1_; have HC := n2_; clear n0_ n1_ n2_) | ((with_reducible refine gate_ (.store 25 (.tmp 7) (.tmp 32)) rfl ?_); refine store_block rfl rfl 25 (.tmp 7) (.tmp 32) rfl (.agg #[.int .u32 x0, .int .u32 x1]) [.int .u32 x0, .int .u32 x1] rfl rfl rfl (by kernel_rfl) (range_one x0 x1) B7.out rfl ?_; intro w13 hm hgr; have n0_ := Aside0.mk (blk_grown BM2.out hgr NE27.out); have n1_ := Aside0.mk (pw_below_grown HB.out (some g7) HB.out.size hgr (fun k hk => by injection hk with hk; subst hk; exact GE7.out)); have n2_ := Aside0.mk (C_grownS HC.out hgr CG7.out); clear BM2 HB HC B7; have B7 := Aside0.mk hm; have BM2 := n0_; have HB := n1_; have HC := n2_; clear n0_ n1_ n2_ hm hgr))
 have n0_ := Aside0.mk (blk_drew BM2.out)
 have n1_ := Aside0.mk (below_drew1 HB.out)
 have n2_ := Aside0.mk (Kd.C_below HC.out (below_drew1 (Below.refl _ _)))
 have n3_ := Aside0.mk (blk_drew B7.out)
 clear BM2 HB HC B7
 have BM2 := n0_
 have HB := n1_
 have HC := n2_
 have B7 := n3_
 clear n0_ n1_ n2_ n3_
 refine start_ (n := 17) (S := fun w' => w'.cell? ⟨bk, oo, none⟩ = some (.string w0) ∧ w'.cell? ⟨bk, oo + 1, none⟩ = some (.string w1) ∧ w'.cell? ⟨bk, oo + 2, none⟩ = some (.string w2) ∧ w'.cell? ⟨g7, 0, none⟩ = some (.int .u32 x0) ∧ w'.cell? ⟨g7, 1, none⟩ = some (.int .u32 x1)) (ds := [16]) #[false, false, false, false, false, false, false, false, false, false, false, false, false, false, false, false, false] (by kernel_rfl) rfl rfl ⟨C_atN HC.out 0 _ rfl, C_atN HC.out 1 _ rfl, C_atN HC.out 2 _ rfl, (blk_cell B7.out 0).trans rfl, (blk_cell B7.out 1).trans rfl⟩ (fun hHeld => ?_)
 refine with_tabW rule_Parse.tab7 rule_Parse.bits7 (fun HT_ HW_ => ?_)
 generalize World.drew _ = wp at HC HB BM2 B7 hHeld ⊢
 refine pure_ (i := 0) (N := some 34) (v := ?_) (a' := ?_) #[true, false, false, false, false, false, false, false, false, false, false, false, false, false, false, false, false] rfl rfl (any_of HT_.out (by kernel_rfl)) (fun _ _ _ h => h) (Or.inl ⟨by rfl, ?_⟩) ?_ ?_
 rotate_left
 ·intro w'
  go_simp
  with_reducible rfl
 rotate_left
 ·simp only [Act.put, sI_, z0_, z1_, i64_w, i32_w]
  rfl
 refine pure_ (i := 1) (N := some 35) (v := ?_) (a' := ?_) #[true, true, false, false, false, false, false, false, false, false, false, false, false, false, false, false, false] rfl rfl (any_of HT_.out (by kernel_rfl)) (fun _ _ _ h => h) (Or.inl ⟨by rfl, ?_⟩) ?_ ?_
 rotate_left
 ·intro w'
  go_simp
  with_reducible rfl
 rotate_left
 ·simp only [Act.put, sI_, z0_, z1_, i64_w, i32_w]
  rfl
 refine pure_ (i := 4) (N := some 38) (v := ?_) (a' := ?_) #[true, true, false, false, true, false, false, false, false, false, false, false, false, false, false, false, false] rfl rfl (any_of HT_.out (by kernel_rfl)) (fun _ _ _ h => h) (Or.inl ⟨by rfl, ?_⟩) ?_ ?_
 rotate_left
 ·intro w'
  go_simp
  with_reducible rfl
 rotate_left
 ·simp only [Act.put, sI_, z0_, z1_, i64_w, i32_w]
  rfl
 refine pure_ (i := 5) (N := some 39) (v := ?_) (a' := ?_) #[true, true, false, false, true, true, false, false, false, false, false, false, false, false, false, false, false] rfl rfl (any_of HT_.out (by kernel_rfl)) (fun _ _ _ h => h) (Or.inl ⟨by rfl, ?_⟩) ?_ ?_
 rotate_left
 ·intro w'
  go_simp
  with_reducible rfl
 rotate_left
 ·simp only [Act.put, sI_, z0_, z1_, i64_w, i32_w]
  rfl
 refine pure_ (i := 8) (N := some 42) (v := ?_) (a' := ?_) #[true, true, false, false, true, true, false, false, true, false, false, false, false, false, false, false, false] rfl rfl (any_of HT_.out (by kernel_rfl)) (fun _ _ _ h => h) (Or.inl ⟨by rfl, ?_⟩) ?_ ?_
 rotate_left
 ·intro w'
  go_simp
  with_reducible rfl
 rotate_left
 ·simp only [Act.put, sI_, z0_, z1_, i64_w, i32_w]
  rfl
 refine pure_ (i := 9) (N := some 43) (v := ?_) (a' := ?_) #[true, true, false, false, true, true, false, false, true, true, false, false, false, false, false, false, false] rfl rfl (any_of HT_.out (by kernel_rfl)) (fun _ _ _ h => h) (Or.inl ⟨by rfl, ?_⟩) ?_ ?_
 rotate_left
 ·intro w'
  go_simp
  with_reducible rfl
 rotate_left
 ·simp only [Act.put, sI_, z0_, z1_, i64_w, i32_w]
  rfl
 refine pure_ (i := 12) (N := some 46) (v := ?_) (a' := ?_) #[true, true, false, false, true, true, false, false, true, true, false, false, true, false, false, false, false] rfl rfl (any_of HT_.out (by kernel_rfl)) (fun _ _ _ h => h) (Or.inl ⟨by rfl, ?_⟩) ?_ ?_
 rotate_left
 ·intro w'
  go_simp
  with_reducible rfl
 rotate_left
 ·simp only [Act.put, sI_, z0_, z1_, i64_w, i32_w]
  rfl
 refine take_ (i := 2) (N := some 36) (v := ?_) (a' := ?_) #[true, true, true, false, true, true, false, false, true, true, false, false, true, false, false, false, false] rfl rfl (take_ofW HT_.out HW_.out (by kernel_rfl)) (fun _ _ _ h => h) (Or.inl ⟨by rfl, ?_⟩) hHeld ?_ ?_
 rotate_left
 ·rintro w' ⟨s0, s1, s2, s3, s4⟩
  go_simp
  with_reducible rfl
 rotate_left
 ·simp only [Act.put, sI_, z0_, z1_, i64_w, i32_w]
  rfl
 refine take_ (i := 6) (N := some 40) (v := ?_) (a' := ?_) #[true, true, true, false, true, true, true, false, true, true, false, false, true, false, false, false, false] rfl rfl (take_ofW HT_.out HW_.out (by kernel_rfl)) (fun _ _ _ h => h) (Or.inl ⟨by rfl, ?_⟩) hHeld ?_ ?_
 rotate_left
 ·rintro w' ⟨s0, s1, s2, s3, s4⟩
  go_simp
  with_reducible rfl
 rotate_left
 ·simp only [Act.put, sI_, z0_, z1_, i64_w, i32_w]
  rfl
 refine take_ (i := 10) (N := some 44) (v := ?_) (a' := ?_) #[true, true, true, false, true, true, true, false, true, true, true, false, true, false, false, false, false] rfl rfl (take_ofW HT_.out HW_.out (by kernel_rfl)) (fun _ _ _ h => h) (Or.inl ⟨by rfl, ?_⟩) hHeld ?_ ?_
 rotate_left
 ·rintro w' ⟨s0, s1, s2, s3, s4⟩
  go_simp
  with_reducible rfl
 rotate_left
 ·simp only [Act.put, sI_, z0_, z1_, i64_w, i32_w]
  rfl
 refine take_ (i := 13) (N := some 47) (v := ?_) (a' := ?_) #[true, true, true, false, true, true, true, false, true, true, true, false, true, true, false, false, false] rfl rfl (take_ofW HT_.out HW_.out (by kernel_rfl)) (fun _ _ _ h => h) (Or.inl ⟨by rfl, ?_⟩) hHeld ?_ ?_
 rotate_left
 ·rintro w' ⟨s0, s1, s2, s3, s4⟩
  go_simp
  with_reducible rfl
 rotate_left
 ·simp only [Act.put, sI_, z0_, z1_, i64_w, i32_w]
  rfl
 refine join_ (σ := Nat) 1 #[true, true, true, true, true, true, true, true, true, true, true, true, true, true, true, true, false] (fun s => [(37, Value.int .i64 n0), (41, Value.int .i64 n1), (45, Value.int .i64 n2), (9, Value.pointer (some ⟨s, 0, none⟩)), (48, Value.agg #[.int .i64 n0, .int .i64 n1, .int .i64 n2, .int .i64 kx, .int .u32 x0, .int .u32 x1, .int .i64 0])]) (fun s w' => Aside0 (w'.heap[s]? = some (.cells #[.int .i64 0, .int .i64 0, .int .i64 0, .int .i64 0, .int .u32 0, .int .u32 0, .int .i64 0] 27 (0, 0))) ∧ Aside0 (w'.heap[g7]? = some (.cells #[.int .u32 x0, .int .u32 x1] 25 (0, 0))) ∧ Aside0 (Below w.heap.size w w') ∧ Aside0 (Kd.C Kd.string w' (some ⟨bk, oo, none⟩) 6 [w0, w1, w2, w3, w4, w5]) ∧ Aside0 (w'.heap[g2]? = some (.cells #[.int .i64 0, .int .i64 0, .int .i64 0, .int .i64 0, .int .u32 0, .int .u32 0, .int .i64 0] 27 (0, 0))) ∧ Aside0 (w.heap.size ≤ s) ∧ Aside0 (some g2 ≠ some s) ∧ Aside0 ((⟨bk, oo, none⟩ : Addr).block ≠ s)) ?_ ?_
 rotate_left
 ·intro hCont
  refine two_ (i := 3) (j := 15) (Ni := some 37) (Nj := some 9) #[true, true, true, true, true, true, true, false, true, true, true, false, true, true, false, false, false] #[true, true, true, false, true, true, true, false, true, true, true, false, true, true, false, true, false] rfl rfl rfl rfl (two_of HT_.out (by kernel_rfl)) (by decide) (by decide) (fun K hK => ?_) (fun K hK => ?_)
  ·skip
   refine goes_ Tryz.func59 (by kernel_rfl) rfl #[.string w0] (by rfl) rfl rfl (by simp only [mA_, mC_, mN_]; rfl) ?_
   with_reducible refine (rule_number.calls w0 n0 _ (HLd.below HB.out) hN0.out).mono ?_
   rintro e wq ⟨rfl, hb⟩
   refine ⟨_, rfl, ?_⟩
   have n0_ := Aside0.mk (blk_below B7.out hb)
   have n1_ := Aside0.mk (below_step HB.out hb)
   have n2_ := Aside0.mk (Kd.C_below HC.out hb)
   have n3_ := Aside0.mk (blk_below BM2.out hb)
   clear B7 HB HC BM2 hb
   have B7 := n0_
   have HB := n1_
   have HC := n2_
   have BM2 := n3_
   clear n0_ n1_ n2_ n3_
   refine hK.out _ _ ⟨C_atN HC.out 0 _ rfl, C_atN HC.out 1 _ rfl, C_atN HC.out 2 _ rfl, (blk_cell B7.out 0).trans rfl, (blk_cell B7.out 1).trans rfl⟩ (fun hHeld => ?_)
   clear hK K
   refine norm_ (a' := ?_) ?_ ?_
   rotate_left
   ·show Act.put _ (some 37) _ = _
    simp only [Act.put, sI_, z0_, z1_, i64_w, i32_w]
    rfl
   refine two_ (i := 7) (j := 15) (Ni := some 41) (Nj := some 9) #[true, true, true, true, true, true, true, true, true, true, true, false, true, true, false, false, false] #[true, true, true, true, true, true, true, false, true, true, true, false, true, true, false, true, false] rfl rfl rfl rfl (two_of HT_.out (by kernel_rfl)) (by decide) (by decide) (fun K hK => ?_) (fun K hK => ?_)
   ·skip
    refine goes_ Tryz.func59 (by kernel_rfl) rfl #[.string w1] (by rfl) rfl rfl (by simp only [mA_, mC_, mN_]; rfl) ?_
    with_reducible refine (rule_number.calls w1 n1 _ (HLd.below HB.out) hN1.out).mono ?_
    rintro e wq ⟨rfl, hb⟩
    refine ⟨_, rfl, ?_⟩
    have n0_ := Aside0.mk (blk_below B7.out hb)
    have n1_ := Aside0.mk (below_step HB.out hb)
    have n2_ := Aside0.mk (Kd.C_below HC.out hb)
    have n3_ := Aside0.mk (blk_below BM2.out hb)
    clear B7 HB HC BM2 hb
    have B7 := n0_
    have HB := n1_
    have HC := n2_
    have BM2 := n3_
    clear n0_ n1_ n2_ n3_
    refine hK.out _ _ ⟨C_atN HC.out 0 _ rfl, C_atN HC.out 1 _ rfl, C_atN HC.out 2 _ rfl, (blk_cell B7.out 0).trans rfl, (blk_cell B7.out 1).trans rfl⟩ (fun hHeld => ?_)
    clear hK K
    refine norm_ (a' := ?_) ?_ ?_
    rotate_left
    ·show Act.put _ (some 41) _ = _
     simp only [Act.put, sI_, z0_, z1_, i64_w, i32_w]
     rfl
    refine two_ (i := 11) (j := 15) (Ni := some 45) (Nj := some 9) #[true, true, true, true, true, true, true, true, true, true, true, true, true, true, false, false, false] #[true, true, true, true, true, true, true, true, true, true, true, false, true, true, false, true, false] rfl rfl rfl rfl (two_of HT_.out (by kernel_rfl)) (by decide) (by decide) (fun K hK => ?_) (fun K hK => ?_)
    ·skip
     refine goes_ Tryz.func59 (by kernel_rfl) rfl #[.string w2] (by rfl) rfl rfl (by simp only [mA_, mC_, mN_]; rfl) ?_
     with_reducible refine (rule_number.calls w2 n2 _ (HLd.below HB.out) hN2.out).mono ?_
     rintro e wq ⟨rfl, hb⟩
     refine ⟨_, rfl, ?_⟩
     have n0_ := Aside0.mk (blk_below B7.out hb)
     have n1_ := Aside0.mk (below_step HB.out hb)
     have n2_ := Aside0.mk (Kd.C_below HC.out hb)
     have n3_ := Aside0.mk (blk_below BM2.out hb)
     clear B7 HB HC BM2 hb
     have B7 := n0_
     have HB := n1_
     have HC := n2_
     have BM2 := n3_
     clear n0_ n1_ n2_ n3_
     refine hK.out _ _ ⟨C_atN HC.out 0 _ rfl, C_atN HC.out 1 _ rfl, C_atN HC.out 2 _ rfl, (blk_cell B7.out 0).trans rfl, (blk_cell B7.out 1).trans rfl⟩ (fun hHeld => ?_)
     clear hK K
     refine norm_ (a' := ?_) ?_ ?_
     rotate_left
     ·show Act.put _ (some 45) _ = _
      simp only [Act.put, sI_, z0_, z1_, i64_w, i32_w]
      rfl
     refine pure_ (i := 14) (N := some 48) (v := ?_) (a' := ?_) #[true, true, true, true, true, true, true, true, true, true, true, true, true, true, true, false, false] rfl rfl (any_of HT_.out (by kernel_rfl)) (fun _ _ _ h => h) (Or.inl ⟨by rfl, ?_⟩) ?_ ?_
     rotate_left
     ·intro w'
      go_simp
      with_reducible rfl
     rotate_left
     ·simp only [Act.put, sI_, z0_, z1_, i64_w, i32_w]
      rfl
     refine one_ (i := 15) (N := some 9) #[true, true, true, true, true, true, true, true, true, true, true, true, true, true, true, true, false] rfl rfl (one_of HT_.out (by kernel_rfl)) (by decide) (fun K hK => ?_)
     refine value_ (w1 := ?_) (v := ?_) (by rfl) rfl ?_ ?_
     rotate_left 2
     ·go_simp
      constructor
      ·rfl
      ·rfl
     have hb : Below wq.heap.size wq (wq.alloc (.cells #[.int .i64 0, .int .i64 0, .int .i64 0, .int .i64 0, .int .u32 0, .int .u32 0, .int .i64 0] 27)) := below_alloc (Below.refl _ _) _
     have BN := Aside0.mk (blk_new wq (.cells #[.int .i64 0, .int .i64 0, .int .i64 0, .int .i64 0, .int .u32 0, .int .u32 0, .int .i64 0] 27))
     have GE9 := Aside0.mk (show w.heap.size ≤ wq.heap.size from below_size HB.out)
     have NE9 := Aside0.mk (ne_of_blk BM2.out (rfl : wq.heap.size = wq.heap.size))
     have CG9 := Aside0.mk (show (⟨bk, oo, none⟩ : Addr).block ≠ wq.heap.size by have := World.block_lt_of_cell? _ _ (C_atN HC.out 0 _ rfl); simp only at this ⊢; omega)
     have n0_ := Aside0.mk (blk_below B7.out hb)
     have n1_ := Aside0.mk (below_step HB.out hb)
     have n2_ := Aside0.mk (Kd.C_below HC.out hb)
     have n3_ := Aside0.mk (blk_below BM2.out hb)
     clear B7 HB HC BM2 hb
     have B7 := n0_
     have HB := n1_
     have HC := n2_
     have BM2 := n3_
     clear n0_ n1_ n2_ n3_
     generalize World.alloc _ _ = wa at BN B7 HB HC BM2 ⊢
     generalize wq.heap.size = g9 at BN GE9 NE9 CG9 ⊢
     refine hK.out _ _ ⟨C_atN HC.out 0 _ rfl, C_atN HC.out 1 _ rfl, C_atN HC.out 2 _ rfl, (blk_cell B7.out 0).trans rfl, (blk_cell B7.out 1).trans rfl⟩ (fun hHeld => ?_)
     clear hK K
     refine norm_ (a' := ?_) ?_ ?_
     rotate_left
     ·show Act.put _ (some 9) _ = _
      simp only [Act.put, sI_, z0_, z1_, i64_w, i32_w]
      rfl
     exact norm_ (by simp only [putAll, Act.put, sI_, z0_, z1_]) (hCont g9 _ ⟨BN, B7, HB, HC, BM2, GE9, NE9, CG9⟩)
    ·skip
     refine value_ (w1 := ?_) (v := ?_) (by rfl) rfl ?_ ?_
     rotate_left 2
     ·go_simp
      constructor
      ·rfl
      ·rfl
     have hb : Below wq.heap.size wq (wq.alloc (.cells #[.int .i64 0, .int .i64 0, .int .i64 0, .int .i64 0, .int .u32 0, .int .u32 0, .int .i64 0] 27)) := below_alloc (Below.refl _ _) _
     have BN := Aside0.mk (blk_new wq (.cells #[.int .i64 0, .int .i64 0, .int .i64 0, .int .i64 0, .int .u32 0, .int .u32 0, .int .i64 0] 27))
     have GE9 := Aside0.mk (show w.heap.size ≤ wq.heap.size from below_size HB.out)
     have NE9 := Aside0.mk (ne_of_blk BM2.out (rfl : wq.heap.size = wq.heap.size))
     have CG9 := Aside0.mk (show (⟨bk, oo, none⟩ : Addr).block ≠ wq.heap.size by have := World.block_lt_of_cell? _ _ (C_atN HC.out 0 _ rfl); simp only at this ⊢; omega)
     have n0_ := Aside0.mk (blk_below B7.out hb)
     have n1_ := Aside0.mk (below_step HB.out hb)
     have n2_ := Aside0.mk (Kd.C_below HC.out hb)
     have n3_ := Aside0.mk (blk_below BM2.out hb)
     clear B7 HB HC BM2 hb
     have B7 := n0_
     have HB := n1_
     have HC := n2_
     have BM2 := n3_
     clear n0_ n1_ n2_ n3_
     generalize World.alloc _ _ = wa at BN B7 HB HC BM2 ⊢
     generalize wq.heap.size = g9 at BN GE9 NE9 CG9 ⊢
     refine hK.out _ _ ⟨C_atN HC.out 0 _ rfl, C_atN HC.out 1 _ rfl, C_atN HC.out 2 _ rfl, (blk_cell B7.out 0).trans rfl, (blk_cell B7.out 1).trans rfl⟩ (fun hHeld => ?_)
     clear hK K
     refine norm_ (a' := ?_) ?_ ?_
     rotate_left
     ·show Act.put _ (some 9) _ = _
      simp only [Act.put, sI_, z0_, z1_, i64_w, i32_w]
      rfl
     refine one_ (i := 11) (N := some 45) #[true, true, true, true, true, true, true, true, true, true, true, true, true, true, false, true, false] rfl rfl (one_of HT_.out (by kernel_rfl)) (by decide) (fun K hK => ?_)
     refine goes_ Tryz.func59 (by kernel_rfl) rfl #[.string w2] (by rfl) rfl rfl (by simp only [mA_, mC_, mN_]; rfl) ?_
     with_reducible refine (rule_number.calls w2 n2 _ (HLd.below HB.out) hN2.out).mono ?_
     rintro e wq ⟨rfl, hb⟩
     refine ⟨_, rfl, ?_⟩
     have n0_ := Aside0.mk (blk_below B7.out hb)
     have n1_ := Aside0.mk (below_step HB.out hb)
     have n2_ := Aside0.mk (Kd.C_below HC.out hb)
     have n3_ := Aside0.mk (blk_below BM2.out hb)
     have n4_ := Aside0.mk (blk_below BN.out hb)
     clear B7 HB HC BM2 hb BN
     have B7 := n0_
     have HB := n1_
     have HC := n2_
     have BM2 := n3_
     have BN := n4_
     clear n0_ n1_ n2_ n3_ n4_
     refine hK.out _ _ ⟨C_atN HC.out 0 _ rfl, C_atN HC.out 1 _ rfl, C_atN HC.out 2 _ rfl, (blk_cell B7.out 0).trans rfl, (blk_cell B7.out 1).trans rfl⟩ (fun hHeld => ?_)
     clear hK K
     refine norm_ (a' := ?_) ?_ ?_
     rotate_left
     ·show Act.put _ (some 45) _ = _
      simp only [Act.put, sI_, z0_, z1_, i64_w, i32_w]
      rfl
     refine pure_ (i := 14) (N := some 48) (v := ?_) (a' := ?_) #[true, true, true, true, true, true, true, true, true, true, true, true, true, true, true, true, false] rfl rfl (any_of HT_.out (by kernel_rfl)) (fun _ _ _ h => h) (Or.inl ⟨by rfl, ?_⟩) ?_ ?_
     rotate_left
     ·intro w'
      go_simp
      with_reducible rfl
     rotate_left
     ·simp only [Act.put, sI_, z0_, z1_, i64_w, i32_w]
      rfl
     exact norm_ (by simp only [putAll, Act.put, sI_, z0_, z1_]) (hCont g9 _ ⟨BN, B7, HB, HC, BM2, GE9, NE9, CG9⟩)
   ·skip
    refine value_ (w1 := ?_) (v := ?_) (by rfl) rfl ?_ ?_
    rotate_left 2
    ·go_simp
     constructor
     ·rfl
     ·rfl
    have hb : Below wq.heap.size wq (wq.alloc (.cells #[.int .i64 0, .int .i64 0, .int .i64 0, .int .i64 0, .int .u32 0, .int .u32 0, .int .i64 0] 27)) := below_alloc (Below.refl _ _) _
    have BN := Aside0.mk (blk_new wq (.cells #[.int .i64 0, .int .i64 0, .int .i64 0, .int .i64 0, .int .u32 0, .int .u32 0, .int .i64 0] 27))
    have GE9 := Aside0.mk (show w.heap.size ≤ wq.heap.size from below_size HB.out)
    have NE9 := Aside0.mk (ne_of_blk BM2.out (rfl : wq.heap.size = wq.heap.size))
    have CG9 := Aside0.mk (show (⟨bk, oo, none⟩ : Addr).block ≠ wq.heap.size by have := World.block_lt_of_cell? _ _ (C_atN HC.out 0 _ rfl); simp only at this ⊢; omega)
    have n0_ := Aside0.mk (blk_below B7.out hb)
    have n1_ := Aside0.mk (below_step HB.out hb)
    have n2_ := Aside0.mk (Kd.C_below HC.out hb)
    have n3_ := Aside0.mk (blk_below BM2.out hb)
    clear B7 HB HC BM2 hb
    have B7 := n0_
    have HB := n1_
    have HC := n2_
    have BM2 := n3_
    clear n0_ n1_ n2_ n3_
    generalize World.alloc _ _ = wa at BN B7 HB HC BM2 ⊢
    generalize wq.heap.size = g9 at BN GE9 NE9 CG9 ⊢
    refine hK.out _ _ ⟨C_atN HC.out 0 _ rfl, C_atN HC.out 1 _ rfl, C_atN HC.out 2 _ rfl, (blk_cell B7.out 0).trans rfl, (blk_cell B7.out 1).trans rfl⟩ (fun hHeld => ?_)
    clear hK K
    refine norm_ (a' := ?_) ?_ ?_
    rotate_left
    ·show Act.put _ (some 9) _ = _
     simp only [Act.put, sI_, z0_, z1_, i64_w, i32_w]
     rfl
    refine one_ (i := 7) (N := some 41) #[true, true, true, true, true, true, true, true, true, true, true, false, true, true, false, true, false] rfl rfl (one_of HT_.out (by kernel_rfl)) (by decide) (fun K hK => ?_)
    refine goes_ Tryz.func59 (by kernel_rfl) rfl #[.string w1] (by rfl) rfl rfl (by simp only [mA_, mC_, mN_]; rfl) ?_
    with_reducible refine (rule_number.calls w1 n1 _ (HLd.below HB.out) hN1.out).mono ?_
    rintro e wq ⟨rfl, hb⟩
    refine ⟨_, rfl, ?_⟩
    have n0_ := Aside0.mk (blk_below B7.out hb)
    have n1_ := Aside0.mk (below_step HB.out hb)
    have n2_ := Aside0.mk (Kd.C_below HC.out hb)
    have n3_ := Aside0.mk (blk_below BM2.out hb)
    have n4_ := Aside0.mk (blk_below BN.out hb)
    clear B7 HB HC BM2 hb BN
    have B7 := n0_
    have HB := n1_
    have HC := n2_
    have BM2 := n3_
    have BN := n4_
    clear n0_ n1_ n2_ n3_ n4_
    refine hK.out _ _ ⟨C_atN HC.out 0 _ rfl, C_atN HC.out 1 _ rfl, C_atN HC.out 2 _ rfl, (blk_cell B7.out 0).trans rfl, (blk_cell B7.out 1).trans rfl⟩ (fun hHeld => ?_)
    clear hK K
    refine norm_ (a' := ?_) ?_ ?_
    rotate_left
    ·show Act.put _ (some 41) _ = _
     simp only [Act.put, sI_, z0_, z1_, i64_w, i32_w]
     rfl
    refine one_ (i := 11) (N := some 45) #[true, true, true, true, true, true, true, true, true, true, true, true, true, true, false, true, false] rfl rfl (one_of HT_.out (by kernel_rfl)) (by decide) (fun K hK => ?_)
    refine goes_ Tryz.func59 (by kernel_rfl) rfl #[.string w2] (by rfl) rfl rfl (by simp only [mA_, mC_, mN_]; rfl) ?_
    with_reducible refine (rule_number.calls w2 n2 _ (HLd.below HB.out) hN2.out).mono ?_
    rintro e wq ⟨rfl, hb⟩
    refine ⟨_, rfl, ?_⟩
    have n0_ := Aside0.mk (blk_below B7.out hb)
    have n1_ := Aside0.mk (below_step HB.out hb)
    have n2_ := Aside0.mk (Kd.C_below HC.out hb)
    have n3_ := Aside0.mk (blk_below BM2.out hb)
    have n4_ := Aside0.mk (blk_below BN.out hb)
    clear B7 HB HC BM2 hb BN
    have B7 := n0_
    have HB := n1_
    have HC := n2_
    have BM2 := n3_
    have BN := n4_
    clear n0_ n1_ n2_ n3_ n4_
    refine hK.out _ _ ⟨C_atN HC.out 0 _ rfl, C_atN HC.out 1 _ rfl, C_atN HC.out 2 _ rfl, (blk_cell B7.out 0).trans rfl, (blk_cell B7.out 1).trans rfl⟩ (fun hHeld => ?_)
    clear hK K
    refine norm_ (a' := ?_) ?_ ?_
    rotate_left
    ·show Act.put _ (some 45) _ = _
     simp only [Act.put, sI_, z0_, z1_, i64_w, i32_w]
     rfl
    refine pure_ (i := 14) (N := some 48) (v := ?_) (a' := ?_) #[true, true, true, true, true, true, true, true, true, true, true, true, true, true, true, true, false] rfl rfl (any_of HT_.out (by kernel_rfl)) (fun _ _ _ h => h) (Or.inl ⟨by rfl, ?_⟩) ?_ ?_
    rotate_left
    ·intro w'
     go_simp
     with_reducible rfl
    rotate_left
    ·simp only [Act.put, sI_, z0_, z1_, i64_w, i32_w]
     rfl
    exact norm_ (by simp only [putAll, Act.put, sI_, z0_, z1_]) (hCont g9 _ ⟨BN, B7, HB, HC, BM2, GE9, NE9, CG9⟩)
  ·skip
   refine value_ (w1 := ?_) (v := ?_) (by rfl) rfl ?_ ?_
   rotate_left 2
   ·go_simp
    constructor
    ·rfl
    ·rfl
   have hb : Below wp.heap.size wp (wp.alloc (.cells #[.int .i64 0, .int .i64 0, .int .i64 0, .int .i64 0, .int .u32 0, .int .u32 0, .int .i64 0] 27)) := below_alloc (Below.refl _ _) _
   have BN := Aside0.mk (blk_new wp (.cells #[.int .i64 0, .int .i64 0, .int .i64 0, .int .i64 0, .int .u32 0, .int .u32 0, .int .i64 0] 27))
   have GE9 := Aside0.mk (show w.heap.size ≤ wp.heap.size from below_size HB.out)
   have NE9 := Aside0.mk (ne_of_blk BM2.out (rfl : wp.heap.size = wp.heap.size))
   have CG9 := Aside0.mk (show (⟨bk, oo, none⟩ : Addr).block ≠ wp.heap.size by have := World.block_lt_of_cell? _ _ (C_atN HC.out 0 _ rfl); simp only at this ⊢; omega)
   have n0_ := Aside0.mk (blk_below B7.out hb)
   have n1_ := Aside0.mk (below_step HB.out hb)
   have n2_ := Aside0.mk (Kd.C_below HC.out hb)
   have n3_ := Aside0.mk (blk_below BM2.out hb)
   clear B7 HB HC BM2 hb
   have B7 := n0_
   have HB := n1_
   have HC := n2_
   have BM2 := n3_
   clear n0_ n1_ n2_ n3_
   generalize World.alloc _ _ = wa at BN B7 HB HC BM2 ⊢
   generalize wp.heap.size = g9 at BN GE9 NE9 CG9 ⊢
   refine hK.out _ _ ⟨C_atN HC.out 0 _ rfl, C_atN HC.out 1 _ rfl, C_atN HC.out 2 _ rfl, (blk_cell B7.out 0).trans rfl, (blk_cell B7.out 1).trans rfl⟩ (fun hHeld => ?_)
   clear hK K
   refine norm_ (a' := ?_) ?_ ?_
   rotate_left
   ·show Act.put _ (some 9) _ = _
    simp only [Act.put, sI_, z0_, z1_, i64_w, i32_w]
    rfl
   refine one_ (i := 3) (N := some 37) #[true, true, true, true, true, true, true, false, true, true, true, false, true, true, false, true, false] rfl rfl (one_of HT_.out (by kernel_rfl)) (by decide) (fun K hK => ?_)
   refine goes_ Tryz.func59 (by kernel_rfl) rfl #[.string w0] (by rfl) rfl rfl (by simp only [mA_, mC_, mN_]; rfl) ?_
   with_reducible refine (rule_number.calls w0 n0 _ (HLd.below HB.out) hN0.out).mono ?_
   rintro e wq ⟨rfl, hb⟩
   refine ⟨_, rfl, ?_⟩
   have n0_ := Aside0.mk (blk_below B7.out hb)
   have n1_ := Aside0.mk (below_step HB.out hb)
   have n2_ := Aside0.mk (Kd.C_below HC.out hb)
   have n3_ := Aside0.mk (blk_below BM2.out hb)
   have n4_ := Aside0.mk (blk_below BN.out hb)
   clear B7 HB HC BM2 hb BN
   have B7 := n0_
   have HB := n1_
   have HC := n2_
   have BM2 := n3_
   have BN := n4_
   clear n0_ n1_ n2_ n3_ n4_
   refine hK.out _ _ ⟨C_atN HC.out 0 _ rfl, C_atN HC.out 1 _ rfl, C_atN HC.out 2 _ rfl, (blk_cell B7.out 0).trans rfl, (blk_cell B7.out 1).trans rfl⟩ (fun hHeld => ?_)
   clear hK K
   refine norm_ (a' := ?_) ?_ ?_
   rotate_left
   ·show Act.put _ (some 37) _ = _
    simp only [Act.put, sI_, z0_, z1_, i64_w, i32_w]
    rfl
   refine one_ (i := 7) (N := some 41) #[true, true, true, true, true, true, true, true, true, true, true, false, true, true, false, true, false] rfl rfl (one_of HT_.out (by kernel_rfl)) (by decide) (fun K hK => ?_)
   refine goes_ Tryz.func59 (by kernel_rfl) rfl #[.string w1] (by rfl) rfl rfl (by simp only [mA_, mC_, mN_]; rfl) ?_
   with_reducible refine (rule_number.calls w1 n1 _ (HLd.below HB.out) hN1.out).mono ?_
   rintro e wq ⟨rfl, hb⟩
   refine ⟨_, rfl, ?_⟩
   have n0_ := Aside0.mk (blk_below B7.out hb)
   have n1_ := Aside0.mk (below_step HB.out hb)
   have n2_ := Aside0.mk (Kd.C_below HC.out hb)
   have n3_ := Aside0.mk (blk_below BM2.out hb)
   have n4_ := Aside0.mk (blk_below BN.out hb)
   clear B7 HB HC BM2 hb BN
   have B7 := n0_
   have HB := n1_
   have HC := n2_
   have BM2 := n3_
   have BN := n4_
   clear n0_ n1_ n2_ n3_ n4_
   refine hK.out _ _ ⟨C_atN HC.out 0 _ rfl, C_atN HC.out 1 _ rfl, C_atN HC.out 2 _ rfl, (blk_cell B7.out 0).trans rfl, (blk_cell B7.out 1).trans rfl⟩ (fun hHeld => ?_)
   clear hK K
   refine norm_ (a' := ?_) ?_ ?_
   rotate_left
   ·show Act.put _ (some 41) _ = _
    simp only [Act.put, sI_, z0_, z1_, i64_w, i32_w]
    rfl
   refine one_ (i := 11) (N := some 45) #[true, true, true, true, true, true, true, true, true, true, true, true, true, true, false, true, false] rfl rfl (one_of HT_.out (by kernel_rfl)) (by decide) (fun K hK => ?_)
   refine goes_ Tryz.func59 (by kernel_rfl) rfl #[.string w2] (by rfl) rfl rfl (by simp only [mA_, mC_, mN_]; rfl) ?_
   with_reducible refine (rule_number.calls w2 n2 _ (HLd.below HB.out) hN2.out).mono ?_
   rintro e wq ⟨rfl, hb⟩
   refine ⟨_, rfl, ?_⟩
   have n0_ := Aside0.mk (blk_below B7.out hb)
   have n1_ := Aside0.mk (below_step HB.out hb)
   have n2_ := Aside0.mk (Kd.C_below HC.out hb)
   have n3_ := Aside0.mk (blk_below BM2.out hb)
   have n4_ := Aside0.mk (blk_below BN.out hb)
   clear B7 HB HC BM2 hb BN
   have B7 := n0_
   have HB := n1_
   have HC := n2_
   have BM2 := n3_
   have BN := n4_
   clear n0_ n1_ n2_ n3_ n4_
   refine hK.out _ _ ⟨C_atN HC.out 0 _ rfl, C_atN HC.out 1 _ rfl, C_atN HC.out 2 _ rfl, (blk_cell B7.out 0).trans rfl, (blk_cell B7.out 1).trans rfl⟩ (fun hHeld => ?_)
   clear hK K
   refine norm_ (a' := ?_) ?_ ?_
   rotate_left
   ·show Act.put _ (some 45) _ = _
    simp only [Act.put, sI_, z0_, z1_, i64_w, i32_w]
    rfl
   refine pure_ (i := 14) (N := some 48) (v := ?_) (a' := ?_) #[true, true, true, true, true, true, true, true, true, true, true, true, true, true, true, true, false] rfl rfl (any_of HT_.out (by kernel_rfl)) (fun _ _ _ h => h) (Or.inl ⟨by rfl, ?_⟩) ?_ ?_
   rotate_left
   ·intro w'
    go_simp
    with_reducible rfl
   rotate_left
   ·simp only [Act.put, sI_, z0_, z1_, i64_w, i32_w]
    rfl
   exact norm_ (by simp only [putAll, Act.put, sI_, z0_, z1_]) (hCont g9 _ ⟨BN, B7, HB, HC, BM2, GE9, NE9, CG9⟩)
 rintro g9 wz ⟨BN, B7, HB, HC, BM2, GE9, NE9, CG9⟩
 have hHeld : wz.cell? ⟨bk, oo, none⟩ = some (.string w0) ∧ wz.cell? ⟨bk, oo + 1, none⟩ = some (.string w1) ∧ wz.cell? ⟨bk, oo + 2, none⟩ = some (.string w2) ∧ wz.cell? ⟨g7, 0, none⟩ = some (.int .u32 x0) ∧ wz.cell? ⟨g7, 1, none⟩ = some (.int .u32 x1) := ⟨C_atN HC.out 0 _ rfl, C_atN HC.out 1 _ rfl, C_atN HC.out 2 _ rfl, (blk_cell B7.out 0).trans rfl, (blk_cell B7.out 1).trans rfl⟩
 refine norm_ (a' := ?_) ?_ ?_
 rotate_left
 ·simp only [putAll, Act.put, sI_, z0_, z1_]
  rfl
 refine last_ (i := 16) (N := none) #[true, true, true, true, true, true, true, true, true, true, true, true, true, true, true, true, true] rfl rfl (one_of HT_.out (by kernel_rfl)) (by decide) (fun K hK => ?_)
 refine storeK_ (by rfl) rfl 27 (.tmp 9) (.tmp 48) rfl (rv ⟨n0, n1, n2, kx, ⟨x0, x1⟩, 0⟩) (rcells ⟨n0, n1, n2, kx, ⟨x0, x1⟩, 0⟩) rfl rfl rfl (by kernel_rfl) (rcells_one _) BN.out rfl ?_
 intro wb hm hgr
 have n0_ := Aside0.mk (blk_grown BM2.out hgr NE9.out)
 have n1_ := Aside0.mk (pw_below_grown HB.out (some g9) HB.out.size hgr (fun k hk => by injection hk with hk; subst hk; exact GE9.out))
 have n2_ := Aside0.mk (C_grownS HC.out hgr CG9.out)
 clear BM2 HB HC BN B7
 have BN := Aside0.mk hm
 have BM2 := n0_
 have HB := n1_
 have HC := n2_
 clear n0_ n1_ n2_ hm hgr
 refine hK.out _ _ ?_
 clear hK K
 refine done_ (done_of HT_.out (by kernel_rfl)) ?_
 have cw5 := C_atN HC.out 5 _ rfl
 have RN := Aside0.mk (rcells_set ⟨n0, n1, n2, kx, ⟨x0, x1⟩, 0⟩ n5)
 go_upto_region 10 with (first | (go_at_call 59; refine (rule_number.calls w5 n5 _ (HLd.below HB.out) hN5.out).mono ?_; rintro e w13 ⟨rfl, hb⟩; have n0_ := Aside0.mk (blk_below BM2.out hb); have n1_ := Aside0.mk (below_step HB.out hb); have n2_ := Aside0.mk (blk_below BN.out hb); clear BM2 HB BN cw5 hb; have BM2 := n0_; have HB := n1_; have BN := n2_; clear n0_ n1_ n2_) | ((with_reducible refine gate_ (.store 3 (.tmp 56) (.tmp 55)) rfl ?_); refine store_part rfl rfl 3 (.tmp 56) (.tmp 55) rfl 6 (.int .i64 n5) [.int .i64 n5] rfl rfl rfl (by kernel_rfl) (int_one n5) BN.out (by show 6 + 1 ≤ 7; decide) ?_; intro w16 cur' hm hl hgr; have hcc := RN.out cur' hl; subst hcc; have n0_ := Aside0.mk (blk_grown BM2.out hgr NE9.out); have n1_ := Aside0.mk (pw_below_grown HB.out (some g9) HB.out.size hgr (fun k hk => by injection hk with hk; subst hk; exact GE9.out)); clear BM2 HB BN hgr; have BN := Aside0.mk hm; have BM2 := n0_; have HB := n1_; clear n0_ n1_ hm hl))
 by_cases hxe : xe = 0
 ·subst hxe
  have H := HE.out
  unfold parseEnd at H
  rw [if_pos rfl] at H
  obtain ⟨ok, hRt0, H2⟩ := Option.bind_eq_some_iff.mp H
  clear H
  have hRt := Aside0.mk hRt0
  clear hRt0 HE
  have c0 := (blk_cell BN.out 0).trans (show _ = some (Value.int .i64 n0) from rfl)
  have c1 := (blk_cell BN.out 1).trans (show _ = some (Value.int .i64 n1) from rfl)
  have c2 := (blk_cell BN.out 2).trans (show _ = some (Value.int .i64 n2) from rfl)
  have c3 := (blk_cell BN.out 3).trans (show _ = some (Value.int .i64 kx) from rfl)
  have c4 := (blk_cell BN.out 4).trans (show _ = some (Value.int .u32 x0) from rfl)
  have c5 := (blk_cell BN.out 5).trans (show _ = some (Value.int .u32 x1) from rfl)
  have c6 := (blk_cell BN.out 6).trans (show _ = some (Value.int .i64 n5) from rfl)
  cases ok
  ·rw [if_neg (by decide)] at H2
   have HE := Aside0.mk (Option.some.inj H2)
   clear H2
   go_wp2_with (first | (go_at_call 60; refine (rule_Right.calls _ _ _ _ _ _ _ _ _ hRt.out).mono ?_; rintro e w14 ⟨rfl, hb⟩; have n0_ := Aside0.mk (blk_below BM2.out hb); have n1_ := Aside0.mk (below_step HB.out hb); have n2_ := Aside0.mk (blk_below BN.out hb); clear BM2 HB BN c0 c1 c2 c3 c4 c5 c6 hb; have BM2 := n0_; have HB := n1_; have BN := n2_; clear n0_ n1_ n2_; have c0 := (blk_cell BN.out 0).trans (show _ = some (Value.int .i64 n0) from rfl); have c1 := (blk_cell BN.out 1).trans (show _ = some (Value.int .i64 n1) from rfl); have c2 := (blk_cell BN.out 2).trans (show _ = some (Value.int .i64 n2) from rfl); have c3 := (blk_cell BN.out 3).trans (show _ = some (Value.int .i64 kx) from rfl); have c4 := (blk_cell BN.out 4).trans (show _ = some (Value.int .u32 x0) from rfl); have c5 := (blk_cell BN.out 5).trans (show _ = some (Value.int .u32 x1) from rfl); have c6 := (blk_cell BN.out 6).trans (show _ = some (Value.int .i64 n5) from rfl)) | ((with_reducible refine gate_ (.store 27 (.tmp 2) (.tmp 70)) rfl ?_); refine store_block rfl rfl 27 (.tmp 2) (.tmp 70) rfl (rv z27) (rcells z27) rfl rfl rfl (by kernel_rfl) (rcells_one _) BM2.out rfl ?_; intro wz hm hgr))
   refine bodyPost_ret (results_ct rfl _ _ g2 27 (rcells z27).toArray (0, 0) _ rfl hm Tryz.underlying27 rfl (by kernel_rfl)) rfl ?_
   exact ⟨by first | rfl | (cases HE.out; rfl), pw_below_grown HB.out (some g2) HB.out.size hgr (fun k hk => by injection hk with hk; subst hk; exact GE2.out)⟩
  ·rw [if_pos rfl] at H2
   obtain ⟨tx, hTx0, H3⟩ := Option.bind_eq_some_iff.mp H2
   clear H2
   have hTx := Aside0.mk hTx0
   clear hTx0
   cases hts : (tx.toList == s.toList)
   ·rw [hts, if_neg (by decide)] at H3
    have HE := Aside0.mk (Option.some.inj H3)
    clear H3
    go_wp2_with (first | (go_at_call 60; refine (rule_Right.calls _ _ _ _ _ _ _ _ _ hRt.out).mono ?_; rintro e w14 ⟨rfl, hb⟩; have n0_ := Aside0.mk (blk_below BM2.out hb); have n1_ := Aside0.mk (below_step HB.out hb); have n2_ := Aside0.mk (blk_below BN.out hb); clear BM2 HB BN c0 c1 c2 c3 c4 c5 c6 hb; have BM2 := n0_; have HB := n1_; have BN := n2_; clear n0_ n1_ n2_; have c0 := (blk_cell BN.out 0).trans (show _ = some (Value.int .i64 n0) from rfl); have c1 := (blk_cell BN.out 1).trans (show _ = some (Value.int .i64 n1) from rfl); have c2 := (blk_cell BN.out 2).trans (show _ = some (Value.int .i64 n2) from rfl); have c3 := (blk_cell BN.out 3).trans (show _ = some (Value.int .i64 kx) from rfl); have c4 := (blk_cell BN.out 4).trans (show _ = some (Value.int .u32 x0) from rfl); have c5 := (blk_cell BN.out 5).trans (show _ = some (Value.int .u32 x1) from rfl); have c6 := (blk_cell BN.out 6).trans (show _ = some (Value.int .i64 n5) from rfl)) | (go_at_call 11; refine (rule_Text.calls _ _ _ _ _ _ _ tx _ (HLd.below HB.out) hTx.out).mono ?_; rintro e w15 ⟨rfl, hb⟩; have n0_ := Aside0.mk (blk_below BM2.out hb); have n1_ := Aside0.mk (below_step HB.out hb); have n2_ := Aside0.mk (blk_below BN.out hb); clear BM2 HB BN c0 c1 c2 c3 c4 c5 c6 hb; have BM2 := n0_; have HB := n1_; have BN := n2_; clear n0_ n1_ n2_; have c0 := (blk_cell BN.out 0).trans (show _ = some (Value.int .i64 n0) from rfl); have c1 := (blk_cell BN.out 1).trans (show _ = some (Value.int .i64 n1) from rfl); have c2 := (blk_cell BN.out 2).trans (show _ = some (Value.int .i64 n2) from rfl); have c3 := (blk_cell BN.out 3).trans (show _ = some (Value.int .i64 kx) from rfl); have c4 := (blk_cell BN.out 4).trans (show _ = some (Value.int .u32 x0) from rfl); have c5 := (blk_cell BN.out 5).trans (show _ = some (Value.int .u32 x1) from rfl); have c6 := (blk_cell BN.out 6).trans (show _ = some (Value.int .i64 n5) from rfl)) | ((with_reducible refine gate_ (.store 27 (.tmp 2) (.tmp 70)) rfl ?_); refine store_block rfl rfl 27 (.tmp 2) (.tmp 70) rfl (rv z27) (rcells z27) rfl rfl rfl (by kernel_rfl) (rcells_one _) BM2.out rfl ?_; intro wz hm hgr))
    refine bodyPost_ret (results_ct rfl _ _ g2 27 (rcells z27).toArray (0, 0) _ rfl hm Tryz.underlying27 rfl (by kernel_rfl)) rfl ?_
    exact ⟨by first | rfl | (cases HE.out; rfl), pw_below_grown HB.out (some g2) HB.out.size hgr (fun k hk => by injection hk with hk; subst hk; exact GE2.out)⟩
   ·rw [hts, if_pos rfl] at H3
    have HE := Aside0.mk (Option.some.inj H3)
    clear H3
    go_wp2_with (first | (go_at_call 60; refine (rule_Right.calls _ _ _ _ _ _ _ _ _ hRt.out).mono ?_; rintro e w14 ⟨rfl, hb⟩; have n0_ := Aside0.mk (blk_below BM2.out hb); have n1_ := Aside0.mk (below_step HB.out hb); have n2_ := Aside0.mk (blk_below BN.out hb); clear BM2 HB BN c0 c1 c2 c3 c4 c5 c6 hb; have BM2 := n0_; have HB := n1_; have BN := n2_; clear n0_ n1_ n2_; have c0 := (blk_cell BN.out 0).trans (show _ = some (Value.int .i64 n0) from rfl); have c1 := (blk_cell BN.out 1).trans (show _ = some (Value.int .i64 n1) from rfl); have c2 := (blk_cell BN.out 2).trans (show _ = some (Value.int .i64 n2) from rfl); have c3 := (blk_cell BN.out 3).trans (show _ = some (Value.int .i64 kx) from rfl); have c4 := (blk_cell BN.out 4).trans (show _ = some (Value.int .u32 x0) from rfl); have c5 := (blk_cell BN.out 5).trans (show _ = some (Value.int .u32 x1) from rfl); have c6 := (blk_cell BN.out 6).trans (show _ = some (Value.int .i64 n5) from rfl)) | (go_at_call 11; refine (rule_Text.calls _ _ _ _ _ _ _ tx _ (HLd.below HB.out) hTx.out).mono ?_; rintro e w15 ⟨rfl, hb⟩; have n0_ := Aside0.mk (blk_below BM2.out hb); have n1_ := Aside0.mk (below_step HB.out hb); have n2_ := Aside0.mk (blk_below BN.out hb); clear BM2 HB BN c0 c1 c2 c3 c4 c5 c6 hb; have BM2 := n0_; have HB := n1_; have BN := n2_; clear n0_ n1_ n2_; have c0 := (blk_cell BN.out 0).trans (show _ = some (Value.int .i64 n0) from rfl); have c1 := (blk_cell BN.out 1).trans (show _ = some (Value.int .i64 n1) from rfl); have c2 := (blk_cell BN.out 2).trans (show _ = some (Value.int .i64 n2) from rfl); have c3 := (blk_cell BN.out 3).trans (show _ = some (Value.int .i64 kx) from rfl); have c4 := (blk_cell BN.out 4).trans (show _ = some (Value.int .u32 x0) from rfl); have c5 := (blk_cell BN.out 5).trans (show _ = some (Value.int .u32 x1) from rfl); have c6 := (blk_cell BN.out 6).trans (show _ = some (Value.int .i64 n5) from rfl)) | ((with_reducible refine gate_ (.store 27 (.tmp 2) (.tmp 71)) rfl ?_); refine store_block rfl rfl 27 (.tmp 2) (.tmp 71) rfl (rv (⟨n0, n1, n2, kx, ⟨x0, x1⟩, n5⟩ : Rl)) (rcells (⟨n0, n1, n2, kx, ⟨x0, x1⟩, n5⟩ : Rl)) rfl rfl rfl (by kernel_rfl) (rcells_one _) BM2.out rfl ?_; intro wz hm hgr))
    refine bodyPost_ret (results_ct rfl _ _ g2 27 (rcells (⟨n0, n1, n2, kx, ⟨x0, x1⟩, n5⟩ : Rl)).toArray (0, 0) _ rfl hm Tryz.underlying27 rfl (by kernel_rfl)) rfl ?_
    exact ⟨by first | rfl | (cases HE.out; rfl), pw_below_grown HB.out (some g2) HB.out.size hgr (fun k hk => by injection hk with hk; subst hk; exact GE2.out)⟩
 ·have H := HE.out
  unfold parseEnd at H
  rw [if_neg hxe] at H
  clear HE
  have HE := Aside0.mk (Option.some.inj H)
  clear H
  have d1 : (xe != 0) = true := by simpa using hxe
  have d2 : decide (xe = 0) = false := decide_eq_false hxe
  have d3 : (xe == 0) = false := by simpa using hxe
  have d4 : (xe = 0) = False := eq_false hxe
  go_wp2_with ((with_reducible refine gate_ (.store 27 (.tmp 2) (.tmp 70)) rfl ?_); refine store_block rfl rfl 27 (.tmp 2) (.tmp 70) rfl (rv z27) (rcells z27) rfl rfl rfl (by kernel_rfl) (rcells_one _) BM2.out rfl ?_; intro wz hm hgr)
  refine bodyPost_ret (results_ct rfl _ _ g2 27 (rcells z27).toArray (0, 0) _ rfl hm Tryz.underlying27 rfl (by kernel_rfl)) rfl ?_
  exact ⟨by first | rfl | (cases HE.out; rfl), pw_below_grown HB.out (some g2) HB.out.size hgr (fun k hk => by injection hk with hk; subst hk; exact GE2.out)⟩
set_option maxHeartbeats 2000000 in
set_option maxRecDepth 100000 in
theorem parseBad_calls (s : ByteArray) (r1 r2 r3 r4 r5 r6 r7 r8 : Int) (w : World) (HLd : Laid w) (ws : List ByteArray) (hS : strings_Split.f s ⟨#[32]⟩ = some ws) (h5 : ws.length ≠ 5) (h6 : ws.length ≠ 6) (h : pErr = (r1, r2, r3, r4, r5, r6, r7, r8)) :
  Calls Tryz.prog 14 #[.string s] w fun e w' => e = .returned (.tuple #[.agg #[.int .i64 r1, .int .i64 r2, .int .i64 r3, .int .i64 r4, .int .u32 r5, .int .u32 r6, .int .i64 r7], .int .i64 r8]) ∧ Below w.heap.size w w' := by
 have hS := Aside0.mk hS
 have HE := Aside0.mk h
 clear h
 have hu45 := Tryz.underlying27
 have HB := Aside0.mk (Below.refl w.heap.size w)
 have d1 : ((ws.length : Int) != 5) = true := by simp; omega
 have d2 : decide ((ws.length : Int) = 5) = false := decide_eq_false (by omega)
 have d3 : ((ws.length : Int) == 5) = false := by simp; omega
 have d5 : ((ws.length : Int) != 6) = true := by simp; omega
 have d6 : decide ((ws.length : Int) = 6) = false := decide_eq_false (by omega)
 have d7 : ((ws.length : Int) == 6) = false := by simp; omega
 go_enter Tryz.func14, Tryz.ntmps14
 go_wp2_with (first | ((with_reducible refine gate_dst (N := 2) rfl ?_); refine box_event ?hg (N := 2) ?hd (cs := #[.int .i64 0, .int .i64 0, .int .i64 0, .int .i64 0, .int .u32 0, .int .u32 0, .int .i64 0]) (t := 27) ?hr ?_; (case hd => rfl); (case hg => rfl); (case hr => first | (go_simp; done) | (go_simp; rfl)); intro g2 hg w6 hbox hb; have BM2 := Aside0.mk hbox; have GE2 := Aside0.mk (show w.heap.size ≤ g2 by rw [hg]; exact below_size HB.out); have n1_ := Aside0.mk (below_step HB.out hb); clear HB; have HB := n1_; clear n1_ hb hbox hg) | (go_at_call 56; refine (strings_Split.calls _ _ _ _ (HLd.below HB.out) hS.out).mono ?_; rintro e w7 ⟨v8, rfl, hR, hb⟩; have n0_ := Aside0.mk (blk_below BM2.out hb); have n1_ := Aside0.mk (below_step HB.out hb); obtain ⟨A8, c8, hv8, hc8, hC8⟩ := Kd.R_reads hR; subst hv8; clear BM2 HB hb hR hC8 hc8; have BM2 := n0_; have HB := n1_; clear n0_ n1_) | ((with_reducible refine gate_ (.store 27 (.tmp 2) (.tmp 20)) rfl ?_); refine store_block rfl rfl 27 (.tmp 2) (.tmp 20) rfl (rv z27) (rcells z27) rfl rfl rfl (by kernel_rfl) (rcells_one _) BM2.out rfl ?_; intro wz hm hgr))
 refine bodyPost_ret (results_ct rfl _ _ g2 27 (rcells z27).toArray (0, 0) _ rfl hm Tryz.underlying27 rfl (by kernel_rfl)) rfl ?_
 exact ⟨by first | rfl | (cases HE.out; rfl), pw_below_grown HB.out (some g2) HB.out.size hgr (fun k hk => by injection hk with hk; subst hk; exact GE2.out)⟩
theorem rule_Parse.calls (a0 : ByteArray) (r1 r2 r3 r4 r5 r6 r7 r8 : Int) (w : World) (HLd : Laid w) (h : rule_Parse.f a0 = some (r1, r2, r3, r4, r5, r6, r7, r8)) :
  Calls Tryz.prog 14 #[.string a0] w fun e w' => e = .returned (.tuple #[.agg #[.int .i64 r1, .int .i64 r2, .int .i64 r3, .int .i64 r4, .int .u32 r5, .int .u32 r6, .int .i64 r7], .int .i64 r8]) ∧ Below w.heap.size w w' := by
 unfold rule_Parse.f at h
 obtain ⟨ws, hS, h⟩ := Option.bind_eq_some_iff.mp h
 match ws, hS, h with
 | [w0, w1, w2, w3, w4], hS, h =>
  simp only at h
  obtain ⟨kx, hk, h⟩ := Option.bind_eq_some_iff.mp h
  obtain ⟨⟨x0, x1, xe⟩, hx, h⟩ := Option.bind_eq_some_iff.mp h
  obtain ⟨n0, hn0, h⟩ := Option.bind_eq_some_iff.mp h
  obtain ⟨n1, hn1, h⟩ := Option.bind_eq_some_iff.mp h
  obtain ⟨n2, hn2, h⟩ := Option.bind_eq_some_iff.mp h
  exact parse5_calls a0 _ _ _ _ _ _ _ _ w HLd _ _ _ _ _ _ _ _ _ _ _ _ hS hk hx hn0 hn1 hn2 h
 | [w0, w1, w2, w3, w4, w5], hS, h =>
  simp only at h
  obtain ⟨kx, hk, h⟩ := Option.bind_eq_some_iff.mp h
  obtain ⟨⟨x0, x1, xe⟩, hx, h⟩ := Option.bind_eq_some_iff.mp h
  obtain ⟨n0, hn0, h⟩ := Option.bind_eq_some_iff.mp h
  obtain ⟨n1, hn1, h⟩ := Option.bind_eq_some_iff.mp h
  obtain ⟨n2, hn2, h⟩ := Option.bind_eq_some_iff.mp h
  obtain ⟨n5, hn5, h⟩ := Option.bind_eq_some_iff.mp h
  exact parse6_calls a0 _ _ _ _ _ _ _ _ w HLd _ _ _ _ _ _ _ _ _ _ _ _ _ _ hS hk hx hn0 hn1 hn2 hn5 h
 | [], hS, h => exact parseBad_calls a0 _ _ _ _ _ _ _ _ w HLd _ hS (by decide) (by decide) (by simpa using h)
 | [_], hS, h => exact parseBad_calls a0 _ _ _ _ _ _ _ _ w HLd _ hS (by simp) (by simp) (by simpa using h)
 | [_, _], hS, h => exact parseBad_calls a0 _ _ _ _ _ _ _ _ w HLd _ hS (by simp) (by simp) (by simpa using h)
 | [_, _, _], hS, h => exact parseBad_calls a0 _ _ _ _ _ _ _ _ w HLd _ hS (by simp) (by simp) (by simpa using h)
 | [_, _, _, _], hS, h => exact parseBad_calls a0 _ _ _ _ _ _ _ _ w HLd _ hS (by simp) (by simp) (by simpa using h)
 | _ :: _ :: _ :: _ :: _ :: _ :: _ :: r, hS, h => exact parseBad_calls a0 _ _ _ _ _ _ _ _ w HLd _ hS (by simp) (by simp) (by simpa using h)
end Go.Proofs.YtfjamikpahmfhaaGreatDoor.P
end
section
set_option linter.unusedSimpArgs false
set_option linter.unusedVariables false
namespace Go.Proofs.YtfjamikpahmfhaaGreatDoor.P
open Go.RowKit Go.Proofs.YtfjamikpahmfhaaGreatDoorW.PrintWords Go.Proofs.YtfjamikpahmfhaaGreatDoorW.PrintLast Go.Proofs.YtfjamikpahmfhaaGreatDoorW.PrintMore
open Go.Proofs.YtfjamikpahmfhaaGreatDoor.T
theorem within_f (a b c : Int) : rule_within.f a b c = some (decide (b ≤ a ∧ a ≤ c)) := by
  unfold rule_within.f
  by_cases h1 : b ≤ a
  · rw [if_pos h1]; simp [h1]
  · rw [if_neg h1]; simp [h1]
def rightB (x : Rl) : Bool := decide (1 ≤ x.f0 ∧ x.f0 ≤ 1048576) && (decide (0 ≤ x.f1 ∧ x.f1 ≤ 7) && (decide (0 ≤ x.f2 ∧ x.f2 ≤ 1024) && (decide (0 ≤ x.f3 ∧ x.f3 ≤ 3) && (decide (0 ≤ x.f5 ∧ x.f5 ≤ 3) && (decide (x.f3 = 0 ∨ x.f5 = 0) && decide (x.f4.f0 ≤ x.f4.f1))))))
theorem rightRule_f (x : Rl) : rule_Right.f x.f0 x.f1 x.f2 x.f3 x.f4.f0 x.f4.f1 x.f5 = some (rightB x) := by
  unfold rule_Right.f rightB
  simp only [within_f, Option.bind_some]
  cases h1 : decide (1 ≤ x.f0 ∧ x.f0 ≤ 1048576) <;> cases h2 : decide (0 ≤ x.f1 ∧ x.f1 ≤ 7) <;> cases h3 : decide (0 ≤ x.f2 ∧ x.f2 ≤ 1024) <;> cases h4 : decide (0 ≤ x.f3 ∧ x.f3 ≤ 3) <;> cases h5 : decide (0 ≤ x.f5 ∧ x.f5 ≤ 3) <;> by_cases h6 : x.f3 = 0 <;> by_cases h7 : x.f5 = 0 <;> simp [h6, h7]
theorem rightB_iff (x : Rl) : rightB x = true ↔ (1 ≤ x.f0 ∧ x.f0 ≤ 1048576) ∧ (0 ≤ x.f1 ∧ x.f1 ≤ 7) ∧ (0 ≤ x.f2 ∧ x.f2 ≤ 1024) ∧ (0 ≤ x.f3 ∧ x.f3 ≤ 3) ∧ (0 ≤ x.f5 ∧ x.f5 ≤ 3) ∧ (x.f3 = 0 ∨ x.f5 = 0) ∧ x.f4.f0 ≤ x.f4.f1 := by
  unfold rightB
  simp only [Bool.and_eq_true, decide_eq_true_eq]
def okRule (x : Rl) : Prop := (0 ≤ x.f4.f0 ∧ x.f4.f0 ≤ 4294967295) ∧ (0 ≤ x.f4.f1 ∧ x.f4.f1 ≤ 4294967295)
def wordsT (x : Rl) : List (List UInt8) := [(numeral x.f0).data.toList, (numeral x.f1).data.toList, (numeral x.f2).data.toList, (ruleKind x.f3).data.toList, addrText x.f4.f0 ++ 45 :: addrText x.f4.f1] ++ (if x.f3 = 0 then [(numeral x.f5).data.toList] else [])
def textT (x : Rl) : ByteArray := ⟨(Lib.join (wordsT x) [32]).toArray⟩
theorem ruleText_f (x : Rl) (ho : okRule x) (hr : rightB x = true) : ∃ t : ByteArray, t.data.toList = addrText x.f4.f0 ++ 45 :: addrText x.f4.f1 ∧ t.size ≤ 200 ∧ rule_Text.f x.f0 x.f1 x.f2 x.f3 x.f4.f0 x.f4.f1 x.f5 = some (textT x) := by
  obtain ⟨⟨a0, a1⟩, ⟨b0, b1⟩⟩ := ho
  have hh := (rightB_iff x).1 hr
  obtain ⟨t, ht, hd, hs⟩ := rangeText_f x.f4.f0.toNat x.f4.f1.toNat (by omega) (by omega)
  rw [Int.toNat_of_nonneg a0, Int.toNat_of_nonneg b0] at ht hd
  refine ⟨t, hd, hs, ?_⟩
  unfold rule_Text.f
  rw [if_pos (by omega), ht]
  simp only [Option.bind_some]
  rw [if_pos (by omega)]
  unfold textT wordsT ruleWords
  congr 3
  rw [← hd]
  split <;> rfl
theorem kind_no (k : Int) : (32 : UInt8) ∉ (ruleKind k).data.toList := by
  unfold ruleKind
  repeat (first | split | decide)
theorem words_no (x : Rl) (ho : okRule x) (hr : rightB x = true) : ∀ p ∈ wordsT x, (32 : UInt8) ∉ p := by
  obtain ⟨⟨a0, a1⟩, ⟨b0, b1⟩⟩ := ho
  have hh := (rightB_iff x).1 hr
  intro p hp
  have hn : ∀ c : Int, 0 ≤ c → (32 : UInt8) ∉ (numeral c).data.toList := fun c hc => numeral_no c hc 32 (by decide)
  have hm : p = (numeral x.f0).data.toList ∨ p = (numeral x.f1).data.toList ∨ p = (numeral x.f2).data.toList ∨ p = (ruleKind x.f3).data.toList ∨ p = addrText x.f4.f0 ++ 45 :: addrText x.f4.f1 ∨ p = (numeral x.f5).data.toList := by
    unfold wordsT at hp
    split at hp
    · simpa using hp
    · simp at hp
      rcases hp with h | h | h | h | h <;> simp [h]
  rcases hm with rfl | rfl | rfl | rfl | rfl | rfl
  · exact hn _ (by omega)
  · exact hn _ (by omega)
  · exact hn _ (by omega)
  · exact kind_no _
  · simp only [List.mem_append, List.mem_cons, not_or]
    exact ⟨addrText_no _ a0 a1 32 (by decide) (by decide), by decide, addrText_no _ b0 b1 32 (by decide) (by decide)⟩
  · exact hn _ (by omega)
theorem textT_fields (x : Rl) (ho : okRule x) (hr : rightB x = true) : fieldsB 32 (textT x) = (wordsT x).map fun l => ⟨l.toArray⟩ := by
  unfold fieldsB textT
  rw [show (⟨(Lib.join (wordsT x) [32]).toArray⟩ : ByteArray).data.toList = Lib.join (wordsT x) [32] from by simp]
  rw [fieldsOf_join 32 (wordsT x) (by unfold wordsT; simp) (words_no x ho hr)]
theorem ruleNumber_numeral (c : Int) (h0 : 0 ≤ c) (h1 : c ≤ 9223372036854775807) : rule_number.f (numeral c) = some c := by
  have hs := numeral_size c h0 h1
  unfold rule_number.f
  rw [if_pos (by omega), atoiV_numeral c h0 h1]
  simp [byte_toList, numeral]
theorem kind_index (k : Int) (h0 : 0 ≤ k) (h1 : k ≤ 3) : slices_Index_string_string.f 5 [wForward, wDrop, wPermit, wDeny] (ruleKind k) = some k := by
  obtain rfl | rfl | rfl | rfl : k = 0 ∨ k = 1 ∨ k = 2 ∨ k = 3 := by omega
  all_goals kernel_rfl
theorem parse_text_rule (x : Rl) (ho : okRule x) (hr : rightB x = true) : rule_Parse.f (textT x) = some (x.f0, x.f1, x.f2, x.f3, x.f4.f0, x.f4.f1, x.f5, 0) := by
  obtain ⟨t, hd, hs, hT⟩ := ruleText_f x ho hr
  have hh := (rightB_iff x).1 hr
  obtain ⟨⟨a0, a1⟩, ⟨b0, b1⟩⟩ := ho
  have hlen : (textT x).size < 4294967281 := by
    show (Lib.join (wordsT x) [32]).toArray.size < _
    rw [List.size_toArray]
    have l0 := numeral_len x.f0 (by omega) (by omega)
    have l1 := numeral_len x.f1 (by omega) (by omega)
    have l2 := numeral_len x.f2 (by omega) (by omega)
    have l6 := numeral_len x.f5 (by omega) (by omega)
    have lk := ruleKind_len x.f3
    have la := addrText_length x.f4.f0 a0 a1
    have lb := addrText_length x.f4.f1 b0 b1
    unfold wordsT
    split
    all_goals
      simp only [List.cons_append, List.nil_append, List.append_nil, Lib.join_cons, Lib.joinTail, List.map_cons, List.map_nil, List.flatten_cons, List.flatten_nil, List.length_append, List.length_cons, List.length_nil]
      omega
  have hR : prefix_ParseRange.f 7 t = some (x.f4.f0, x.f4.f1, 0) := by
    have := parseRange_rangeText x.f4.f0.toNat x.f4.f1.toNat (by omega) (by omega) (by omega) t (by rw [Int.toNat_of_nonneg a0, Int.toNat_of_nonneg b0]; exact hd) hs 7 (by decide)
    rw [Int.toNat_of_nonneg a0, Int.toNat_of_nonneg b0] at this
    exact this
  have ht : (⟨(addrText x.f4.f0 ++ 45 :: addrText x.f4.f1).toArray⟩ : ByteArray) = t := bytes_mk t _ hd
  have hnum : ∀ c : Int, (⟨((numeral c).data.toList).toArray⟩ : ByteArray) = numeral c := fun c => bytes_mk _ _ rfl
  have hkd : (⟨((ruleKind x.f3).data.toList).toArray⟩ : ByteArray) = ruleKind x.f3 := bytes_mk _ _ rfl
  have hend : parseEnd (textT x) x.f0 x.f1 x.f2 x.f3 (x.f4.f0, x.f4.f1, 0) x.f5 = some (x.f0, x.f1, x.f2, x.f3, x.f4.f0, x.f4.f1, x.f5, 0) := by
    unfold parseEnd
    rw [if_pos rfl]
    simp only [rightRule_f, hr, Option.bind_some, if_true, hT]
    rw [if_pos (by simp)]
  unfold rule_Parse.f
  rw [split_f 32 _ hlen, textT_fields x ⟨⟨a0, a1⟩, ⟨b0, b1⟩⟩ hr]
  simp only [Option.bind_some]
  unfold wordsT
  by_cases h0 : x.f3 = 0
  · rw [if_pos h0]
    simp only [List.cons_append, List.nil_append, List.map_cons, List.map_nil, hnum, hkd, ht]
    rw [kind_index x.f3 (by omega) (by omega)]
    simp only [Option.bind_some]
    rw [hR]
    simp only [Option.bind_some]
    rw [ruleNumber_numeral _ (by omega) (by omega), ruleNumber_numeral _ (by omega) (by omega), ruleNumber_numeral _ (by omega) (by omega), ruleNumber_numeral _ (by omega) (by omega)]
    simp only [Option.bind_some]
    exact hend
  · rw [if_neg h0]
    have h5 : x.f5 = 0 := by omega
    simp only [List.append_nil, List.map_cons, List.map_nil, hnum, hkd, ht]
    rw [kind_index x.f3 (by omega) (by omega)]
    simp only [Option.bind_some]
    rw [hR]
    simp only [Option.bind_some]
    rw [ruleNumber_numeral _ (by omega) (by omega), ruleNumber_numeral _ (by omega) (by omega), ruleNumber_numeral _ (by omega) (by omega)]
    simp only [Option.bind_some]
    rw [h5] at hend
    rw [h5]
    exact hend
end Go.Proofs.YtfjamikpahmfhaaGreatDoor.P
end
section
namespace Go.Proofs.YtfjamikpahmfhaaGreatDoor.P
open Go.RowKit Go.Proofs.YtfjamikpahmfhaaGreatDoor.T Go.Proofs.YtfjamikpahmfhaaGreatDoorW.PrintWords Go.Proofs.YtfjamikpahmfhaaGreatDoorW.PrintLast Go.Proofs.YtfjamikpahmfhaaGreatDoorW.PrintMore
theorem num1 (n : Nat) (h : n < 10) : (numeral (n : Int)).data.toList = [UInt8.ofNat (48 + n)] := by
  rw [numeral_data _ (by omega), Int.toNat_natCast, Lib.decDigits_one h]
theorem num2 (n : Nat) (h1 : ¬ n < 10) (h2 : n < 100) : (numeral (n : Int)).data.toList = [UInt8.ofNat (48 + n / 10), UInt8.ofNat (48 + n % 10)] := by
  rw [numeral_data _ (by omega), Int.toNat_natCast, Lib.decDigits_two h1 h2]
theorem addr10 : addrText 167772160 = [49, 48, 46, 48, 46, 48, 46, 48] := by
  have o : octets 167772160 = [((10 : Nat) : Int), ((0 : Nat) : Int), ((0 : Nat) : Int), ((0 : Nat) : Int)] := by decide
  unfold addrText
  rw [o]
  simp only [List.map_cons, List.map_nil]
  rw [num2 10 (by decide) (by decide), num1 0 (by decide)]
  rfl
end Go.Proofs.YtfjamikpahmfhaaGreatDoor.P
end
section
open List renaming map_toArray → mA_, map_cons → mC_, map_nil → mN_, length_drop → lD_, length_take → lT_, setIfInBounds_toArray → sI_, set_cons_zero → z0_, set_cons_succ → z1_
namespace Go.Proofs.YtfjamikpahmfhaaGreatDoor.P
open Go.RowKit Go.Proofs.YtfjamikpahmfhaaGreatDoorW.PrintWords Go.Proofs.YtfjamikpahmfhaaGreatDoorW.PrintLast Go.Proofs.YtfjamikpahmfhaaGreatDoorW.PrintMore
attribute [local go_sem] max2_int min2_int max_two min_two max_three min_three max_four min_four
set_option linter.unusedVariables false
set_option linter.unusedSimpArgs false
def waystonelaw07_some.f  : Option ((List (S27))) := some (([(⟨1, 0, 5, 0, (⟨0, 99⟩ : S25), 2⟩ : S27), (⟨2, 0, 9, 1, (⟨50, 59⟩ : S25), 0⟩ : S27), (⟨3, 0, 1, 3, (⟨70, 79⟩ : S25), 0⟩ : S27), (⟨4, 0, 5, 0, (⟨0, 9⟩ : S25), 1⟩ : S27)] : List (S27)))
set_option maxHeartbeats 8000000 in
set_option maxRecDepth 100000 in
theorem waystonelaw07_some.calls  (r : List (S27)) (w : World) (h : waystonelaw07_some.f  = some r) :
  Calls Tryz.prog 54 #[] w fun e w' => ∃ v0_ : Value, e = .returned (v0_) ∧ Kd.R k27 27 w' w.heap.size (fun _ => True) v0_ r ∧ Below w.heap.size w w' := by
 have hu25 := Tryz.underlying25
 have hu27 := Tryz.underlying27
 have HB := Aside0.mk (Below.refl w.heap.size w)
 have H : (some (([(⟨1, 0, 5, 0, (⟨0, 99⟩ : S25), 2⟩ : S27), (⟨2, 0, 9, 1, (⟨50, 59⟩ : S25), 0⟩ : S27), (⟨3, 0, 1, 3, (⟨70, 79⟩ : S25), 0⟩ : S27), (⟨4, 0, 5, 0, (⟨0, 9⟩ : S25), 1⟩ : S27)] : List (S27)))) = some r := h
 clear h
 obtain ⟨y132, hy132⟩ : ∃ y_ : List (S27), y_ = (([(⟨1, 0, 5, 0, (⟨0, 99⟩ : S25), 2⟩ : S27), (⟨2, 0, 9, 1, (⟨50, 59⟩ : S25), 0⟩ : S27), (⟨3, 0, 1, 3, (⟨70, 79⟩ : S25), 0⟩ : S27), (⟨4, 0, 5, 0, (⟨0, 9⟩ : S25), 1⟩ : S27)] : List (S27))) := ⟨_, rfl⟩
 replace H : (some y132) = some r := by first | (rw [hy132]; with_reducible exact H) | (have H2_ := (Option.bind_some _ _).symm.trans H; rw [hy132]; with_reducible exact H2_) | (have H2_ := (Option.bind_some _ _).symm.trans H; with_reducible exact H2_) | with_reducible exact H | (rw [hy132]; exact H) | exact H
 have Ny132 := Aside0.mk hy132
 clear hy132
 obtain rfl := Option.some.inj H
 go_enter Tryz.func54, Tryz.ntmps54
 go_wp2_with (first | ((with_reducible refine gate_dst (N := 9) rfl ?_); refine Kd.R_lit k27 _ 27 ?hg (N := 9) ?hd (xs := ([(⟨1, 0, 5, 0, (⟨0, 99⟩ : S25), 2⟩ : S27), (⟨2, 0, 9, 1, (⟨50, 59⟩ : S25), 0⟩ : S27), (⟨3, 0, 1, 3, (⟨70, 79⟩ : S25), 0⟩ : S27), (⟨4, 0, 5, 0, (⟨0, 9⟩ : S25), 1⟩ : S27)] : List (S27))) (inner := [.int .i64 1, .int .i64 0, .int .i64 5, .int .i64 0, .int .u32 0, .int .u32 99, .int .i64 2, .int .i64 2, .int .i64 0, .int .i64 9, .int .i64 1, .int .u32 50, .int .u32 59, .int .i64 0, .int .i64 3, .int .i64 0, .int .i64 1, .int .i64 3, .int .u32 70, .int .u32 79, .int .i64 0, .int .i64 4, .int .i64 0, .int .i64 5, .int .i64 0, .int .u32 0, .int .u32 9, .int .i64 1]) (ok := fun _ => True) (okp := fun _ => True) ?hr ?hp (fun _ hk => hk) trivial (Below.refl _ _) (Nat.le_refl _) (by simp) ?_; (case hd => rfl); (case hg => rfl); (case hr => first | (go_simp; done) | (go_simp; rfl)); (case hp => exact (Reps.c7 (show Kd.M k27 _ _ _ (⟨1, 0, 5, 0, (⟨0, 99⟩ : S25), 2⟩ : S27) [.int .i64 1, .int .i64 0, .int .i64 5, .int .i64 0, .int .u32 0, .int .u32 99, .int .i64 2] from (k27_mkM _ _ _ (⟨1, 0, 5, 0, (⟨0, 99⟩ : S25), 2⟩ : S27) )) (Reps.c7 (show Kd.M k27 _ _ _ (⟨2, 0, 9, 1, (⟨50, 59⟩ : S25), 0⟩ : S27) [.int .i64 2, .int .i64 0, .int .i64 9, .int .i64 1, .int .u32 50, .int .u32 59, .int .i64 0] from (k27_mkM _ _ _ (⟨2, 0, 9, 1, (⟨50, 59⟩ : S25), 0⟩ : S27) )) (Reps.c7 (show Kd.M k27 _ _ _ (⟨3, 0, 1, 3, (⟨70, 79⟩ : S25), 0⟩ : S27) [.int .i64 3, .int .i64 0, .int .i64 1, .int .i64 3, .int .u32 70, .int .u32 79, .int .i64 0] from (k27_mkM _ _ _ (⟨3, 0, 1, 3, (⟨70, 79⟩ : S25), 0⟩ : S27) )) (Reps.c7 (show Kd.M k27 _ _ _ (⟨4, 0, 5, 0, (⟨0, 9⟩ : S25), 1⟩ : S27) [.int .i64 4, .int .i64 0, .int .i64 5, .int .i64 0, .int .u32 0, .int .u32 9, .int .i64 1] from (k27_mkM _ _ _ (⟨4, 0, 5, 0, (⟨0, 9⟩ : S25), 1⟩ : S27) )) (Reps.none _ _)))))); intro v133 w1 ho2 hb hg_ hnew_; clear hg_ hnew_; (first | rw [← Ny132.out] at ho2 | (simp only [Int.reduceToNat] at ho2; rw [← Ny132.out] at ho2)); have n0_ := Aside0.mk (Kd.R_lower ho2 (below_size (gB HB.out))); have n1_ := Aside0.mk (below_step (gB HB.out) hb); clear HB; have HO134 := n0_; have HB := n1_; clear n0_ n1_; clear hb ho2))
 go_ret
 exact ⟨_, by first | rfl | (simp [errW_none, errW_some] <;> rfl) | (simp [*, errW_none, errW_some] <;> rfl), gR HO134.out, gB HB.out⟩
def rule_All.l0 : Nat → List (S27) → Int → List (S27) → Int → Int → Option (Bool)
 | 0, _, _, _, _, _ => none
 | k + 1, x0, x3, x6, x7, x8 => if x8 < x7 then (if 0 ≤ x8 then (if x8 < (x6.length : Int) then ((rule_Right.f ((rd_T27 x6 x8).f0) ((rd_T27 x6 x8).f1) ((rd_T27 x6 x8).f2) ((rd_T27 x6 x8).f3) ((rd_T27 x6 x8).f4.f0) ((rd_T27 x6 x8).f4.f1) ((rd_T27 x6 x8).f5)).bind fun t146 => (if t146 = true then (if ((rd_T27 x6 x8).f0) ≤ x3 then (some false) else (rule_All.l0 k x0 ((rd_T27 x6 x8).f0) x6 x7 (wrap64 (x8 + 1)))) else (some false))) else (none)) else (none)) else (some (decide ((x0.length : Int) ≤ 40)))
def rule_All.f (k : Nat) (l0 : List (S27)) : Option (Bool) := rule_All.l0 k l0 0 l0 (l0.length : Int) 0
theorem rule_All.mono_l : ∀ k, (∀ y0 y1 y2 y3 y4, LeO (rule_All.l0 k y0 y1 y2 y3 y4) (rule_All.l0 (k + 1) y0 y1 y2 y3 y4))
 | 0 => fun _ _ _ _ _ r h => by simp [rule_All.l0] at h
 | k + 1 => by
  have ih0 := rule_All.mono_l k
  ·intro y0 y1 y2 y3 y4
   unfold rule_All.l0
   repeat' first
   | (with_reducible exact ih0 _ _ _ _ _)
   | (with_reducible exact LeO.refl _)
   | (with_reducible exact LeO.none _)
   | (with_reducible refine LeO.ite ?_ ?_)
   | (with_reducible refine LeO.bind ?_ (fun _ => ?_))
   | exact ih0 _ _ _ _ _
   | exact LeO.none _
   | refine LeO.ite ?_ ?_
   | refine LeO.bind ?_ (fun _ => ?_)
theorem rule_All.mono : ∀ a0 k, LeO (rule_All.f k a0) (rule_All.f (k + 1) a0) := by
 intro a0 k
 have ih0 := rule_All.mono_l k
 unfold rule_All.f
 repeat' first
   | (with_reducible exact ih0 _ _ _ _ _)
   | (with_reducible exact LeO.refl _)
   | (with_reducible exact LeO.none _)
   | (with_reducible refine LeO.ite ?_ ?_)
   | (with_reducible refine LeO.bind ?_ (fun _ => ?_))
   | exact ih0 _ _ _ _ _
   | exact LeO.none _
   | refine LeO.ite ?_ ?_
   | refine LeO.bind ?_ (fun _ => ?_)
set_option maxHeartbeats 8000000 in
set_option maxRecDepth 100000 in
theorem rule_All.calls (k : Nat) (A0 : Option Addr) (c0 : Nat) (l0 : List (S27)) (r : Bool) (w : World) (hr0 : Kd.C k27 w A0 l0.length l0) (hc0 : l0.length ≤ c0) (h : rule_All.f k l0 = some r) :
  Calls Tryz.prog 55 #[.slice A0 l0.length c0] w fun e w' => e = .returned (.bool r) ∧ Below w.heap.size w w' := by
 have hu27 := Tryz.underlying27
 have HR0 := Aside0.mk hr0
 have HC0 := Aside0.mk hc0
 clear hr0 hc0
 have HB := Aside0.mk (Below.refl w.heap.size w)
 have H : (rule_All.l0 k l0 0 l0 (l0.length : Int) 0) = some r := h
 clear h
 have H' := Aside0.mk H
 clear H
 go_enter Tryz.func55, Tryz.ntmps55
 go_wp2
 go_loopg [3, 8] k (fun kq v3 v8 w' => ∃ (x3_1 : Int) (x8_1 : Int), v3 = .int .i64 x3_1 ∧ v8 = .int .i64 x8_1 ∧ Aside0 (rule_All.l0 kq l0 x3_1 l0 (l0.length : Int) x8_1 = some r) ∧ Aside0 (kq ≤ k) ∧ Aside0 (Below w.heap.size w w'))
 case atStart => exact ⟨(0), (0), (by first | rfl | (simp; done) | (simp [*]; done)), (by first | rfl | (simp; done) | (simp [*]; done)), H', ⟨Nat.le_refl _⟩, ⟨gB HB.out⟩⟩
 case round =>
  clear H'
  obtain ⟨x3_1, x8_1, rfl, rfl, HA, HK1, HB⟩ := hrel
  cases gk with
  | zero => exact absurd HA.out (by simp [rule_All.l0])
  | succ k1 =>
   have H := HA.out
   clear HA
   simp only [rule_All.l0] at H
   by_cases c2 : x8_1 < (l0.length : Int)
   ·rw [if_pos c2] at H
    have c2b0 : decide (x8_1 < (l0.length : Int)) = true := decide_eq_true c2
    clear c2
    by_cases c3 : 0 ≤ x8_1
    ·rw [if_pos c3] at H
     have c3b0 : decide (0 ≤ x8_1) = true := decide_eq_true c3
     clear c3
     by_cases c4 : x8_1 < (l0.length : Int)
     ·rw [if_pos c4] at H
      have c4b0 : decide (x8_1 < (l0.length : Int)) = true := decide_eq_true c4
      clear c4
      replace H := Option.bind_eq_some_iff.mp H
      obtain ⟨t146, A50, H⟩ := H
      try dsimp only at H
      have A5 := Aside0.mk A50
      clear A50
      by_cases c6 : t146 = true
      ·subst c6
       rw [if_pos rfl] at H
       by_cases c7 : ((rd_T27 l0 x8_1).f0) ≤ x3_1
       ·rw [if_pos c7] at H
        have c7b0 : decide (((rd_T27 l0 x8_1).f0) ≤ x3_1) = true := decide_eq_true c7
        clear c7
        obtain rfl := Option.some.inj H
        have p144 : 0 ≤ (x8_1 : Int) := of_decide_eq_true (by first | (with_reducible assumption) | assumption)
        have q144 : x8_1 < (l0.length : Int) := of_decide_eq_true (by first | (with_reducible assumption) | assumption)
        obtain ⟨ad144, e144, hx144_0, hx144_1, hx144_2, hx144_3, hx144_4, hx144_5, hx144_6⟩ := at_T27 HR0.out x8_1 p144 q144
        cases e144
        replace hx144_0 := (HB.out.cell (World.block_lt_of_cell? w _ hx144_0)).trans hx144_0
        replace hx144_1 := (HB.out.cell (World.block_lt_of_cell? w _ hx144_1)).trans hx144_1
        replace hx144_2 := (HB.out.cell (World.block_lt_of_cell? w _ hx144_2)).trans hx144_2
        replace hx144_3 := (HB.out.cell (World.block_lt_of_cell? w _ hx144_3)).trans hx144_3
        replace hx144_4 := (HB.out.cell (World.block_lt_of_cell? w _ hx144_4)).trans hx144_4
        replace hx144_5 := (HB.out.cell (World.block_lt_of_cell? w _ hx144_5)).trans hx144_5
        replace hx144_6 := (HB.out.cell (World.block_lt_of_cell? w _ hx144_6)).trans hx144_6
        replace p144 := eq_true p144
        replace q144 := eq_true q144
        go_wp2_with (first | ((with_reducible refine gate_dst (N := 5) rfl ?_); refine box_event ?hg (N := 5) ?hd (cs := #[.int .i64 0, .int .i64 0, .int .i64 0, .int .i64 0, .int .u32 0, .int .u32 0, .int .i64 0]) (t := 27) ?hr ?_; (case hd => rfl); (case hg => rfl); (case hr => first | (go_simp; done) | (go_simp; rfl)); intro gb145 hg w8 hbox hb; have n0_ := Aside0.mk (below_step (gB HB.out) hb); have n1_ := Aside0.mk (hbox); have n2_ := Aside0.mk ((by rw [hg]; exact (below_size (gB HB.out)) : w.heap.size ≤ gb145)); have n3_ := Aside0.mk ((by rw [hg]; exact (below_size (gB HB.out)) : w.heap.size ≤ gb145)); clear HB; have HB := n0_; have BK145 := n1_; have GW145 := n2_; have GE145 := n3_; clear n0_ n1_ n2_ n3_; clear hb hbox hg; have hcz9_0 : w8.cell? ⟨gb145, 0, none⟩ = some (.int .i64 0) := (blk_cell BK145.out 0).trans rfl; have hcz9_1 : w8.cell? ⟨gb145, 1, none⟩ = some (.int .i64 0) := (blk_cell BK145.out 1).trans rfl; have hcz9_2 : w8.cell? ⟨gb145, 2, none⟩ = some (.int .i64 0) := (blk_cell BK145.out 2).trans rfl; have hcz9_3 : w8.cell? ⟨gb145, 3, none⟩ = some (.int .i64 0) := (blk_cell BK145.out 3).trans rfl; have hcz9_4 : w8.cell? ⟨gb145, 4, none⟩ = some (.int .u32 0) := (blk_cell BK145.out 4).trans rfl; have hcz9_5 : w8.cell? ⟨gb145, 5, none⟩ = some (.int .u32 0) := (blk_cell BK145.out 5).trans rfl; have hcz9_6 : w8.cell? ⟨gb145, 6, none⟩ = some (.int .i64 0) := (blk_cell BK145.out 6).trans rfl; have hfz9_0 := blk_frozen BK145.out 0; have hfz9_1 := blk_frozen BK145.out 1; have hfz9_2 := blk_frozen BK145.out 2; have hfz9_3 := blk_frozen BK145.out 3; have hfz9_4 := blk_frozen BK145.out 4; have hfz9_5 := blk_frozen BK145.out 5; have hfz9_6 := blk_frozen BK145.out 6) | ((with_reducible refine gate_callee (f := 60) rfl ?_); refine goesL_ (some 13) rfl rfl Tryz.func60 (by kernel_rfl) rfl #[.agg #[.int .i64 ((rd_T27 l0 x8_1).f0), .int .i64 ((rd_T27 l0 x8_1).f1), .int .i64 ((rd_T27 l0 x8_1).f2), .int .i64 ((rd_T27 l0 x8_1).f3), .int .u32 ((rd_T27 l0 x8_1).f4.f0), .int .u32 ((rd_T27 l0 x8_1).f4.f1), .int .i64 ((rd_T27 l0 x8_1).f5)]] rfl (by (try simp only [mA_, mC_, mN_]); first|done|rfl|(simp only [lD_, lT_]; rfl)) ?_; (with_reducible refine (rule_Right.calls ((rd_T27 l0 x8_1).f0) ((rd_T27 l0 x8_1).f1) ((rd_T27 l0 x8_1).f2) ((rd_T27 l0 x8_1).f3) ((rd_T27 l0 x8_1).f4.f0) ((rd_T27 l0 x8_1).f4.f1) ((rd_T27 l0 x8_1).f5) true _ A5.out).mono ?_); rintro e w10 ⟨rfl, hb⟩; refine ⟨_, rfl, ?_⟩; have n0_ := Aside0.mk (blk_below (g := gb145) (o := .cells #[.int .i64 ((rd_T27 l0 x8_1).f0), .int .i64 ((rd_T27 l0 x8_1).f1), .int .i64 ((rd_T27 l0 x8_1).f2), .int .i64 ((rd_T27 l0 x8_1).f3), .int .u32 ((rd_T27 l0 x8_1).f4.f0), .int .u32 ((rd_T27 l0 x8_1).f4.f1), .int .i64 ((rd_T27 l0 x8_1).f5)] 27 (0, 0)) (by (with_reducible repeat (first | refine blk_drewN ?_ _ | refine blk_drew ?_ | refine blk_alloc ?_ _)); refine blk_put (cs := #[.int .i64 ((rd_T27 l0 x8_1).f0), .int .i64 ((rd_T27 l0 x8_1).f1), .int .i64 ((rd_T27 l0 x8_1).f2), .int .i64 ((rd_T27 l0 x8_1).f3), .int .u32 ((rd_T27 l0 x8_1).f4.f0), .int .u32 ((rd_T27 l0 x8_1).f4.f1), .int .i64 0]) ?_ 6 _ rfl; (with_reducible repeat (first | refine blk_drewN ?_ _ | refine blk_drew ?_ | refine blk_alloc ?_ _)); refine blk_put (cs := #[.int .i64 ((rd_T27 l0 x8_1).f0), .int .i64 ((rd_T27 l0 x8_1).f1), .int .i64 ((rd_T27 l0 x8_1).f2), .int .i64 ((rd_T27 l0 x8_1).f3), .int .u32 ((rd_T27 l0 x8_1).f4.f0), .int .u32 0, .int .i64 0]) ?_ 5 _ rfl; (with_reducible repeat (first | refine blk_drewN ?_ _ | refine blk_drew ?_ | refine blk_alloc ?_ _)); refine blk_put (cs := #[.int .i64 ((rd_T27 l0 x8_1).f0), .int .i64 ((rd_T27 l0 x8_1).f1), .int .i64 ((rd_T27 l0 x8_1).f2), .int .i64 ((rd_T27 l0 x8_1).f3), .int .u32 0, .int .u32 0, .int .i64 0]) ?_ 4 _ rfl; (with_reducible repeat (first | refine blk_drewN ?_ _ | refine blk_drew ?_ | refine blk_alloc ?_ _)); refine blk_put (cs := #[.int .i64 ((rd_T27 l0 x8_1).f0), .int .i64 ((rd_T27 l0 x8_1).f1), .int .i64 ((rd_T27 l0 x8_1).f2), .int .i64 0, .int .u32 0, .int .u32 0, .int .i64 0]) ?_ 3 _ rfl; (with_reducible repeat (first | refine blk_drewN ?_ _ | refine blk_drew ?_ | refine blk_alloc ?_ _)); refine blk_put (cs := #[.int .i64 ((rd_T27 l0 x8_1).f0), .int .i64 ((rd_T27 l0 x8_1).f1), .int .i64 0, .int .i64 0, .int .u32 0, .int .u32 0, .int .i64 0]) ?_ 2 _ rfl; (with_reducible repeat (first | refine blk_drewN ?_ _ | refine blk_drew ?_ | refine blk_alloc ?_ _)); refine blk_put (cs := #[.int .i64 ((rd_T27 l0 x8_1).f0), .int .i64 0, .int .i64 0, .int .i64 0, .int .u32 0, .int .u32 0, .int .i64 0]) ?_ 1 _ rfl; (with_reducible repeat (first | refine blk_drewN ?_ _ | refine blk_drew ?_ | refine blk_alloc ?_ _)); refine blk_put (cs := #[.int .i64 0, .int .i64 0, .int .i64 0, .int .i64 0, .int .u32 0, .int .u32 0, .int .i64 0]) ?_ 0 _ rfl; (with_reducible repeat (first | refine blk_drewN ?_ _ | refine blk_drew ?_ | refine blk_alloc ?_ _)); exact BK145.out) hb); have n1_ := Aside0.mk (below_step (by repeat first|(with_reducible first|exact HB.out|apply ba|apply bd|apply b1|refine bs ?_ GE145.out)|exact HB.out) hb); clear BK145; clear HB; have BK145 := n0_; have HB := n1_; clear n0_ n1_; (try clear hb); (try clear hb2); (try clear hk); (try clear hi); have hcz11_0 : w10.cell? ⟨gb145, 0, none⟩ = some (.int .i64 ((rd_T27 l0 x8_1).f0)) := (blk_cell BK145.out 0).trans rfl; have hcz11_1 : w10.cell? ⟨gb145, 1, none⟩ = some (.int .i64 ((rd_T27 l0 x8_1).f1)) := (blk_cell BK145.out 1).trans rfl; have hcz11_2 : w10.cell? ⟨gb145, 2, none⟩ = some (.int .i64 ((rd_T27 l0 x8_1).f2)) := (blk_cell BK145.out 2).trans rfl; have hcz11_3 : w10.cell? ⟨gb145, 3, none⟩ = some (.int .i64 ((rd_T27 l0 x8_1).f3)) := (blk_cell BK145.out 3).trans rfl; have hcz11_4 : w10.cell? ⟨gb145, 4, none⟩ = some (.int .u32 ((rd_T27 l0 x8_1).f4.f0)) := (blk_cell BK145.out 4).trans rfl; have hcz11_5 : w10.cell? ⟨gb145, 5, none⟩ = some (.int .u32 ((rd_T27 l0 x8_1).f4.f1)) := (blk_cell BK145.out 5).trans rfl; have hcz11_6 : w10.cell? ⟨gb145, 6, none⟩ = some (.int .i64 ((rd_T27 l0 x8_1).f5)) := (blk_cell BK145.out 6).trans rfl; have hfz11_0 := blk_frozen BK145.out 0; have hfz11_1 := blk_frozen BK145.out 1; have hfz11_2 := blk_frozen BK145.out 2; have hfz11_3 := blk_frozen BK145.out 3; have hfz11_4 := blk_frozen BK145.out 4; have hfz11_5 := blk_frozen BK145.out 5; have hfz11_6 := blk_frozen BK145.out 6))
        go_ret
        exact ⟨by first | rfl | (simp [errW_none, errW_some] <;> rfl) | (simp [*, errW_none, errW_some] <;> rfl), by repeat first|(with_reducible first|exact HB.out|apply ba|apply bd|apply b1|refine bs ?_ GE145.out)|exact HB.out⟩
       ·rw [if_neg c7] at H
        have c7b0 : decide (((rd_T27 l0 x8_1).f0) ≤ x3_1) = false := decide_eq_false c7
        clear c7
        have H' := Aside0.mk H
        clear H
        have p144 : 0 ≤ (x8_1 : Int) := of_decide_eq_true (by first | (with_reducible assumption) | assumption)
        have q144 : x8_1 < (l0.length : Int) := of_decide_eq_true (by first | (with_reducible assumption) | assumption)
        obtain ⟨ad144, e144, hx144_0, hx144_1, hx144_2, hx144_3, hx144_4, hx144_5, hx144_6⟩ := at_T27 HR0.out x8_1 p144 q144
        cases e144
        replace hx144_0 := (HB.out.cell (World.block_lt_of_cell? w _ hx144_0)).trans hx144_0
        replace hx144_1 := (HB.out.cell (World.block_lt_of_cell? w _ hx144_1)).trans hx144_1
        replace hx144_2 := (HB.out.cell (World.block_lt_of_cell? w _ hx144_2)).trans hx144_2
        replace hx144_3 := (HB.out.cell (World.block_lt_of_cell? w _ hx144_3)).trans hx144_3
        replace hx144_4 := (HB.out.cell (World.block_lt_of_cell? w _ hx144_4)).trans hx144_4
        replace hx144_5 := (HB.out.cell (World.block_lt_of_cell? w _ hx144_5)).trans hx144_5
        replace hx144_6 := (HB.out.cell (World.block_lt_of_cell? w _ hx144_6)).trans hx144_6
        replace p144 := eq_true p144
        replace q144 := eq_true q144
        go_wp2_with (first | ((with_reducible refine gate_dst (N := 5) rfl ?_); refine box_event ?hg (N := 5) ?hd (cs := #[.int .i64 0, .int .i64 0, .int .i64 0, .int .i64 0, .int .u32 0, .int .u32 0, .int .i64 0]) (t := 27) ?hr ?_; (case hd => rfl); (case hg => rfl); (case hr => first | (go_simp; done) | (go_simp; rfl)); intro gb145 hg w12 hbox hb; have n0_ := Aside0.mk (below_step (gB HB.out) hb); have n1_ := Aside0.mk (hbox); have n2_ := Aside0.mk ((by rw [hg]; exact (below_size (gB HB.out)) : w.heap.size ≤ gb145)); have n3_ := Aside0.mk ((by rw [hg]; exact (below_size (gB HB.out)) : w.heap.size ≤ gb145)); clear HB; have HB := n0_; have BK145 := n1_; have GW145 := n2_; have GE145 := n3_; clear n0_ n1_ n2_ n3_; clear hb hbox hg; have hcz13_0 : w12.cell? ⟨gb145, 0, none⟩ = some (.int .i64 0) := (blk_cell BK145.out 0).trans rfl; have hcz13_1 : w12.cell? ⟨gb145, 1, none⟩ = some (.int .i64 0) := (blk_cell BK145.out 1).trans rfl; have hcz13_2 : w12.cell? ⟨gb145, 2, none⟩ = some (.int .i64 0) := (blk_cell BK145.out 2).trans rfl; have hcz13_3 : w12.cell? ⟨gb145, 3, none⟩ = some (.int .i64 0) := (blk_cell BK145.out 3).trans rfl; have hcz13_4 : w12.cell? ⟨gb145, 4, none⟩ = some (.int .u32 0) := (blk_cell BK145.out 4).trans rfl; have hcz13_5 : w12.cell? ⟨gb145, 5, none⟩ = some (.int .u32 0) := (blk_cell BK145.out 5).trans rfl; have hcz13_6 : w12.cell? ⟨gb145, 6, none⟩ = some (.int .i64 0) := (blk_cell BK145.out 6).trans rfl; have hfz13_0 := blk_frozen BK145.out 0; have hfz13_1 := blk_frozen BK145.out 1; have hfz13_2 := blk_frozen BK145.out 2; have hfz13_3 := blk_frozen BK145.out 3; have hfz13_4 := blk_frozen BK145.out 4; have hfz13_5 := blk_frozen BK145.out 5; have hfz13_6 := blk_frozen BK145.out 6) | ((with_reducible refine gate_callee (f := 60) rfl ?_); refine goesL_ (some 13) rfl rfl Tryz.func60 (by kernel_rfl) rfl #[.agg #[.int .i64 ((rd_T27 l0 x8_1).f0), .int .i64 ((rd_T27 l0 x8_1).f1), .int .i64 ((rd_T27 l0 x8_1).f2), .int .i64 ((rd_T27 l0 x8_1).f3), .int .u32 ((rd_T27 l0 x8_1).f4.f0), .int .u32 ((rd_T27 l0 x8_1).f4.f1), .int .i64 ((rd_T27 l0 x8_1).f5)]] rfl (by (try simp only [mA_, mC_, mN_]); first|done|rfl|(simp only [lD_, lT_]; rfl)) ?_; (with_reducible refine (rule_Right.calls ((rd_T27 l0 x8_1).f0) ((rd_T27 l0 x8_1).f1) ((rd_T27 l0 x8_1).f2) ((rd_T27 l0 x8_1).f3) ((rd_T27 l0 x8_1).f4.f0) ((rd_T27 l0 x8_1).f4.f1) ((rd_T27 l0 x8_1).f5) true _ A5.out).mono ?_); rintro e w14 ⟨rfl, hb⟩; refine ⟨_, rfl, ?_⟩; have n0_ := Aside0.mk (blk_below (g := gb145) (o := .cells #[.int .i64 ((rd_T27 l0 x8_1).f0), .int .i64 ((rd_T27 l0 x8_1).f1), .int .i64 ((rd_T27 l0 x8_1).f2), .int .i64 ((rd_T27 l0 x8_1).f3), .int .u32 ((rd_T27 l0 x8_1).f4.f0), .int .u32 ((rd_T27 l0 x8_1).f4.f1), .int .i64 ((rd_T27 l0 x8_1).f5)] 27 (0, 0)) (by (with_reducible repeat (first | refine blk_drewN ?_ _ | refine blk_drew ?_ | refine blk_alloc ?_ _)); refine blk_put (cs := #[.int .i64 ((rd_T27 l0 x8_1).f0), .int .i64 ((rd_T27 l0 x8_1).f1), .int .i64 ((rd_T27 l0 x8_1).f2), .int .i64 ((rd_T27 l0 x8_1).f3), .int .u32 ((rd_T27 l0 x8_1).f4.f0), .int .u32 ((rd_T27 l0 x8_1).f4.f1), .int .i64 0]) ?_ 6 _ rfl; (with_reducible repeat (first | refine blk_drewN ?_ _ | refine blk_drew ?_ | refine blk_alloc ?_ _)); refine blk_put (cs := #[.int .i64 ((rd_T27 l0 x8_1).f0), .int .i64 ((rd_T27 l0 x8_1).f1), .int .i64 ((rd_T27 l0 x8_1).f2), .int .i64 ((rd_T27 l0 x8_1).f3), .int .u32 ((rd_T27 l0 x8_1).f4.f0), .int .u32 0, .int .i64 0]) ?_ 5 _ rfl; (with_reducible repeat (first | refine blk_drewN ?_ _ | refine blk_drew ?_ | refine blk_alloc ?_ _)); refine blk_put (cs := #[.int .i64 ((rd_T27 l0 x8_1).f0), .int .i64 ((rd_T27 l0 x8_1).f1), .int .i64 ((rd_T27 l0 x8_1).f2), .int .i64 ((rd_T27 l0 x8_1).f3), .int .u32 0, .int .u32 0, .int .i64 0]) ?_ 4 _ rfl; (with_reducible repeat (first | refine blk_drewN ?_ _ | refine blk_drew ?_ | refine blk_alloc ?_ _)); refine blk_put (cs := #[.int .i64 ((rd_T27 l0 x8_1).f0), .int .i64 ((rd_T27 l0 x8_1).f1), .int .i64 ((rd_T27 l0 x8_1).f2), .int .i64 0, .int .u32 0, .int .u32 0, .int .i64 0]) ?_ 3 _ rfl; (with_reducible repeat (first | refine blk_drewN ?_ _ | refine blk_drew ?_ | refine blk_alloc ?_ _)); refine blk_put (cs := #[.int .i64 ((rd_T27 l0 x8_1).f0), .int .i64 ((rd_T27 l0 x8_1).f1), .int .i64 0, .int .i64 0, .int .u32 0, .int .u32 0, .int .i64 0]) ?_ 2 _ rfl; (with_reducible repeat (first | refine blk_drewN ?_ _ | refine blk_drew ?_ | refine blk_alloc ?_ _)); refine blk_put (cs := #[.int .i64 ((rd_T27 l0 x8_1).f0), .int .i64 0, .int .i64 0, .int .i64 0, .int .u32 0, .int .u32 0, .int .i64 0]) ?_ 1 _ rfl; (with_reducible repeat (first | refine blk_drewN ?_ _ | refine blk_drew ?_ | refine blk_alloc ?_ _)); refine blk_put (cs := #[.int .i64 0, .int .i64 0, .int .i64 0, .int .i64 0, .int .u32 0, .int .u32 0, .int .i64 0]) ?_ 0 _ rfl; (with_reducible repeat (first | refine blk_drewN ?_ _ | refine blk_drew ?_ | refine blk_alloc ?_ _)); exact BK145.out) hb); have n1_ := Aside0.mk (below_step (by repeat first|(with_reducible first|exact HB.out|apply ba|apply bd|apply b1|refine bs ?_ GE145.out)|exact HB.out) hb); clear BK145; clear HB; have BK145 := n0_; have HB := n1_; clear n0_ n1_; (try clear hb); (try clear hb2); (try clear hk); (try clear hi); have hcz15_0 : w14.cell? ⟨gb145, 0, none⟩ = some (.int .i64 ((rd_T27 l0 x8_1).f0)) := (blk_cell BK145.out 0).trans rfl; have hcz15_1 : w14.cell? ⟨gb145, 1, none⟩ = some (.int .i64 ((rd_T27 l0 x8_1).f1)) := (blk_cell BK145.out 1).trans rfl; have hcz15_2 : w14.cell? ⟨gb145, 2, none⟩ = some (.int .i64 ((rd_T27 l0 x8_1).f2)) := (blk_cell BK145.out 2).trans rfl; have hcz15_3 : w14.cell? ⟨gb145, 3, none⟩ = some (.int .i64 ((rd_T27 l0 x8_1).f3)) := (blk_cell BK145.out 3).trans rfl; have hcz15_4 : w14.cell? ⟨gb145, 4, none⟩ = some (.int .u32 ((rd_T27 l0 x8_1).f4.f0)) := (blk_cell BK145.out 4).trans rfl; have hcz15_5 : w14.cell? ⟨gb145, 5, none⟩ = some (.int .u32 ((rd_T27 l0 x8_1).f4.f1)) := (blk_cell BK145.out 5).trans rfl; have hcz15_6 : w14.cell? ⟨gb145, 6, none⟩ = some (.int .i64 ((rd_T27 l0 x8_1).f5)) := (blk_cell BK145.out 6).trans rfl; have hfz15_0 := blk_frozen BK145.out 0; have hfz15_1 := blk_frozen BK145.out 1; have hfz15_2 := blk_frozen BK145.out 2; have hfz15_3 := blk_frozen BK145.out 3; have hfz15_4 := blk_frozen BK145.out 4; have hfz15_5 := blk_frozen BK145.out 5; have hfz15_6 := blk_frozen BK145.out 6))
        go_roundg k1
        case measure => have := HK1.out; omega
        case rel => exact ⟨((rd_T27 l0 x8_1).f0), (wrap64 (x8_1 + 1)), (by first | rfl | (simp; done) | (simp [*]; done)), (by first | rfl | (simp; done) | (simp [*]; done)), H', ⟨by have := HK1.out; omega⟩, ⟨by repeat first|(with_reducible first|exact HB.out|apply ba|apply bd|apply b1|refine bs ?_ GE145.out)|exact HB.out⟩⟩
      ·replace c6 := Bool.eq_false_iff.mpr c6
       subst c6
       rw [if_neg (show ¬ (false = true) by decide)] at H
       obtain rfl := Option.some.inj H
       have p144 : 0 ≤ (x8_1 : Int) := of_decide_eq_true (by first | (with_reducible assumption) | assumption)
       have q144 : x8_1 < (l0.length : Int) := of_decide_eq_true (by first | (with_reducible assumption) | assumption)
       obtain ⟨ad144, e144, hx144_0, hx144_1, hx144_2, hx144_3, hx144_4, hx144_5, hx144_6⟩ := at_T27 HR0.out x8_1 p144 q144
       cases e144
       replace hx144_0 := (HB.out.cell (World.block_lt_of_cell? w _ hx144_0)).trans hx144_0
       replace hx144_1 := (HB.out.cell (World.block_lt_of_cell? w _ hx144_1)).trans hx144_1
       replace hx144_2 := (HB.out.cell (World.block_lt_of_cell? w _ hx144_2)).trans hx144_2
       replace hx144_3 := (HB.out.cell (World.block_lt_of_cell? w _ hx144_3)).trans hx144_3
       replace hx144_4 := (HB.out.cell (World.block_lt_of_cell? w _ hx144_4)).trans hx144_4
       replace hx144_5 := (HB.out.cell (World.block_lt_of_cell? w _ hx144_5)).trans hx144_5
       replace hx144_6 := (HB.out.cell (World.block_lt_of_cell? w _ hx144_6)).trans hx144_6
       replace p144 := eq_true p144
       replace q144 := eq_true q144
       go_wp2_with (first | ((with_reducible refine gate_dst (N := 5) rfl ?_); refine box_event ?hg (N := 5) ?hd (cs := #[.int .i64 0, .int .i64 0, .int .i64 0, .int .i64 0, .int .u32 0, .int .u32 0, .int .i64 0]) (t := 27) ?hr ?_; (case hd => rfl); (case hg => rfl); (case hr => first | (go_simp; done) | (go_simp; rfl)); intro gb145 hg w16 hbox hb; have n0_ := Aside0.mk (below_step (gB HB.out) hb); have n1_ := Aside0.mk (hbox); have n2_ := Aside0.mk ((by rw [hg]; exact (below_size (gB HB.out)) : w.heap.size ≤ gb145)); have n3_ := Aside0.mk ((by rw [hg]; exact (below_size (gB HB.out)) : w.heap.size ≤ gb145)); clear HB; have HB := n0_; have BK145 := n1_; have GW145 := n2_; have GE145 := n3_; clear n0_ n1_ n2_ n3_; clear hb hbox hg; have hcz17_0 : w16.cell? ⟨gb145, 0, none⟩ = some (.int .i64 0) := (blk_cell BK145.out 0).trans rfl; have hcz17_1 : w16.cell? ⟨gb145, 1, none⟩ = some (.int .i64 0) := (blk_cell BK145.out 1).trans rfl; have hcz17_2 : w16.cell? ⟨gb145, 2, none⟩ = some (.int .i64 0) := (blk_cell BK145.out 2).trans rfl; have hcz17_3 : w16.cell? ⟨gb145, 3, none⟩ = some (.int .i64 0) := (blk_cell BK145.out 3).trans rfl; have hcz17_4 : w16.cell? ⟨gb145, 4, none⟩ = some (.int .u32 0) := (blk_cell BK145.out 4).trans rfl; have hcz17_5 : w16.cell? ⟨gb145, 5, none⟩ = some (.int .u32 0) := (blk_cell BK145.out 5).trans rfl; have hcz17_6 : w16.cell? ⟨gb145, 6, none⟩ = some (.int .i64 0) := (blk_cell BK145.out 6).trans rfl; have hfz17_0 := blk_frozen BK145.out 0; have hfz17_1 := blk_frozen BK145.out 1; have hfz17_2 := blk_frozen BK145.out 2; have hfz17_3 := blk_frozen BK145.out 3; have hfz17_4 := blk_frozen BK145.out 4; have hfz17_5 := blk_frozen BK145.out 5; have hfz17_6 := blk_frozen BK145.out 6) | ((with_reducible refine gate_callee (f := 60) rfl ?_); refine goesL_ (some 13) rfl rfl Tryz.func60 (by kernel_rfl) rfl #[.agg #[.int .i64 ((rd_T27 l0 x8_1).f0), .int .i64 ((rd_T27 l0 x8_1).f1), .int .i64 ((rd_T27 l0 x8_1).f2), .int .i64 ((rd_T27 l0 x8_1).f3), .int .u32 ((rd_T27 l0 x8_1).f4.f0), .int .u32 ((rd_T27 l0 x8_1).f4.f1), .int .i64 ((rd_T27 l0 x8_1).f5)]] rfl (by (try simp only [mA_, mC_, mN_]); first|done|rfl|(simp only [lD_, lT_]; rfl)) ?_; (with_reducible refine (rule_Right.calls ((rd_T27 l0 x8_1).f0) ((rd_T27 l0 x8_1).f1) ((rd_T27 l0 x8_1).f2) ((rd_T27 l0 x8_1).f3) ((rd_T27 l0 x8_1).f4.f0) ((rd_T27 l0 x8_1).f4.f1) ((rd_T27 l0 x8_1).f5) false _ A5.out).mono ?_); rintro e w18 ⟨rfl, hb⟩; refine ⟨_, rfl, ?_⟩; have n0_ := Aside0.mk (blk_below (g := gb145) (o := .cells #[.int .i64 ((rd_T27 l0 x8_1).f0), .int .i64 ((rd_T27 l0 x8_1).f1), .int .i64 ((rd_T27 l0 x8_1).f2), .int .i64 ((rd_T27 l0 x8_1).f3), .int .u32 ((rd_T27 l0 x8_1).f4.f0), .int .u32 ((rd_T27 l0 x8_1).f4.f1), .int .i64 ((rd_T27 l0 x8_1).f5)] 27 (0, 0)) (by (with_reducible repeat (first | refine blk_drewN ?_ _ | refine blk_drew ?_ | refine blk_alloc ?_ _)); refine blk_put (cs := #[.int .i64 ((rd_T27 l0 x8_1).f0), .int .i64 ((rd_T27 l0 x8_1).f1), .int .i64 ((rd_T27 l0 x8_1).f2), .int .i64 ((rd_T27 l0 x8_1).f3), .int .u32 ((rd_T27 l0 x8_1).f4.f0), .int .u32 ((rd_T27 l0 x8_1).f4.f1), .int .i64 0]) ?_ 6 _ rfl; (with_reducible repeat (first | refine blk_drewN ?_ _ | refine blk_drew ?_ | refine blk_alloc ?_ _)); refine blk_put (cs := #[.int .i64 ((rd_T27 l0 x8_1).f0), .int .i64 ((rd_T27 l0 x8_1).f1), .int .i64 ((rd_T27 l0 x8_1).f2), .int .i64 ((rd_T27 l0 x8_1).f3), .int .u32 ((rd_T27 l0 x8_1).f4.f0), .int .u32 0, .int .i64 0]) ?_ 5 _ rfl; (with_reducible repeat (first | refine blk_drewN ?_ _ | refine blk_drew ?_ | refine blk_alloc ?_ _)); refine blk_put (cs := #[.int .i64 ((rd_T27 l0 x8_1).f0), .int .i64 ((rd_T27 l0 x8_1).f1), .int .i64 ((rd_T27 l0 x8_1).f2), .int .i64 ((rd_T27 l0 x8_1).f3), .int .u32 0, .int .u32 0, .int .i64 0]) ?_ 4 _ rfl; (with_reducible repeat (first | refine blk_drewN ?_ _ | refine blk_drew ?_ | refine blk_alloc ?_ _)); refine blk_put (cs := #[.int .i64 ((rd_T27 l0 x8_1).f0), .int .i64 ((rd_T27 l0 x8_1).f1), .int .i64 ((rd_T27 l0 x8_1).f2), .int .i64 0, .int .u32 0, .int .u32 0, .int .i64 0]) ?_ 3 _ rfl; (with_reducible repeat (first | refine blk_drewN ?_ _ | refine blk_drew ?_ | refine blk_alloc ?_ _)); refine blk_put (cs := #[.int .i64 ((rd_T27 l0 x8_1).f0), .int .i64 ((rd_T27 l0 x8_1).f1), .int .i64 0, .int .i64 0, .int .u32 0, .int .u32 0, .int .i64 0]) ?_ 2 _ rfl; (with_reducible repeat (first | refine blk_drewN ?_ _ | refine blk_drew ?_ | refine blk_alloc ?_ _)); refine blk_put (cs := #[.int .i64 ((rd_T27 l0 x8_1).f0), .int .i64 0, .int .i64 0, .int .i64 0, .int .u32 0, .int .u32 0, .int .i64 0]) ?_ 1 _ rfl; (with_reducible repeat (first | refine blk_drewN ?_ _ | refine blk_drew ?_ | refine blk_alloc ?_ _)); refine blk_put (cs := #[.int .i64 0, .int .i64 0, .int .i64 0, .int .i64 0, .int .u32 0, .int .u32 0, .int .i64 0]) ?_ 0 _ rfl; (with_reducible repeat (first | refine blk_drewN ?_ _ | refine blk_drew ?_ | refine blk_alloc ?_ _)); exact BK145.out) hb); have n1_ := Aside0.mk (below_step (by repeat first|(with_reducible first|exact HB.out|apply ba|apply bd|apply b1|refine bs ?_ GE145.out)|exact HB.out) hb); clear BK145; clear HB; have BK145 := n0_; have HB := n1_; clear n0_ n1_; (try clear hb); (try clear hb2); (try clear hk); (try clear hi)))
       go_ret
       exact ⟨by first | rfl | (simp [errW_none, errW_some] <;> rfl) | (simp [*, errW_none, errW_some] <;> rfl), by repeat first|(with_reducible first|exact HB.out|apply ba|apply bd|apply b1|refine bs ?_ GE145.out)|exact HB.out⟩
     ·rw [if_neg c4] at H
      exact absurd H (by simp)
    ·rw [if_neg c3] at H
     exact absurd H (by simp)
   ·rw [if_neg c2] at H
    have c2b0 : decide (x8_1 < (l0.length : Int)) = false := decide_eq_false c2
    clear c2
    obtain rfl := Option.some.inj H
    go_wp2
    go_ret
    exact ⟨by first | rfl | (simp [errW_none, errW_some] <;> rfl) | (simp [*, errW_none, errW_some] <;> rfl), gB HB.out⟩
end Go.Proofs.YtfjamikpahmfhaaGreatDoor.P
end
section
namespace Go.Proofs.YtfjamikpahmfhaaGreatDoor.P
open Go.RowKit Go.Proofs.YtfjamikpahmfhaaGreatDoorW.PrintWords Go.Proofs.YtfjamikpahmfhaaGreatDoorW.PrintLast Go.Proofs.YtfjamikpahmfhaaGreatDoorW.PrintMore
set_option linter.unusedVariables false
set_option linter.unusedSimpArgs false
def headMin : List Rl → Option Rl
  | [] => none
  | x :: r => some (minR x r)
def firstF (p : Rl → Bool) (l : List Rl) : Option Rl := headMin (l.filter p)
theorem AskedAt.mono {W w1 : World} {g : FuncId} {lb : Array Value} {p : Rl → Bool} (h : AskedAt W g lb p) (hb : Below W.heap.size W w1) : AskedAt w1 g lb p :=
  fun w' hw x => h w' (hb.trans (hw.mono hb.size)) x
theorem enters (f : FuncId) {fn : Func} (hf : Tryz.prog.funcs[f]? = some fn) (hname : (fn.name == "runtime.NumGoroutine") = false) (hb : fn.body.isSome = true) : ∀ args w, (callFunc f args).run Tryz.prog w = .ok (.enter f args) w := fun args w => enters_ hf hname hb args w
set_option maxHeartbeats 2000000 in
set_option maxRecDepth 100000 in
theorem first_calls (W : World) (g : FuncId) (lb : Array Value) (p : Rl → Bool) (eg : ∀ args w, (callFunc g args).run Tryz.prog w = .ok (.enter g args) w) (hA : AskedAt W g lb p)
    (A : Option Addr) (c : Nat) (l : List Rl) (hC : Kd.C k27 W A l.length l) (hc : l.length ≤ c) (hsz : l.length * 48 ≤ 140737488351232) :
    Calls Tryz.prog 67 #[.slice A l.length c, .func (.func g) #[] lb] W fun e w' => e = .returned (.tuple #[rv ((firstF p l).getD z27), .bool (firstF p l).isSome]) ∧ Below W.heap.size W w' := by
  have hu45 := Tryz.underlying27
  have HA := Aside0.mk hA
  have HC := Aside0.mk hC
  clear hA hC
  have HB := Aside0.mk (Below.refl W.heap.size W)
  have e61 := enters 119 Tryz.func119 (by kernel_rfl) rfl
  have huS := Tryz.underlying35
  have HF : Aside0 ((l.filter fun x => !(!p x)) = l.filter p) := ⟨by simp⟩
  go_enter Tryz.func67, Tryz.ntmps67
  go_upto_region 2 with (first | ((with_reducible refine gate_dst (N := 3) rfl ?_); refine box_event ?hg (N := 3) ?hd (cs := #[.func (.func g) #[] lb]) (t := 28) ?hr ?_; (case hd => rfl); (case hg => rfl); (case hr => first | (go_simp; done) | (go_simp; rfl)); intro g3 hg w6 hbox hb; have BM3 := Aside0.mk hbox; have n1_ := Aside0.mk (below_step HB.out hb); have n2_ := Aside0.mk (Kd.C_below HC.out hb); clear HB HC; have HB := n1_; have HC := n2_; clear n1_ n2_ hb hbox hg) | ((with_reducible refine gate_dst (N := 4) rfl ?_); refine box_event ?hg (N := 4) ?hd (cs := #[.int .i64 0, .int .i64 0, .int .i64 0, .int .i64 0, .int .u32 0, .int .u32 0, .int .i64 0]) (t := 27) ?hr ?_; (case hd => rfl); (case hg => rfl); (case hr => first | (go_simp; done) | (go_simp; rfl)); intro g4 hg w7 hbox hb; have BM4 := Aside0.mk hbox; have GE4 := Aside0.mk (show W.heap.size ≤ g4 by rw [hg]; exact below_size HB.out); have n1_ := Aside0.mk (below_step HB.out hb); have n2_ := Aside0.mk (Kd.C_below HC.out hb); have n3_ := Aside0.mk (blk_below BM3.out hb); clear HB HC BM3; have HB := n1_; have HC := n2_; have BM3 := n3_; clear n1_ n2_ n3_ hb hbox hg; have H61 := Aside0.mk (first1_asked w7 g3 g lb p eg ((blk_cell BM3.out 0).trans rfl) (HA.out.mono HB.out))) | (go_at_call 75; refine (clone_calls _ A c l HC.out hc hsz).mono ?_; rintro e w8 ⟨v8, rfl, hR, hb8⟩; have HR := Aside0.mk hR; have HB8 := Aside0.mk hb8; clear hR hb8) | (go_at_call 118; refine (deleteFunc_calls w7 w8 119 _ _ e61 H61.out HB8.out v8 l HR.out (by omega)).mono ?_; rintro e w9 ⟨v9, rfl, hR9, hb9⟩; have HR9 := Aside0.mk hR9; have HB9 := Aside0.mk hb9; clear hR9 hb9 HR HB8))
  have BM5 := Aside0.mk (blk_below BM4.out (HB9.out))
  have HBT := Aside0.mk (HB.out.trans (HB9.out.mono HB.out.size))
  clear BM4 BM3 HB HC H61 HA HB9
  have HR10 := Aside0.mk (show Kd.R k27 27 w9 w7.heap.size (fun _ => True) v9 (l.filter p) by rw [← HF.out]; exact HR9.out)
  clear HR9 HF
  obtain ⟨L, hL⟩ : ∃ L, L = l.filter p := ⟨_, rfl⟩
  rw [← hL] at HR10
  have hll : L.length ≤ l.length := by rw [hL]; exact List.length_filter_le _ _
  have HFF := Aside0.mk (show firstF p l = headMin L by rw [hL]; rfl)
  clear hL
  obtain ⟨A2, c2, hv, hc2, hC2⟩ := Kd.R_reads HR10.out
  subst hv
  have HC2 := Aside0.mk hC2
  clear HR10 hC2
  cases L with
  | nil =>
    go_wp2_with ((with_reducible refine gate_ (.store 27 (.tmp 4) (.tmp 13)) rfl ?_); refine store_block rfl rfl 27 (.tmp 4) (.tmp 13) rfl (rv z27) (rcells z27) rfl rfl rfl (by kernel_rfl) (rcells_one _) BM5.out rfl ?_; intro w11 hm hgr)
    refine bodyPost_ret (results_ct rfl _ _ g4 27 (rcells z27).toArray (0, 0) _ rfl hm Tryz.underlying27 rfl (by kernel_rfl)) rfl ?_
    refine ⟨?_, pw_below_grown HBT.out (some g4) HBT.out.size hgr (fun k hk => by injection hk with hk; subst hk; exact GE4.out)⟩
    rw [HFF.out]
    rfl
  | cons x r =>
    have hne : ((((x :: r).length : Nat) : Int) == 0) = false := beq_eq_false_iff_ne.2 (by simp only [List.length_cons]; omega)
    have hnd : decide ((((x :: r).length : Nat) : Int) = 0) = false := decide_eq_false (by simp only [List.length_cons]; omega)
    have hnp : ((((x :: r).length : Nat) : Int) = 0) = False := eq_false (by simp only [List.length_cons]; omega)
    have CM := Aside0.mk (minFunc_calls w9 A2 c2 x r HC2.out hc2 (by omega))
    generalize (x :: r).length = n at *
    go_wp2_with (first | (go_at_call 120; refine CM.out.mono ?_; rintro e w10 ⟨rfl, hb10⟩; have BM6 := Aside0.mk (blk_below BM5.out hb10); have HB10 := Aside0.mk (below_step HBT.out hb10); clear hb10) | ((with_reducible refine gate_ (.store 27 (.tmp 4) (.tmp 15)) rfl ?_); refine store_block rfl rfl 27 (.tmp 4) (.tmp 15) rfl (rv (minR x r)) (rcells (minR x r)) rfl rfl rfl (by kernel_rfl) (rcells_one _) BM6.out rfl ?_; intro w11 hm hgr))
    refine bodyPost_ret (results_ct rfl _ _ g4 27 (rcells (minR x r)).toArray (0, 0) _ rfl hm Tryz.underlying27 rfl (by kernel_rfl)) rfl ?_
    refine ⟨?_, pw_below_grown HB10.out (some g4) HB10.out.size hgr (fun k hk => by injection hk with hk; subst hk; exact GE4.out)⟩
    rw [HFF.out]
    rfl
def matchP (dev a : Int) (x : Rl) : Bool := decide (x.f3 ≤ 1) && takesB dev a x
def deniesP (dev a : Int) (x : Rl) : Bool := decide (1 < x.f3) && takesB dev a x
def rule_Match.f (l : List Rl) (dev a : Int) : Option (Int × Int × Int × Int × Int × Int × Int × Bool) :=
  if l.length * 48 ≤ 140737488351232 then
    let x := (firstF (matchP dev a) l).getD z27
    some (x.f0, x.f1, x.f2, x.f3, x.f4.f0, x.f4.f1, x.f5, (firstF (matchP dev a) l).isSome)
  else none
set_option maxHeartbeats 2000000 in
set_option maxRecDepth 100000 in
theorem rule_Match.calls (A0 : Option Addr) (c0 : Nat) (l0 : List Rl) (a1 a2 r1 r2 r3 r4 r5 r6 r7 : Int) (r8 : Bool) (w : World) (hr0 : Kd.C k27 w A0 l0.length l0) (hc0 : l0.length ≤ c0) (h : rule_Match.f l0 a1 a2 = some (r1, r2, r3, r4, r5, r6, r7, r8)) :
    Calls Tryz.prog 19 #[.slice A0 l0.length c0, .int .i64 a1, .int .u32 a2] w fun e w' => e = .returned (.tuple #[.agg #[.int .i64 r1, .int .i64 r2, .int .i64 r3, .int .i64 r4, .int .u32 r5, .int .u32 r6, .int .i64 r7], .bool r8]) ∧ Below w.heap.size w w' := by
  unfold rule_Match.f at h
  split at h
  case isFalse => cases h
  rename_i hsz
  have hh := Option.some.inj h
  clear h
  simp only [Prod.mk.injEq] at hh
  obtain ⟨e1, e2, e3, e4, e5, e6, e7, e8⟩ := hh
  have HV : Aside0 (rv ((firstF (matchP a1 a2) l0).getD z27) = .agg #[.int .i64 r1, .int .i64 r2, .int .i64 r3, .int .i64 r4, .int .u32 r5, .int .u32 r6, .int .i64 r7]) := ⟨by rw [← e1, ← e2, ← e3, ← e4, ← e5, ← e6, ← e7]; rfl⟩
  clear e1 e2 e3 e4 e5 e6 e7
  have hu45 := Tryz.underlying27
  have e43 := enters 68 Tryz.func68 (by kernel_rfl) rfl
  have HC := Aside0.mk hr0
  clear hr0
  have HB := Aside0.mk (Below.refl w.heap.size w)
  go_enter Tryz.func19, Tryz.ntmps19
  go_wp2_with (first | ((with_reducible refine gate_dst (N := 4) rfl ?_); refine box_event ?hg (N := 4) ?hd (cs := #[.int .i64 a1]) (t := 3) ?hr ?_; (case hd => rfl); (case hg => rfl); (case hr => first | (go_simp; done) | (go_simp; rfl)); intro g4 hg w6 hbox hb; have BM4 := Aside0.mk hbox; have n1_ := Aside0.mk (below_step HB.out hb); have n2_ := Aside0.mk (Kd.C_below HC.out hb); clear HB HC; have HB := n1_; have HC := n2_; clear n1_ n2_ hb hbox hg) | ((with_reducible refine gate_dst (N := 5) rfl ?_); refine box_event ?hg (N := 5) ?hd (cs := #[.int .u32 a2]) (t := 23) ?hr ?_; (case hd => rfl); (case hg => rfl); (case hr => first | (go_simp; done) | (go_simp; rfl)); intro g5 hg w6 hbox hb; have BM5 := Aside0.mk hbox; have n1_ := Aside0.mk (below_step HB.out hb); have n2_ := Aside0.mk (Kd.C_below HC.out hb); have n3_ := Aside0.mk (blk_below BM4.out hb); clear HB HC BM4; have HB := n1_; have HC := n2_; have BM4 := n3_; clear n1_ n2_ n3_ hb hbox hg) | ((with_reducible refine gate_dst (N := 6) rfl ?_); refine box_event ?hg (N := 6) ?hd (cs := #[.int .i64 0, .int .i64 0, .int .i64 0, .int .i64 0, .int .u32 0, .int .u32 0, .int .i64 0]) (t := 27) ?hr ?_; (case hd => rfl); (case hg => rfl); (case hr => first | (go_simp; done) | (go_simp; rfl)); intro g6 hg w7 hbox hb; have BM6 := Aside0.mk hbox; have GE6 := Aside0.mk (show w.heap.size ≤ g6 by rw [hg]; exact below_size HB.out); have n1_ := Aside0.mk (below_step HB.out hb); have n2_ := Aside0.mk (Kd.C_below HC.out hb); have n3_ := Aside0.mk (blk_below BM4.out hb); have n4_ := Aside0.mk (blk_below BM5.out hb); clear HB HC BM4 BM5; have HB := n1_; have HC := n2_; have BM4 := n3_; have BM5 := n4_; clear n1_ n2_ n3_ n4_ hb hbox hg; have HP := Aside0.mk (match1_asked w7 g4 g5 a1 a2 ((blk_cell BM4.out 0).trans rfl) ((blk_cell BM5.out 0).trans rfl))) | (go_at_call 67; refine (first_calls w7 68 _ (matchP a1 a2) e43 HP.out A0 c0 l0 HC.out hc0 hsz).mono ?_; rintro e w8 ⟨rfl, hb8⟩; have BM7 := Aside0.mk (blk_below BM6.out hb8); have HB8 := Aside0.mk (below_step HB.out hb8); clear hb8) | ((with_reducible refine gate_ (.store 27 (.tmp 6) (.tmp 11)) rfl ?_); refine store_block rfl rfl 27 (.tmp 6) (.tmp 11) rfl (rv ((firstF (matchP a1 a2) l0).getD z27)) (rcells ((firstF (matchP a1 a2) l0).getD z27)) rfl rfl rfl (by kernel_rfl) (rcells_one _) BM7.out rfl ?_; intro w11 hm hgr))
  refine bodyPost_ret (results_ct rfl _ _ g6 27 (rcells ((firstF (matchP a1 a2) l0).getD z27)).toArray (0, 0) _ rfl hm Tryz.underlying27 rfl (by kernel_rfl)) rfl ?_
  refine ⟨?_, pw_below_grown HB8.out (some g6) HB8.out.size hgr (fun k hk => by injection hk with hk; subst hk; exact GE6.out)⟩
  rw [← e8, ← HV.out]
  rfl
def rule_Denies.f (l : List Rl) (dev a : Int) : Option Bool :=
  if l.length * 48 ≤ 140737488351232 then some ((firstF (deniesP dev a) l).isSome && decide (((firstF (deniesP dev a) l).getD z27).f3 = 3)) else none
set_option maxHeartbeats 2000000 in
set_option maxRecDepth 100000 in
theorem rule_Denies.calls (A0 : Option Addr) (c0 : Nat) (l0 : List Rl) (a1 a2 : Int) (r : Bool) (w : World) (hr0 : Kd.C k27 w A0 l0.length l0) (hc0 : l0.length ≤ c0) (h : rule_Denies.f l0 a1 a2 = some r) :
    Calls Tryz.prog 22 #[.slice A0 l0.length c0, .int .i64 a1, .int .u32 a2] w fun e w' => e = .returned (.bool r) ∧ Below w.heap.size w w' := by
  unfold rule_Denies.f at h
  split at h
  case isFalse => cases h
  rename_i hsz
  have hh := Aside0.mk (Option.some.inj h)
  clear h
  have hu45 := Tryz.underlying27
  have e43 := enters 71 Tryz.func71 (by kernel_rfl) rfl
  have HC := Aside0.mk hr0
  clear hr0
  have HB := Aside0.mk (Below.refl w.heap.size w)
  obtain ⟨X, hX⟩ : ∃ X, X = (firstF (deniesP a1 a2) l0).getD z27 := ⟨_, rfl⟩
  obtain ⟨is, his⟩ : ∃ is, is = (firstF (deniesP a1 a2) l0).isSome := ⟨_, rfl⟩
  rw [← hX, ← his] at hh
  have HX := Aside0.mk hX
  have HI := Aside0.mk his
  clear hX his
  go_enter Tryz.func22, Tryz.ntmps22
  go_upto_region 2 with (first | ((with_reducible refine gate_dst (N := 4) rfl ?_); refine box_event ?hg (N := 4) ?hd (cs := #[.int .i64 a1]) (t := 3) ?hr ?_; (case hd => rfl); (case hg => rfl); (case hr => first | (go_simp; done) | (go_simp; rfl)); intro g4 hg w6 hbox hb; have BM4 := Aside0.mk hbox; have n1_ := Aside0.mk (below_step HB.out hb); have n2_ := Aside0.mk (Kd.C_below HC.out hb); clear HB HC; have HB := n1_; have HC := n2_; clear n1_ n2_ hb hbox hg) | ((with_reducible refine gate_dst (N := 5) rfl ?_); refine box_event ?hg (N := 5) ?hd (cs := #[.int .u32 a2]) (t := 23) ?hr ?_; (case hd => rfl); (case hg => rfl); (case hr => first | (go_simp; done) | (go_simp; rfl)); intro g5 hg w7 hbox hb; have BM5 := Aside0.mk hbox; have n1_ := Aside0.mk (below_step HB.out hb); have n2_ := Aside0.mk (Kd.C_below HC.out hb); have n3_ := Aside0.mk (blk_below BM4.out hb); clear HB HC BM4; have HB := n1_; have HC := n2_; have BM4 := n3_; clear n1_ n2_ n3_ hb hbox hg; have HP := Aside0.mk (denies1_asked w7 g4 g5 a1 a2 ((blk_cell BM4.out 0).trans rfl) ((blk_cell BM5.out 0).trans rfl))) | (go_at_call 67; refine (first_calls w7 71 _ (deniesP a1 a2) e43 HP.out A0 c0 l0 HC.out hc0 hsz).mono ?_; rintro e w8 ⟨rfl, hb8⟩; rw [← HX.out, ← HI.out]; have HB8 := Aside0.mk (below_step HB.out hb8); clear hb8; unfold rv))
  cases is
  · go_wp2
    go_ret
    exact ⟨by rw [← hh.out]; rfl, by repeat (first | exact HB8.out | apply below_alloc)⟩
  · by_cases h3 : X.f3 = 3
    · have e1 : (X.f3 == 3) = true := by simp [h3]
      have e2 : decide (X.f3 = 3) = true := decide_eq_true h3
      go_wp2
      go_ret
      exact ⟨by rw [← hh.out, e2]; simp [h3], by repeat (first | exact HB8.out | apply below_alloc)⟩
    · have e1 : (X.f3 == 3) = false := by simp [h3]
      have e2 : decide (X.f3 = 3) = false := decide_eq_false h3
      have e3 : (X.f3 = 3) = False := eq_false h3
      go_wp2
      go_ret
      exact ⟨by rw [← hh.out, e2]; simp [h3], by repeat (first | exact HB8.out | apply below_alloc)⟩
end Go.Proofs.YtfjamikpahmfhaaGreatDoor.P
end
