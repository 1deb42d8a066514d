/- slices.Clone and slices.MinFunc over rules, by rule.ahead. -/
import Derived.Test.YtfjamikpahmfhaaGreatDoorXRuleFun
import Derived.Test.YtfjamikpahmfhaaGreatDoorPRuleAhead
namespace Go.Proofs.YtfjamikpahmfhaaGreatDoor.P
open Go.RowKit Go.Proofs.YtfjamikpahmfhaaGreatDoorW.PrintWords Go.Proofs.YtfjamikpahmfhaaGreatDoorW.PrintLast Go.Proofs.YtfjamikpahmfhaaGreatDoorW.PrintMore
set_option linter.unusedVariables false
set_option linter.unusedSimpArgs false

section
variable {P : Program} {ops : Array Oper} {rest : List Oper} {o : Oper} {a : Act} {Q : Exit → Act → World → Prop}
/-- A store of a whole block. -/
theorem store_block {W : World} (hN : o.dst = none) (hgd : o.guard = none) (t : TypeId) (p x : Operand) (ho : o.op = .store t p x) {g : Nat} {te : TypeId} {cur : Array Value} (u : Value) (seg : List Value) (haddr : a.eval p = .pointer (some ⟨g, 0, none⟩)) (hx : a.eval x = u) (hu : u.cells.toList = seg)
    (ht : (P.info? t).map (·.size) = some seg.length) (h1 : ∀ q ∈ seg, q.oneCell' = true) (hh : W.heap[g]? = some (.cells cur te (0, 0))) (hsz : cur.size = seg.length)
    (h : ∀ w1, w1.heap[g]? = some (.cells seg.toArray te (0, 0)) → W.grownBy w1 (some g) → wpList P ops Q rest a w1) : wpList P ops Q (o :: rest) a W := by
  obtain ⟨cur', h3, h4, h5⟩ := setCells_row seg 0 W cur hh (by omega)
  obtain ⟨s1, s2, s3, s4⟩ := setCells_same g seg 0 W
  have hg : W.grownBy (W.setCells g 0 seg) (some g) := ⟨s1, s2, s3, by rw [s4]; exact Nat.le_refl _, fun k _ hk => setCells_far seg 0 k (fun he => hk (by rw [he]))⟩
  have hc : cur' = seg.toArray := by
    apply Array.ext'
    rw [h5]
    simp [List.drop_eq_nil_of_le, hsz]
  subst hc
  refine wpList_plain hgd fun K hK => ?_
  have hrun : (Instr.storeAt t (.pointer (some ⟨g, 0, none⟩)) u).run P W = .ok () (W.setCells g 0 seg) := run_store_run t u seg hh hu ht (by omega) h1
  unfold Oper.wp execOp
  simp only [ho, haddr, hx, Sem.run_bind, Sem.run_pure, Result.andThen_ok, hrun]
  show K (a.put o.dst undef) _
  rw [hN]
  exact hK a _ (h _ h3 hg)
/-- A call of a function value, in a region that draws. -/
theorem goesV_ {oi : Oper} {N : Option Tmp} {w : World} {K : Act → World → Prop} {f : FuncId} {fn : Func} {x : Operand} {aa : Array Operand} {ts : Array TypeId} (hf : P.funcs[f]? = some fn) (hname : (fn.name == "runtime.NumGoroutine") = false) (hb : fn.body.isSome = true) (args lb : Array Value)
    (hw : Region.wanted oi (yielded ops a.tmps) = true) (hN : oi.dst = N) (hop : oi.op = .call { callee := .value x, args := aa, argTypes := ts }) (hx : a.eval x = .func (.func f) #[] lb) (hargs : aa.map a.eval = args)
    (h : Calls P f (args ++ lb) w fun e w' => ∃ v, e = .returned v ∧ K (a.put N v) w') : if Region.wanted oi (yielded ops a.tmps) = true then Oper.wp P oi a w K Q else K (a.put N undef) w := by
  refine call_ f (args ++ lb) hw hN ?_ h
  have he := enters_ hf hname hb (args ++ lb) w
  unfold execOp
  simp [hop, resolve, Deferred.ofValue, invoke, hx, hargs, he]
end

def aheadI (x y : Rl) : Int := if y.f2 < x.f2 then -1 else if x.f2 < y.f2 then 1 else if x.f0 < y.f0 then -1 else if y.f0 < x.f0 then 1 else 0
theorem compare_f (a b : Int) : cmp_Compare_int.f a b = some (if a < b then -1 else if b < a then 1 else 0) := by
  unfold cmp_Compare_int.f cmp_isNaN_int.f
  simp
  split
  · rfl
  · split <;> rfl
theorem or_f (a b : Int) : cmp_Or_int.f 3 [a, b] = some (if a = 0 then b else a) := by
  have r0 : rd [a, b] 0 = a := rfl
  have r1 : rd [a, b] 1 = b := rfl
  have w1 : wrap64 (0 + 1) = 1 := by kernel_rfl
  have w2 : wrap64 (1 + 1) = 2 := by kernel_rfl
  have hl : (([a, b] : List Int).length : Int) = 2 := rfl
  unfold cmp_Or_int.f
  simp only [cmp_Or_int.l0, hl, r0, w1, r1, w2]
  by_cases h : a = 0
  · subst h
    by_cases h2 : b = 0
    · subst h2; simp
    · simp [h2]
  · simp [h]
theorem ahead_f (x y : Rl) : rule_ahead.f 3 x.f0 x.f1 x.f2 x.f3 x.f4.f0 x.f4.f1 x.f5 y.f0 y.f1 y.f2 y.f3 y.f4.f0 y.f4.f1 y.f5 = some (aheadI x y) := by
  unfold rule_ahead.f
  rw [compare_f]
  simp only [Option.bind_some]
  rw [compare_f]
  simp only [Option.bind_some]
  rw [or_f]
  simp only [Option.bind_some]
  unfold aheadI
  by_cases h1 : y.f2 < x.f2
  · simp [h1]
  · by_cases h2 : x.f2 < y.f2
    · simp [h1, h2]
    · simp [h1, h2]
theorem ahead_calls (x y : Rl) (w : World) : Calls Tryz.prog 121 #[rv x, rv y] w fun e w' => e = .returned (.int .i64 (aheadI x y)) ∧ Below w.heap.size w w' :=
  rule_ahead.calls 3 _ _ _ _ _ _ _ _ _ _ _ _ _ _ _ w (ahead_f x y)

set_option maxHeartbeats 1000000 in
set_option maxRecDepth 100000 in
theorem clone_calls (W : World) (A : Option Addr) (c : Nat) (l : List Rl) (hC : Kd.C k27 W A l.length l) (hc : l.length ≤ c) (hsz : l.length * 48 ≤ 140737488351232) :
    Calls Tryz.prog 75 #[.slice A l.length c] W fun e w' => ∃ v, e = .returned v ∧ Kd.R k27 27 w' W.heap.size (fun _ => True) v l ∧ Below W.heap.size W w' := by
  have huS := Tryz.underlying35
  rcases A with _ | ad
  · have hl : l = [] := by
      rcases Nat.eq_zero_or_pos l.length with h0 | h0
      · exact List.eq_nil_of_length_eq_zero h0
      · obtain ⟨ad, h, _⟩ := hC.2.2 h0
        cases h
    subst hl
    go_enter Tryz.func75, Tryz.ntmps75
    have hnil : ∀ w, (binOp BinOp.eql 35 (.slice none 0 c) (.slice none 0 0)).run Tryz.prog w = .ok (.bool true) w := fun _ => by kernel_rfl
    go_wp2
    go_ret
    exact ⟨_, rfl, Kd.R_nil _ _ _ _ _, Below.refl _ _⟩
  · have HC := Aside0.mk hC
    clear hC
    have HO : Aside0 (Kd.R k27 27 (W.alloc (.cells #[] 27)) W.heap.size (fun _ => True) (.slice (some ⟨W.heap.size, 0, none⟩) 0 0) []) := ⟨fun _ _ => trivial, [], ⟨rfl, .inr ⟨W.heap.size, 0, #[], rfl, Nat.le_refl _, blk_new W _, Nat.le_refl _, Nat.zero_le _, rfl, rfl⟩⟩, Reps.none _ _⟩
    have HB := Aside0.mk (below_alloc (Below.refl W.heap.size W) (.cells #[] 27))
    have hnil : ∀ w, (binOp BinOp.eql 35 (.slice (some ad) l.length c) (.slice none 0 0)).run Tryz.prog w = .ok (.bool false) w := fun _ => by kernel_rfl
    go_enter Tryz.func75, Tryz.ntmps75
    go_wp2_with (at_builtin; refine Kd.R_append_rows k27 (w0 := W) W.heap.size rfl (.tmp 5) (.tmp 6) 35 27 (rv z27) 48 rfl Tryz.underlying35 info27 rfl (by decide) (by omega) (.slice (some ⟨W.heap.size, 0, none⟩) 0 0) [] l _ _ _ (fun _ => True) (fun _ => False) rfl rfl HO.out (Kd.C_alloc HC.out _) (fun _ _ h => h) (fun _ h => h.elim) (fun _ _ => trivial) HB.out HB.out.size (by simp only [List.length_nil]; omega) ?_; intro v2 w2 ho hb hg hat)
    go_ret
    exact ⟨_, rfl, ho, hb⟩

/-- The first of the least, as slices.MinFunc looks for it. -/
def minR (m : Rl) : List Rl → Rl
  | [] => m
  | x :: r => minR (if aheadI x m < 0 then x else m) r
theorem minR_snoc (m : Rl) (l : List Rl) (x : Rl) : minR m (l ++ [x]) = if aheadI x (minR m l) < 0 then x else minR m l := by
  induction l generalizing m with
  | nil => rfl
  | cons y r ih => exact ih _

theorem results_c1 {P : Program} {fn : Func} {p : Tmp} {ty : TypeId} (h : fn.results = #[.cell p ty]) (tmps : Array Value) (w : World) (g : Nat) (t : TypeId) (cs : Array Value) (fr : Nat × Nat) (d : TypeDesc)
    (hp : tmps.getD p undef = .pointer (some ⟨g, 0, none⟩)) (hg : w.heap[g]? = some (.cells cs t fr))
    (hu : P.underlying ty = some d) (hd : (match d with | .struct _ | .array _ _ => true | _ => false) = true) (hi : (P.info? ty).map (·.size) = some cs.size) :
    (results fn tmps).run P w = .ok (.agg cs) w := by
  have hp' : tmps[p]?.getD undef = .pointer (some ⟨g, 0, none⟩) := by simpa using hp
  simp [results, h, hp', asAddr, run_loadVar_row w g t ty cs fr d hg hu hd hi]
theorem addr_add_block (a : Addr) (k : Nat) : (a.add k).block = a.block := by
  unfold Addr.add
  split <;> rfl
/-- A row that is only read, where another block is written. -/
theorem C_grown7 {W w1 : World} {ad : Addr} {n g : Nat} {l : List Rl} (h : Kd.C k27 W (some ad) n l) (hg : W.grownBy w1 (some g)) (hne : ad.block ≠ g) : Kd.C k27 w1 (some ad) n l := by
  refine ⟨h.1, h.2.1, fun h0 => ?_⟩
  obtain ⟨ad', e, hc⟩ := h.2.2 h0
  cases e
  refine ⟨ad, rfl, fun j p hj => ?_⟩
  obtain ⟨c, hl, hk, hcs⟩ := hc j p hj
  refine ⟨c, hl, hk, fun i u hi => ?_⟩
  have h1 := hcs i u hi
  have hlt := World.block_lt_of_cell? W _ h1
  rw [addr_add_block] at hlt
  have hb := hg.block ad.block hlt (fun he => hne (by injection he))
  rw [← h1]
  unfold World.cell?
  rw [addr_add_block, hb]
theorem rcells_one (x : Rl) : ∀ q ∈ rcells x, q.oneCell' = true := by
  intro q hq
  simp only [rcells, List.mem_cons, List.not_mem_nil, or_false] at hq
  rcases hq with rfl | rfl | rfl | rfl | rfl | rfl | rfl <;> rfl
def minFunc.T7 : Bool × List (List Nat × List Nat) := (true, [([], []), ([], []), ([], []), ([1, 2], [1, 2]), ([3], [3]), ([], []), ([0, 4, 5], [0, 4, 5]), ([6], [6])])
def minFunc.B7 : List Nat := [0, 0, 0, 6, 14, 0, 63, 127]
theorem minFunc.tab7 : rtab .any (opsOf Tryz.f120 7) = minFunc.T7 := by kernel_rfl
theorem minFunc.bits7 : waitsOk minFunc.T7.2 minFunc.B7 = true := by kernel_rfl
set_option maxHeartbeats 4000000 in
set_option maxRecDepth 100000 in
theorem minFunc_calls (W : World) (A : Option Addr) (c : Nat) (x0 : Rl) (l : List Rl) (hC : Kd.C k27 W A (x0 :: l).length (x0 :: l)) (hc : (x0 :: l).length ≤ c) (hbig : (x0 :: l).length ≤ 9223372036854775807) :
    Calls Tryz.prog 120 #[.slice A (x0 :: l).length c, .func (.func 121) #[] #[]] W fun e w' => e = .returned (rv (minR x0 l)) ∧ Below W.heap.size W w' := by
  have hu45 := Tryz.underlying27
  obtain ⟨L, hL⟩ : ∃ L, L = x0 :: l := ⟨_, rfl⟩
  have hn : 0 < L.length := by rw [hL]; exact Nat.succ_pos _
  rw [← hL] at hC hc hbig ⊢
  have HL := Aside0.mk hL
  clear hL
  have hn1 : ¬ (L.length : Int) < 1 := by omega
  have hn2 : decide ((L.length : Int) < 1) = false := decide_eq_false hn1
  have hn3 : (0 : Int) < (L.length : Int) := by omega
  have hn4 : decide ((0 : Int) < (L.length : Int)) = true := decide_eq_true hn3
  obtain ⟨ad, e0, h0, h1, h2, h3, h4, h5, h6⟩ := at_T27 hC 0 (by omega) hn3
  cases e0
  have hx0 : rd_T27 L 0 = x0 := by rw [HL.out]; rfl
  rw [hx0] at h0 h1 h2 h3 h4 h5 h6
  clear hx0
  simp only [Int.toNat_zero, Nat.zero_mul, Addr.add_zero'] at h0 h1 h2 h3 h4 h5 h6
  have HC := Aside0.mk hC
  clear hC
  have HB := Aside0.mk (Below.refl W.heap.size W)
  go_enter Tryz.func120, Tryz.ntmps120
  go_upto_region 4 with (first | ((with_reducible refine gate_dst (N := 4) rfl ?_); refine box_event ?hg (N := 4) ?hd (cs := #[.int .i64 0, .int .i64 0, .int .i64 0, .int .i64 0, .int .u32 0, .int .u32 0, .int .i64 0]) (t := 27) ?hr ?_; (case hd => rfl); (case hg => rfl); (case hr => first | (go_simp; done) | (go_simp; rfl)); intro g4 hg w6 hbox hb; have BM4 := Aside0.mk hbox; have n1_ := Aside0.mk (below_step HB.out hb); have GE4 := Aside0.mk (show W.heap.size ≤ g4 by rw [hg]; exact below_size HB.out); have n2_ := Aside0.mk (Kd.C_below HC.out hb); replace h0 := (hb.cell (World.block_lt_of_cell? _ _ h0)).trans h0; replace h1 := (hb.cell (World.block_lt_of_cell? _ _ h1)).trans h1; replace h2 := (hb.cell (World.block_lt_of_cell? _ _ h2)).trans h2; replace h3 := (hb.cell (World.block_lt_of_cell? _ _ h3)).trans h3; replace h4 := (hb.cell (World.block_lt_of_cell? _ _ h4)).trans h4; replace h5 := (hb.cell (World.block_lt_of_cell? _ _ h5)).trans h5; replace h6 := (hb.cell (World.block_lt_of_cell? _ _ h6)).trans h6; clear HB HC; have HB := n1_; have HC := n2_; clear n1_ n2_ hb hbox hg) | ((with_reducible refine gate_dst (N := 5) rfl ?_); refine box_event ?hg (N := 5) ?hd (cs := #[.int .i64 0, .int .i64 0, .int .i64 0, .int .i64 0, .int .u32 0, .int .u32 0, .int .i64 0]) (t := 27) ?hr ?_; (case hd => rfl); (case hg => rfl); (case hr => first | (go_simp; done) | (go_simp; rfl)); intro g5 hg w6 hbox hb; have BM5 := Aside0.mk hbox; have n1_ := Aside0.mk (below_step HB.out hb); have GE5 := Aside0.mk (show W.heap.size ≤ g5 by rw [hg]; exact below_size HB.out); have n2_ := Aside0.mk (Kd.C_below HC.out hb); have NE := Aside0.mk (show some g4 ≠ some g5 by have := blk_lt BM4.out; intro he; injection he with he; omega); have CG := Aside0.mk (show ad.block ≠ g5 by have := World.block_lt_of_cell? _ _ h0; omega); have n3_ := Aside0.mk (blk_below BM4.out hb); clear BM4; have BM4 := n3_; clear n3_; clear HB HC; have HB := n1_; have HC := n2_; clear n1_ n2_ hb hbox hg) | ((with_reducible refine gate_ (.store 27 (.tmp 5) (.tmp 13)) rfl ?_); refine store_block rfl rfl 27 (.tmp 5) (.tmp 13) rfl (rv x0) (rcells x0) rfl rfl rfl (by kernel_rfl) (rcells_one _) BM5.out rfl ?_; intro w8 hm hgr; have n1_ := Aside0.mk (pw_below_grown HB.out (some g5) HB.out.size hgr (fun k hk => by injection hk with hk; subst hk; exact GE5.out)); have n0_ := Aside0.mk (C_grown7 HC.out hgr CG.out); have n2_ := Aside0.mk (blk_grown BM4.out hgr NE.out); have n3_ := Aside0.mk hm; clear HB HC BM4 BM5 hm hgr; have HB := n1_; have HC := n0_; have BM4 := n2_; have BM := n3_; clear n0_ n1_ n2_ n3_))
  clear h0 h1 h2 h3 h4 h5 h6
  go_wp2_with fail
  go_loopg [6] L.length (fun gg s6 wr => ∃ i : Nat, 1 ≤ i ∧ i ≤ L.length ∧ L.length - i ≤ gg ∧ s6 = .int .i64 i ∧ Aside0 (wr.heap[g5]? = some (.cells (rcells (minR x0 (l.take (i - 1)))).toArray 27 (0, 0))) ∧ Aside0 (wr.heap[g4]? = some (.cells #[.int .i64 0, .int .i64 0, .int .i64 0, .int .i64 0, .int .u32 0, .int .u32 0, .int .i64 0] 27 (0, 0))) ∧ Aside0 (Kd.C k27 wr (some ad) L.length L) ∧ Aside0 (Below W.heap.size W wr))
  case atStart => exact ⟨1, Nat.le_refl _, hn, by omega, by go_num, ⟨BM.out⟩, BM4, HC, HB⟩
  case round =>
    clear BM BM4 HC HB
    obtain ⟨i, hi1, hi2, hg, rfl, BM, BM4, HC, HB⟩ := hrel
    by_cases hlt : i < L.length
    · have hltz : (i : Int) < (L.length : Int) := by omega
      have hltd : decide ((i : Int) < (L.length : Int)) = true := decide_eq_true hltz
      have hge : (0 : Int) ≤ (i : Int) := by omega
      have hged : decide ((0 : Int) ≤ (i : Int)) = true := decide_eq_true hge
      obtain ⟨m, hm⟩ : ∃ m, m = minR x0 (l.take (i - 1)) := ⟨_, rfl⟩
      rw [← hm] at BM
      have HM := Aside0.mk hm
      clear hm
      obtain ⟨x, hx⟩ : ∃ x, x = rd_T27 L (i : Int) := ⟨_, rfl⟩
      have HX := Aside0.mk hx
      clear hx
      have hnext : Aside0 (minR x0 (l.take (i + 1 - 1)) = if aheadI x m < 0 then x else m) := by
        constructor
        have hil : i - 1 < l.length := by have := HL.out; rw [this] at hlt; simp only [List.length_cons] at hlt; omega
        have e1 : l.take (i + 1 - 1) = l.take (i - 1) ++ [l[i - 1]] := by
          rw [show i + 1 - 1 = (i - 1) + 1 by omega, List.take_succ_eq_append_getElem hil]
        have e2 : x = l[i - 1] := by
          rw [HX.out, rd_getElem L i hlt]
          simp only [HL.out]
          rw [List.getElem_cons, dif_neg (by omega)]
        rw [e1, minR_snoc, ← HM.out, ← e2]
      go_upto_region 7 with fail
      obtain ⟨ad', e0, h0, h1, h2, h3, h4, h5, h6⟩ := at_T27 HC.out (i : Int) hge hltz
      cases e0
      rw [← HX.out] at h0 h1 h2 h3 h4 h5 h6
      simp only [Int.toNat_natCast] at h0 h1 h2 h3 h4 h5 h6
      have n0_ := Aside0.mk (blk_drew BM.out)
      have n1_ := Aside0.mk (below_drew1 HB.out)
      have n2_ := Aside0.mk (Kd.C_below HC.out (below_drew1 (Below.refl _ _)))
      have n3_ := Aside0.mk (blk_drew BM4.out)
      clear BM HB HC BM4
      have BM := n0_
      have HB := n1_
      have HC := n2_
      have BM4 := n3_
      clear n0_ n1_ n2_ n3_
      refine start_ (n := 8) (S := fun w' => w'.cell? (ad.add (i * 7)) = some (.int .i64 x.f0) ∧ w'.cell? ⟨(ad.add (i * 7)).block, (ad.add (i * 7)).off + 1, none⟩ = some (.int .i64 x.f1) ∧ w'.cell? ⟨(ad.add (i * 7)).block, (ad.add (i * 7)).off + 2, none⟩ = some (.int .i64 x.f2) ∧ w'.cell? ⟨(ad.add (i * 7)).block, (ad.add (i * 7)).off + 3, none⟩ = some (.int .i64 x.f3) ∧ w'.cell? ⟨(ad.add (i * 7)).block, (ad.add (i * 7)).off + 4, none⟩ = some (.int .u32 x.f4.f0) ∧ w'.cell? ⟨(ad.add (i * 7)).block, (ad.add (i * 7)).off + 5, none⟩ = some (.int .u32 x.f4.f1) ∧ w'.cell? ⟨(ad.add (i * 7)).block, (ad.add (i * 7)).off + 6, none⟩ = some (.int .i64 x.f5) ∧ w'.cell? ⟨g5, 0, none⟩ = some (.int .i64 m.f0) ∧ w'.cell? ⟨g5, 1, none⟩ = some (.int .i64 m.f1) ∧ w'.cell? ⟨g5, 2, none⟩ = some (.int .i64 m.f2) ∧ w'.cell? ⟨g5, 3, none⟩ = some (.int .i64 m.f3) ∧ w'.cell? ⟨g5, 4, none⟩ = some (.int .u32 m.f4.f0) ∧ w'.cell? ⟨g5, 5, none⟩ = some (.int .u32 m.f4.f1) ∧ w'.cell? ⟨g5, 6, none⟩ = some (.int .i64 m.f5)) (ds := [6]) #[false, false, false, false, false, false, false, false] (by kernel_rfl) rfl rfl ⟨h0, h1, h2, h3, h4, h5, h6, (blk_cell BM.out 0).trans rfl, (blk_cell BM.out 1).trans rfl, (blk_cell BM.out 2).trans rfl, (blk_cell BM.out 3).trans rfl, (blk_cell BM.out 4).trans rfl, (blk_cell BM.out 5).trans rfl, (blk_cell BM.out 6).trans rfl⟩ (fun hHeld => ?_)
      refine with_tabW minFunc.tab7 minFunc.bits7 (fun HT_ HW_ => ?_)
      generalize World.drew _ = w7 at BM HB HC BM4 hHeld ⊢
      clear h0 h1 h2 h3 h4 h5 h6
      refine pure_ (i := 0) (N := some 20) (v := ?_) (a' := ?_) #[true, false, false, false, false, false, false, false] rfl rfl (any_of HT_.out (by kernel_rfl)) (fun _ _ _ h => h) (Or.inl ⟨by rfl, ?_⟩) ?_ ?_
      rotate_left
      · intro w'
        go_simp
        with_reducible rfl
      rotate_left
      · simp only [Act.put, List.setIfInBounds_toArray, List.set_cons_zero, List.set_cons_succ, i64_w, i32_w]
        rfl
      refine pure_ (i := 1) (N := some 21) (v := ?_) (a' := ?_) #[true, true, false, false, false, false, false, false] rfl rfl (any_of HT_.out (by kernel_rfl)) (fun _ _ _ h => h) (Or.inl ⟨by rfl, ?_⟩) ?_ ?_
      rotate_left
      · intro w'
        go_simp
        with_reducible rfl
      rotate_left
      · simp only [Act.put, List.setIfInBounds_toArray, List.set_cons_zero, List.set_cons_succ, i64_w, i32_w]
        rfl
      refine pure_ (i := 2) (N := some 22) (v := ?_) (a' := ?_) #[true, true, true, false, false, false, false, false] rfl rfl (any_of HT_.out (by kernel_rfl)) (fun _ _ _ h => h) (Or.inl ⟨by rfl, ?_⟩) ?_ ?_
      rotate_left
      · intro w'
        go_simp
        with_reducible rfl
      rotate_left
      · simp only [Act.put, List.setIfInBounds_toArray, List.set_cons_zero, List.set_cons_succ, i64_w, i32_w]
        rfl
      refine pure_ (i := 3) (N := some 23) (v := ?_) (a' := ?_) #[true, true, true, true, false, false, false, false] rfl rfl (any_of HT_.out (by kernel_rfl)) (fun _ _ _ h => h) (Or.inl ⟨by rfl, ?_⟩) ?_ ?_
      rotate_left
      · intro w'
        go_simp
        with_reducible rfl
      rotate_left
      · simp only [Act.put, List.setIfInBounds_toArray, List.set_cons_zero, List.set_cons_succ, i64_w, i32_w]
        rfl
      refine take_ (i := 4) (N := some 24) (v := ?_) (a' := ?_) #[true, true, true, true, true, false, false, false] rfl rfl (take_ofW HT_.out HW_.out (by kernel_rfl)) (fun _ _ _ h => h) (Or.inl ⟨by rfl, ?_⟩) hHeld ?_ ?_
      rotate_left
      · rintro w' ⟨s0, s1, s2, s3, s4, s5, s6, s7, s8, s9, s10, s11, s12, s13⟩
        go_simp
        with_reducible rfl
      rotate_left
      · simp only [Act.put, List.setIfInBounds_toArray, List.set_cons_zero, List.set_cons_succ, i64_w, i32_w]
        rfl
      refine take_ (i := 5) (N := some 25) (v := ?_) (a' := ?_) #[true, true, true, true, true, true, false, false] rfl rfl (take_ofW HT_.out HW_.out (by kernel_rfl)) (fun _ _ _ h => h) (Or.inl ⟨by rfl, ?_⟩) hHeld ?_ ?_
      rotate_left
      · rintro w' ⟨s0, s1, s2, s3, s4, s5, s6, s7, s8, s9, s10, s11, s12, s13⟩
        go_simp
        with_reducible rfl
      rotate_left
      · simp only [Act.put, List.setIfInBounds_toArray, List.set_cons_zero, List.set_cons_succ, i64_w, i32_w]
        rfl
      refine last_ (i := 6) (N := some 26) #[true, true, true, true, true, true, true, false] rfl rfl (one_of HT_.out (by kernel_rfl)) (by decide) (fun K hK => ?_)
      refine goesV_ Tryz.func121 (by kernel_rfl) rfl #[rv x, rv m] #[] (by rfl) rfl rfl (by rfl) (by simp only [List.map_toArray, List.map_cons, List.map_nil]; rfl) ?_
      show Calls Tryz.prog 121 #[rv x, rv m] _ _
      with_reducible refine (ahead_calls x m _).mono ?_
      rintro e w3 ⟨rfl, hb⟩
      refine ⟨_, rfl, ?_⟩
      have n0_ := Aside0.mk (blk_below BM.out hb)
      have n1_ := Aside0.mk (below_step HB.out hb)
      have n2_ := Aside0.mk (Kd.C_below HC.out hb)
      have n3_ := Aside0.mk (blk_below BM4.out hb)
      clear BM HB HC BM4 hb
      have BM := n0_
      have HB := n1_
      have HC := n2_
      have BM4 := n3_
      clear n0_ n1_ n2_ n3_
      refine hK.out _ _ ?_
      clear hK K
      refine norm_ (a' := ?_) ?_ ?_
      rotate_left
      · show Act.put _ (some 26) _ = _
        simp only [Act.put, List.setIfInBounds_toArray, List.set_cons_zero, List.set_cons_succ, i64_w, i32_w]
        rfl
      refine pure_ (i := 7) (N := some 27) (v := ?_) (a' := ?_) #[true, true, true, true, true, true, true, true] rfl rfl (any_of HT_.out (by kernel_rfl)) (fun _ _ _ h => h) (Or.inl ⟨by rfl, ?_⟩) ?_ ?_
      rotate_left
      · intro w'
        go_simp
        with_reducible rfl
      rotate_left
      · simp only [Act.put, List.setIfInBounds_toArray, List.set_cons_zero, List.set_cons_succ, i64_w, i32_w]
        rfl
      refine done_ (done_of HT_.out (by kernel_rfl)) ?_
      clear HW_ HT_ hHeld
      by_cases hA : aheadI x m < 0
      · have hA1 : decide (aheadI x m < 0) = true := decide_eq_true hA
        obtain ⟨ad', e0, h0, h1, h2, h3, h4, h5, h6⟩ := at_T27 HC.out (i : Int) hge hltz
        cases e0
        rw [← HX.out] at h0 h1 h2 h3 h4 h5 h6
        simp only [Int.toNat_natCast] at h0 h1 h2 h3 h4 h5 h6
        go_wp2_with ((with_reducible refine gate_ (.store 27 (.tmp 5) (.tmp 31)) rfl ?_); refine store_block rfl rfl 27 (.tmp 5) (.tmp 31) rfl (rv x) (rcells x) rfl rfl rfl (by kernel_rfl) (rcells_one _) BM.out rfl ?_; intro w8 hm hgr)
        go_roundg (L.length - (i + 1))
        case measure => omega
        case rel =>
          refine ⟨i + 1, by omega, by omega, by omega, by go_num, ⟨?_⟩, ⟨blk_grown BM4.out hgr NE.out⟩, ⟨C_grown7 HC.out hgr CG.out⟩, ⟨pw_below_grown HB.out (some g5) HB.out.size hgr (fun k hk => by injection hk with hk; subst hk; exact GE5.out)⟩⟩
          rw [hnext.out, if_pos hA]
          exact hm
      · have hA1 : decide (aheadI x m < 0) = false := decide_eq_false hA
        go_wp2
        go_roundg (L.length - (i + 1))
        case measure => omega
        case rel =>
          refine ⟨i + 1, by omega, by omega, by omega, by go_num, ⟨?_⟩, BM4, HC, HB⟩
          rw [hnext.out, if_neg (by omega)]
          exact BM.out
    · obtain rfl : i = L.length := by omega
      have hltz : ¬ (L.length : Int) < (L.length : Int) := by omega
      have hll : l.take (L.length - 1) = l := by
        rw [HL.out]
        exact List.take_length
      rw [hll] at BM
      clear hll
      obtain ⟨m, hm⟩ : ∃ m, m = minR x0 l := ⟨_, rfl⟩
      rw [← hm] at BM
      have HM := Aside0.mk hm
      clear hm
      have c0 := (blk_cell BM.out 0).trans (show _ = some (Value.int .i64 m.f0) from rfl)
      have c1 := (blk_cell BM.out 1).trans (show _ = some (Value.int .i64 m.f1) from rfl)
      have c2 := (blk_cell BM.out 2).trans (show _ = some (Value.int .i64 m.f2) from rfl)
      have c3 := (blk_cell BM.out 3).trans (show _ = some (Value.int .i64 m.f3) from rfl)
      have c4 := (blk_cell BM.out 4).trans (show _ = some (Value.int .u32 m.f4.f0) from rfl)
      have c5 := (blk_cell BM.out 5).trans (show _ = some (Value.int .u32 m.f4.f1) from rfl)
      have c6 := (blk_cell BM.out 6).trans (show _ = some (Value.int .i64 m.f5) from rfl)
      go_wp2_with ((with_reducible refine gate_ (.store 27 (.tmp 4) (.tmp 32)) rfl ?_); refine store_block rfl rfl 27 (.tmp 4) (.tmp 32) rfl (rv m) (rcells m) rfl rfl rfl (by kernel_rfl) (rcells_one _) BM4.out rfl ?_; intro w8 hm hgr; clear c0 c1 c2 c3 c4 c5 c6)
      refine bodyPost_ret (results_c1 rfl _ _ g4 27 (rcells m).toArray (0, 0) _ rfl hm Tryz.underlying27 rfl (by kernel_rfl)) rfl ?_
      refine ⟨?_, pw_below_grown HB.out (some g4) HB.out.size hgr (fun k hk => by injection hk with hk; subst hk; exact GE4.out)⟩
      rw [← HM.out]
      rfl
end Go.Proofs.YtfjamikpahmfhaaGreatDoor.P
