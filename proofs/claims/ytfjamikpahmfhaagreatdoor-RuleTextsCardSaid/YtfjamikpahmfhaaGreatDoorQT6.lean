/- Texts of the session's and of the print's, put together by a program. -/
import Derived.Test.YtfjamikpahmfhaaGreatDoorQT5
set_option linter.unusedVariables false
set_option linter.unusedSimpArgs false
section
open List renaming map_toArray → mA_, map_cons → mC_, map_nil → mN_, length_drop → lD_, length_take → lT_, setIfInBounds_toArray → sI_, set_cons_zero → z0_, set_cons_succ → z1_
namespace Go.Proofs.YtfjamikpahmfhaaGreatDoor.P
open Go.RowKit Go.Proofs.YtfjamikpahmfhaaGreatDoorW.PrintWords Go.Proofs.YtfjamikpahmfhaaGreatDoorW.PrintLast Go.Proofs.YtfjamikpahmfhaaGreatDoorW.PrintMore
attribute [local go_sem] max2_int min2_int max_two min_two max_three min_three max_four min_four
set_option linter.unusedVariables false
set_option linter.unusedSimpArgs false
def waystoneref02_ParseRange.f (k : Nat) (a0 : ByteArray) : Option (Int × Int × Int) := (waystoneref02_Parse.f k a0).bind fun bt245 => (if bt245.2.2 = 0 then ((waystoneref02_Range.f bt245.1 bt245.2.1).bind fun bt249 => (some (bt249.1, bt249.2.1, bt249.2.2))) else ((waystoneref02_parts.f k a0 45).bind fun t252 => (if (t252.length : Int) = 2 then (if 0 < (t252.length : Int) then ((waystoneref02_ParseAddr.f k (rdOf ByteArray.empty t252 0)).bind fun bt256 => (if 1 < (t252.length : Int) then ((waystoneref02_ParseAddr.f k (rdOf ByteArray.empty t252 1)).bind fun bt259 => (if bt256.2 = 0 then (if bt259.2 = 0 then (if bt256.1 > bt259.1 then (some (0, 0, 21)) else (some (bt256.1, bt259.1, 0))) else (some (0, 0, 21))) else (some (0, 0, 21)))) else (none))) else (none)) else (some (0, 0, 21)))))
set_option maxHeartbeats 8000000 in
set_option maxRecDepth 100000 in
theorem waystoneref02_ParseRange.calls (k : Nat) (a0 : ByteArray) (r1 : Int) (r2 : Int) (r3 : Int) (w : World) (h : waystoneref02_ParseRange.f k a0 = some (r1, r2, r3)) :
  Calls Tryz.prog 63 #[.string a0] w fun e w' => e = .returned (.tuple #[.agg #[.int .u32 r1, .int .u32 r2], .int .i64 r3]) ∧ Below w.heap.size w w' := by
 have hu25 := Tryz.underlying25
 have hu159 := Tryz.underlying159
 have HB := Aside0.mk (Below.refl w.heap.size w)
 have H : ((waystoneref02_Parse.f k a0).bind fun bt245 => (if bt245.2.2 = 0 then ((waystoneref02_Range.f bt245.1 bt245.2.1).bind fun bt249 => (some (bt249.1, bt249.2.1, bt249.2.2))) else ((waystoneref02_parts.f k a0 45).bind fun t252 => (if (t252.length : Int) = 2 then (if 0 < (t252.length : Int) then ((waystoneref02_ParseAddr.f k (rdOf ByteArray.empty t252 0)).bind fun bt256 => (if 1 < (t252.length : Int) then ((waystoneref02_ParseAddr.f k (rdOf ByteArray.empty t252 1)).bind fun bt259 => (if bt256.2 = 0 then (if bt259.2 = 0 then (if bt256.1 > bt259.1 then (some (0, 0, 21)) else (some (bt256.1, bt259.1, 0))) else (some (0, 0, 21))) else (some (0, 0, 21)))) else (none))) else (none)) else (some (0, 0, 21)))))) = some (r1, r2, r3) := h
 clear h
 replace H := Option.bind_eq_some_iff.mp H
 obtain ⟨⟨t245, t246, t247⟩, A20, H⟩ := H
 try dsimp only at H
 have A2 := Aside0.mk A20
 clear A20
 by_cases c3 : t247 = 0
 ·rw [if_pos c3] at H
  have c3b0 : (t247 == 0) = true := beq_iff_eq.mpr c3
  have c3b1 : (t247 != 0) = false := bne_eq_false_iff_eq.mpr c3
  clear c3
  replace H := Option.bind_eq_some_iff.mp H
  obtain ⟨⟨t249, t250, t251⟩, A40, H⟩ := H
  try dsimp only at H
  have A4 := Aside0.mk A40
  clear A40
  simp only [Option.some.injEq, Prod.mk.injEq] at H
  obtain ⟨rfl, rfl, rfl⟩ := H
  go_enter Tryz.func63, Tryz.ntmps63
  go_wp2_with (first | ((with_reducible refine gate_dst (N := 2) rfl ?_); refine box_event ?hg (N := 2) ?hd (cs := #[.int .u32 0, .int .u32 0]) (t := 25) ?hr ?_; (case hd => rfl); (case hg => rfl); (case hr => first | (go_simp; done) | (go_simp; rfl)); intro gb244 hg w5 hbox hb; have n0_ := Aside0.mk (below_step (gB HB.out) hb); have n1_ := Aside0.mk (hbox); have n2_ := Aside0.mk ((by rw [hg]; exact (below_size (gB HB.out)) : w.heap.size ≤ gb244)); have n3_ := Aside0.mk ((by rw [hg]; exact (below_size (gB HB.out)) : w.heap.size ≤ gb244)); clear HB; have HB := n0_; have BK244 := n1_; have GW244 := n2_; have GE244 := n3_; clear n0_ n1_ n2_ n3_; clear hb hbox hg) | ((with_reducible refine gate_callee (f := 113) rfl ?_); refine goesL_ (some 13) rfl rfl Tryz.func113 (by kernel_rfl) rfl #[.string a0] rfl (by (try simp only [mA_, mC_, mN_]); first|done|rfl|(simp only [lD_, lT_]; rfl)) ?_; (with_reducible refine (waystoneref02_Parse.calls k a0 t245 t246 t247 _ A2.out).mono ?_); rintro e w6 ⟨rfl, hb⟩; refine ⟨_, rfl, ?_⟩; have n0_ := Aside0.mk (blk_below (g := gb244) (o := .cells #[.int .u32 0, .int .u32 0] 25 (0, 0)) (gK BK244.out) hb); have n1_ := Aside0.mk (below_step (by repeat first|(with_reducible first|exact HB.out|apply ba|apply bd|apply b1|refine bs ?_ GE244.out)|exact HB.out) hb); clear BK244; clear HB; have BK244 := n0_; have HB := n1_; clear n0_ n1_; (try clear hb); (try clear hb2); (try clear hk); (try clear hi)) | ((with_reducible refine gate_dst (N := 4) rfl ?_); refine box_event ?hg (N := 4) ?hd (cs := #[.int .u32 0, .int .i64 0]) (t := 159) ?hr ?_; (case hd => rfl); (case hg => rfl); (case hr => first | (go_simp; done) | (go_simp; rfl)); intro gb248 hg w7 hbox hb; have n0_ := Aside0.mk (blk_below (g := gb244) (o := .cells #[.int .u32 0, .int .u32 0] 25 (0, 0)) (gK BK244.out) hb); have n1_ := Aside0.mk (below_step (by repeat first|(with_reducible first|exact HB.out|apply ba|apply bd|apply b1|refine bs ?_ GE244.out)|exact HB.out) hb); have n2_ := Aside0.mk (hbox); have n3_ := Aside0.mk ((by rw [hg]; exact (below_size (by repeat first|(with_reducible first|exact HB.out|apply ba|apply bd|apply b1|refine bs ?_ GE244.out)|exact HB.out)) : w.heap.size ≤ gb248)); have n4_ := Aside0.mk ((by rw [hg]; exact (below_size (by repeat first|(with_reducible first|exact HB.out|apply ba|apply bd|apply b1|refine bs ?_ GE244.out)|exact HB.out)) : w.heap.size ≤ gb248)); have n5_ := Aside0.mk ((by rw [hg]; exact Nat.ne_of_lt (blk_lt (g := gb244) (o := .cells #[.int .u32 0, .int .u32 0] 25 (0, 0)) (gK BK244.out)) : gb244 ≠ gb248)); have n6_ := Aside0.mk ((by rw [hg]; exact Nat.ne_of_gt (blk_lt (g := gb244) (o := .cells #[.int .u32 0, .int .u32 0] 25 (0, 0)) (gK BK244.out)) : gb248 ≠ gb244)); clear BK244; clear HB; have BK244 := n0_; have HB := n1_; have BK248 := n2_; have GW248 := n3_; have GE248 := n4_; have NB244_248 := n5_; have NB248_244 := n6_; clear n0_ n1_ n2_ n3_ n4_ n5_ n6_; clear hb hbox hg; have hnb8 := NB248_244.out; have hnc8 := NB244_248.out; have hcz9_0 : w7.cell? ⟨gb248, 0, none⟩ = some (.int .u32 0) := (blk_cell BK248.out 0).trans rfl; have hcz9_1 : w7.cell? ⟨gb248, 1, none⟩ = some (.int .i64 0) := (blk_cell BK248.out 1).trans rfl; have hfz9_0 := blk_frozen BK248.out 0; have hfz9_1 := blk_frozen BK248.out 1) | ((with_reducible refine gate_callee (f := 114) rfl ?_); refine goesL_ (some 19) rfl rfl Tryz.func114 (by kernel_rfl) rfl #[.agg #[.int .u32 t245, .int .i64 t246]] rfl (by (try simp only [mA_, mC_, mN_]); first|done|rfl|(simp only [lD_, lT_]; rfl)) ?_; (with_reducible refine (waystoneref02_Range.calls t245 t246 t249 t250 t251 _ A4.out).mono ?_); rintro e w10 ⟨rfl, hb⟩; refine ⟨_, rfl, ?_⟩; have n0_ := Aside0.mk (blk_below (g := gb244) (o := .cells #[.int .u32 0, .int .u32 0] 25 (0, 0)) (by (with_reducible repeat (first | refine blk_drewN ?_ _ | refine blk_drew ?_ | refine blk_alloc ?_ _)); refine blk_far ?_ NB244_248.out _; (with_reducible repeat (first | refine blk_drewN ?_ _ | refine blk_drew ?_ | refine blk_alloc ?_ _)); refine blk_far ?_ NB244_248.out _; (with_reducible repeat (first | refine blk_drewN ?_ _ | refine blk_drew ?_ | refine blk_alloc ?_ _)); exact BK244.out) hb); have n1_ := Aside0.mk (blk_below (g := gb248) (o := .cells #[.int .u32 t245, .int .i64 t246] 159 (0, 0)) (by (with_reducible repeat (first | refine blk_drewN ?_ _ | refine blk_drew ?_ | refine blk_alloc ?_ _)); refine blk_put (cs := #[.int .u32 t245, .int .i64 0]) ?_ 1 _ rfl; (with_reducible repeat (first | refine blk_drewN ?_ _ | refine blk_drew ?_ | refine blk_alloc ?_ _)); refine blk_put (cs := #[.int .u32 0, .int .i64 0]) ?_ 0 _ rfl; (with_reducible repeat (first | refine blk_drewN ?_ _ | refine blk_drew ?_ | refine blk_alloc ?_ _)); exact BK248.out) hb); have n2_ := Aside0.mk (below_step (by repeat first|(with_reducible first|exact HB.out|apply ba|apply bd|apply b1|refine bs ?_ GE244.out|refine bs ?_ GE248.out)|exact HB.out) hb); clear BK244; clear BK248; clear HB; have BK244 := n0_; have BK248 := n1_; have HB := n2_; clear n0_ n1_ n2_; (try clear hb); (try clear hb2); (try clear hk); (try clear hi); have hcz11_0 : w10.cell? ⟨gb244, 0, none⟩ = some (.int .u32 0) := (blk_cell BK244.out 0).trans rfl; have hcz11_1 : w10.cell? ⟨gb244, 1, none⟩ = some (.int .u32 0) := (blk_cell BK244.out 1).trans rfl; have hfz11_0 := blk_frozen BK244.out 0; have hfz11_1 := blk_frozen BK244.out 1))
  refine bodyPost_ret (results_ct rfl _ _ gb244 25 #[.int .u32 t249, .int .u32 t250] (0, 0) _ rfl (by (with_reducible repeat (first | refine blk_drewN ?_ _ | refine blk_drew ?_ | refine blk_alloc ?_ _)); refine blk_put (cs := #[.int .u32 t249, .int .u32 0]) ?_ 1 _ rfl; (with_reducible repeat (first | refine blk_drewN ?_ _ | refine blk_drew ?_ | refine blk_alloc ?_ _)); refine blk_put (cs := #[.int .u32 0, .int .u32 0]) ?_ 0 _ rfl; (with_reducible repeat (first | refine blk_drewN ?_ _ | refine blk_drew ?_ | refine blk_alloc ?_ _)); exact BK244.out) Tryz.underlying25 rfl (by kernel_rfl)) rfl ?_
  exact ⟨by first | rfl | (simp [errW_none, errW_some] <;> rfl) | (simp [*, errW_none, errW_some] <;> rfl), by repeat first|(with_reducible first|exact HB.out|apply ba|apply bd|apply b1|refine bs ?_ GE244.out|refine bs ?_ GE248.out)|exact HB.out⟩
 ·rw [if_neg c3] at H
  have c3b0 : (t247 == 0) = false := beq_eq_false_iff_ne.mpr c3
  have c3b1 : (t247 != 0) = true := bne_iff_ne.mpr c3
  replace H := Option.bind_eq_some_iff.mp H
  obtain ⟨t252, A120, H⟩ := H
  try dsimp only at H
  have A12 := Aside0.mk A120
  clear A120
  by_cases c13 : (t252.length : Int) = 2
  ·rw [if_pos c13] at H
   have c13b0 : ((t252.length : Int) == 2) = true := beq_iff_eq.mpr c13
   have c13b1 : ((t252.length : Int) != 2) = false := bne_eq_false_iff_eq.mpr c13
   clear c13
   by_cases c14 : 0 < (t252.length : Int)
   ·rw [if_pos c14] at H
    have c14b0 : decide (0 < (t252.length : Int)) = true := decide_eq_true c14
    have c14b1 : decide (0 < t252.length) = true := decide_eq_true (by omega)
    clear c14
    replace H := Option.bind_eq_some_iff.mp H
    obtain ⟨⟨t256, t257⟩, A150, H⟩ := H
    try dsimp only at H
    have A15 := Aside0.mk A150
    clear A150
    by_cases c16 : 1 < (t252.length : Int)
    ·rw [if_pos c16] at H
     have c16b0 : decide (1 < (t252.length : Int)) = true := decide_eq_true c16
     have c16b1 : decide (1 < t252.length) = true := decide_eq_true (by omega)
     clear c16
     replace H := Option.bind_eq_some_iff.mp H
     obtain ⟨⟨t259, t260⟩, A170, H⟩ := H
     try dsimp only at H
     have A17 := Aside0.mk A170
     clear A170
     by_cases c18 : t257 = 0
     ·rw [if_pos c18] at H
      have c18b0 : (t257 == 0) = true := beq_iff_eq.mpr c18
      have c18b1 : (t257 != 0) = false := bne_eq_false_iff_eq.mpr c18
      clear c18
      by_cases c19 : t260 = 0
      ·rw [if_pos c19] at H
       have c19b0 : (t260 == 0) = true := beq_iff_eq.mpr c19
       have c19b1 : (t260 != 0) = false := bne_eq_false_iff_eq.mpr c19
       clear c19
       by_cases c20 : t256 > t259
       ·rw [if_pos c20] at H
        have c20b0 : decide (t259 < t256) = true := decide_eq_true c20
        clear c20
        simp only [Option.some.injEq, Prod.mk.injEq] at H
        obtain ⟨rfl, rfl, rfl⟩ := H
        go_enter Tryz.func63, Tryz.ntmps63
        go_wp2_with (first | ((with_reducible refine gate_dst (N := 2) rfl ?_); refine box_event ?hg (N := 2) ?hd (cs := #[.int .u32 0, .int .u32 0]) (t := 25) ?hr ?_; (case hd => rfl); (case hg => rfl); (case hr => first | (go_simp; done) | (go_simp; rfl)); intro gb244 hg w21 hbox hb; have n0_ := Aside0.mk (below_step (gB HB.out) hb); have n1_ := Aside0.mk (hbox); have n2_ := Aside0.mk ((by rw [hg]; exact (below_size (gB HB.out)) : w.heap.size ≤ gb244)); have n3_ := Aside0.mk ((by rw [hg]; exact (below_size (gB HB.out)) : w.heap.size ≤ gb244)); clear HB; have HB := n0_; have BK244 := n1_; have GW244 := n2_; have GE244 := n3_; clear n0_ n1_ n2_ n3_; clear hb hbox hg) | ((with_reducible refine gate_callee (f := 113) rfl ?_); refine goesL_ (some 13) rfl rfl Tryz.func113 (by kernel_rfl) rfl #[.string a0] rfl (by (try simp only [mA_, mC_, mN_]); first|done|rfl|(simp only [lD_, lT_]; rfl)) ?_; (with_reducible refine (waystoneref02_Parse.calls k a0 t245 t246 t247 _ A2.out).mono ?_); rintro e w22 ⟨rfl, hb⟩; refine ⟨_, rfl, ?_⟩; have n0_ := Aside0.mk (blk_below (g := gb244) (o := .cells #[.int .u32 0, .int .u32 0] 25 (0, 0)) (gK BK244.out) hb); have n1_ := Aside0.mk (below_step (by repeat first|(with_reducible first|exact HB.out|apply ba|apply bd|apply b1|refine bs ?_ GE244.out)|exact HB.out) hb); clear BK244; clear HB; have BK244 := n0_; have HB := n1_; clear n0_ n1_; (try clear hb); (try clear hb2); (try clear hk); (try clear hi)) | ((with_reducible refine gate_dst (N := 4) rfl ?_); refine box_event ?hg (N := 4) ?hd (cs := #[.int .u32 0, .int .i64 0]) (t := 159) ?hr ?_; (case hd => rfl); (case hg => rfl); (case hr => first | (go_simp; done) | (go_simp; rfl)); intro gb248 hg w23 hbox hb; have n0_ := Aside0.mk (blk_below (g := gb244) (o := .cells #[.int .u32 0, .int .u32 0] 25 (0, 0)) (gK BK244.out) hb); have n1_ := Aside0.mk (below_step (by repeat first|(with_reducible first|exact HB.out|apply ba|apply bd|apply b1|refine bs ?_ GE244.out)|exact HB.out) hb); have n2_ := Aside0.mk (hbox); have n3_ := Aside0.mk ((by rw [hg]; exact (below_size (by repeat first|(with_reducible first|exact HB.out|apply ba|apply bd|apply b1|refine bs ?_ GE244.out)|exact HB.out)) : w.heap.size ≤ gb248)); have n4_ := Aside0.mk ((by rw [hg]; exact (below_size (by repeat first|(with_reducible first|exact HB.out|apply ba|apply bd|apply b1|refine bs ?_ GE244.out)|exact HB.out)) : w.heap.size ≤ gb248)); have n5_ := Aside0.mk ((by rw [hg]; exact Nat.ne_of_lt (blk_lt (g := gb244) (o := .cells #[.int .u32 0, .int .u32 0] 25 (0, 0)) (gK BK244.out)) : gb244 ≠ gb248)); have n6_ := Aside0.mk ((by rw [hg]; exact Nat.ne_of_gt (blk_lt (g := gb244) (o := .cells #[.int .u32 0, .int .u32 0] 25 (0, 0)) (gK BK244.out)) : gb248 ≠ gb244)); clear BK244; clear HB; have BK244 := n0_; have HB := n1_; have BK248 := n2_; have GW248 := n3_; have GE248 := n4_; have NB244_248 := n5_; have NB248_244 := n6_; clear n0_ n1_ n2_ n3_ n4_ n5_ n6_; clear hb hbox hg; have hnb24 := NB248_244.out; have hnc24 := NB244_248.out; have hcz25_0 : w23.cell? ⟨gb248, 0, none⟩ = some (.int .u32 0) := (blk_cell BK248.out 0).trans rfl; have hcz25_1 : w23.cell? ⟨gb248, 1, none⟩ = some (.int .i64 0) := (blk_cell BK248.out 1).trans rfl; have hfz25_0 := blk_frozen BK248.out 0; have hfz25_1 := blk_frozen BK248.out 1) | ((with_reducible refine gate_callee (f := 115) rfl ?_); refine goesL_ (some 23) rfl rfl Tryz.func115 (by kernel_rfl) rfl #[.string a0, .int .u8 45] rfl (by (try simp only [mA_, mC_, mN_]); first|done|rfl|(simp only [lD_, lT_]; rfl)) ?_; (with_reducible refine (waystoneref02_parts.calls k a0 45 t252 _ A12.out).mono ?_); rintro e w26 ⟨v253, rfl, ho0, hb⟩; refine ⟨_, rfl, ?_⟩; have n0_ := Aside0.mk (Kd.R_lower ho0 (below_size (by repeat first|(with_reducible first|exact HB.out|apply ba|apply bd|apply b1|refine bs ?_ GE244.out|refine bs ?_ GE248.out)|exact HB.out))); have n1_ := Aside0.mk (blk_below (g := gb244) (o := .cells #[.int .u32 0, .int .u32 0] 25 (0, 0)) (by (with_reducible repeat (first | refine blk_drewN ?_ _ | refine blk_drew ?_ | refine blk_alloc ?_ _)); refine blk_far ?_ NB244_248.out _; (with_reducible repeat (first | refine blk_drewN ?_ _ | refine blk_drew ?_ | refine blk_alloc ?_ _)); refine blk_far ?_ NB244_248.out _; (with_reducible repeat (first | refine blk_drewN ?_ _ | refine blk_drew ?_ | refine blk_alloc ?_ _)); exact BK244.out) hb); have n2_ := Aside0.mk (blk_below (g := gb248) (o := .cells #[.int .u32 t245, .int .i64 t246] 159 (0, 0)) (by (with_reducible repeat (first | refine blk_drewN ?_ _ | refine blk_drew ?_ | refine blk_alloc ?_ _)); refine blk_put (cs := #[.int .u32 t245, .int .i64 0]) ?_ 1 _ rfl; (with_reducible repeat (first | refine blk_drewN ?_ _ | refine blk_drew ?_ | refine blk_alloc ?_ _)); refine blk_put (cs := #[.int .u32 0, .int .i64 0]) ?_ 0 _ rfl; (with_reducible repeat (first | refine blk_drewN ?_ _ | refine blk_drew ?_ | refine blk_alloc ?_ _)); exact BK248.out) hb); have n3_ := Aside0.mk (below_step (by repeat first|(with_reducible first|exact HB.out|apply ba|apply bd|apply b1|refine bs ?_ GE244.out|refine bs ?_ GE248.out)|exact HB.out) hb); clear BK244; clear BK248; clear HB; have HO254 := n0_; have BK244 := n1_; have BK248 := n2_; have HB := n3_; clear n0_ n1_ n2_ n3_; (try clear hb); (try clear hb2); (try clear hk); (try clear hi); (try clear ho0); obtain ⟨Ao27, co27, eo27⟩ := Kd.R_slice HO254.out; subst eo27; have p255 : 0 ≤ (0 : Int) := (by omega); have q255 : 0 < (t252.length : Int) := of_decide_eq_true (by first | (with_reducible assumption) | assumption); obtain ⟨ad255, e255, hx255_0⟩ := Kd.at_string (Kd.R_reads' HO254.out).2.2 0 p255 q255; cases e255; have qi255 : (0 < t252.length) = True := eq_true (by omega); (try rw [show ((0 : Int)).toNat = 0 from rfl] at hx255_0); (try rw [Addr.add_zero'] at hx255_0); replace p255 := eq_true p255; replace q255 := eq_true q255) | ((with_reducible refine gate_callee (f := 116) rfl ?_); refine goesL_ (some 32) rfl rfl Tryz.func116 (by kernel_rfl) rfl #[.string (rdOf ByteArray.empty t252 0)] rfl (by (try simp only [mA_, mC_, mN_]); first|done|rfl|(simp only [lD_, lT_]; rfl)) ?_; (with_reducible refine (waystoneref02_ParseAddr.calls k (rdOf ByteArray.empty t252 0) t256 t257 _ A15.out).mono ?_); rintro e w28 ⟨rfl, hb⟩; refine ⟨_, rfl, ?_⟩; have n0_ := Aside0.mk (Kd.R_below (gR HO254.out) hb); have n1_ := Aside0.mk (blk_below (g := gb244) (o := .cells #[.int .u32 0, .int .u32 0] 25 (0, 0)) (gK BK244.out) hb); have n2_ := Aside0.mk (blk_below (g := gb248) (o := .cells #[.int .u32 t245, .int .i64 t246] 159 (0, 0)) (gK BK248.out) hb); have n3_ := Aside0.mk (below_step (by repeat first|(with_reducible first|exact HB.out|apply ba|apply bd|apply b1|refine bs ?_ GE244.out|refine bs ?_ GE248.out)|exact HB.out) hb); clear HO254; clear BK244; clear BK248; clear HB; have HO254 := n0_; have BK244 := n1_; have BK248 := n2_; have HB := n3_; clear n0_ n1_ n2_ n3_; (try clear hb); (try clear hb2); (try clear hk); (try clear hi); have p258 : 0 ≤ (1 : Int) := (by omega); have q258 : 1 < (t252.length : Int) := of_decide_eq_true (by first | (with_reducible assumption) | assumption); obtain ⟨ad258, e258, hx258_0⟩ := Kd.at_string (Kd.R_reads' HO254.out).2.2 1 p258 q258; obtain rfl : ad255 = ad258 := (by injection e258); (try simp only [show (1 : Int).toNat = 1 from rfl, Nat.reduceMul, Nat.reduceEqDiff, Go.Addr.add, ↓reduceIte] at hx258_0); have qi258 : (1 < t252.length) = True := eq_true (by omega); (try rw [show ((1 : Int)).toNat = 1 from rfl] at hx258_0); replace p258 := eq_true p258; replace q258 := eq_true q258) | ((with_reducible refine gate_callee (f := 116) rfl ?_); refine goesL_ (some 39) rfl rfl Tryz.func116 (by kernel_rfl) rfl #[.string (rdOf ByteArray.empty t252 1)] rfl (by (try simp only [mA_, mC_, mN_]); first|done|rfl|(simp only [lD_, lT_]; rfl)) ?_; (with_reducible refine (waystoneref02_ParseAddr.calls k (rdOf ByteArray.empty t252 1) t259 t260 _ A17.out).mono ?_); rintro e w29 ⟨rfl, hb⟩; refine ⟨_, rfl, ?_⟩; have n0_ := Aside0.mk (Kd.R_below (gR HO254.out) hb); have n1_ := Aside0.mk (blk_below (g := gb244) (o := .cells #[.int .u32 0, .int .u32 0] 25 (0, 0)) (gK BK244.out) hb); have n2_ := Aside0.mk (blk_below (g := gb248) (o := .cells #[.int .u32 t245, .int .i64 t246] 159 (0, 0)) (gK BK248.out) hb); have n3_ := Aside0.mk (below_step (by repeat first|(with_reducible first|exact HB.out|apply ba|apply bd|apply b1|refine bs ?_ GE244.out|refine bs ?_ GE248.out)|exact HB.out) hb); clear HO254; clear BK244; clear BK248; clear HB; have HO254 := n0_; have BK244 := n1_; have BK248 := n2_; have HB := n3_; clear n0_ n1_ n2_ n3_; (try clear hb); (try clear hb2); (try clear hk); (try clear hi); have hcz30_0 : w29.cell? ⟨gb244, 0, none⟩ = some (.int .u32 0) := (blk_cell BK244.out 0).trans rfl; have hcz30_1 : w29.cell? ⟨gb244, 1, none⟩ = some (.int .u32 0) := (blk_cell BK244.out 1).trans rfl; have hfz30_0 := blk_frozen BK244.out 0; have hfz30_1 := blk_frozen BK244.out 1))
        refine bodyPost_ret (results_ct rfl _ _ gb244 25 #[.int .u32 0, .int .u32 0] (0, 0) _ rfl (by (with_reducible repeat (first | refine blk_drewN ?_ _ | refine blk_drew ?_ | refine blk_alloc ?_ _)); refine blk_put (cs := #[.int .u32 0, .int .u32 0]) ?_ 1 _ rfl; (with_reducible repeat (first | refine blk_drewN ?_ _ | refine blk_drew ?_ | refine blk_alloc ?_ _)); refine blk_put (cs := #[.int .u32 0, .int .u32 0]) ?_ 0 _ rfl; (with_reducible repeat (first | refine blk_drewN ?_ _ | refine blk_drew ?_ | refine blk_alloc ?_ _)); exact BK244.out) Tryz.underlying25 rfl (by kernel_rfl)) rfl ?_
        exact ⟨by first | rfl | (simp [errW_none, errW_some] <;> rfl) | (simp [*, errW_none, errW_some] <;> rfl), by repeat first|(with_reducible first|exact HB.out|apply ba|apply bd|apply b1|refine bs ?_ GE244.out|refine bs ?_ GE248.out)|exact HB.out⟩
       ·rw [if_neg c20] at H
        have c20b0 : decide (t259 < t256) = false := decide_eq_false c20
        clear c20
        simp only [Option.some.injEq, Prod.mk.injEq] at H
        obtain ⟨rfl, rfl, rfl⟩ := H
        go_enter Tryz.func63, Tryz.ntmps63
        go_wp2_with (first | ((with_reducible refine gate_dst (N := 2) rfl ?_); refine box_event ?hg (N := 2) ?hd (cs := #[.int .u32 0, .int .u32 0]) (t := 25) ?hr ?_; (case hd => rfl); (case hg => rfl); (case hr => first | (go_simp; done) | (go_simp; rfl)); intro gb244 hg w31 hbox hb; have n0_ := Aside0.mk (below_step (gB HB.out) hb); have n1_ := Aside0.mk (hbox); have n2_ := Aside0.mk ((by rw [hg]; exact (below_size (gB HB.out)) : w.heap.size ≤ gb244)); have n3_ := Aside0.mk ((by rw [hg]; exact (below_size (gB HB.out)) : w.heap.size ≤ gb244)); clear HB; have HB := n0_; have BK244 := n1_; have GW244 := n2_; have GE244 := n3_; clear n0_ n1_ n2_ n3_; clear hb hbox hg) | ((with_reducible refine gate_callee (f := 113) rfl ?_); refine goesL_ (some 13) rfl rfl Tryz.func113 (by kernel_rfl) rfl #[.string a0] rfl (by (try simp only [mA_, mC_, mN_]); first|done|rfl|(simp only [lD_, lT_]; rfl)) ?_; (with_reducible refine (waystoneref02_Parse.calls k a0 t245 t246 t247 _ A2.out).mono ?_); rintro e w32 ⟨rfl, hb⟩; refine ⟨_, rfl, ?_⟩; have n0_ := Aside0.mk (blk_below (g := gb244) (o := .cells #[.int .u32 0, .int .u32 0] 25 (0, 0)) (gK BK244.out) hb); have n1_ := Aside0.mk (below_step (by repeat first|(with_reducible first|exact HB.out|apply ba|apply bd|apply b1|refine bs ?_ GE244.out)|exact HB.out) hb); clear BK244; clear HB; have BK244 := n0_; have HB := n1_; clear n0_ n1_; (try clear hb); (try clear hb2); (try clear hk); (try clear hi)) | ((with_reducible refine gate_dst (N := 4) rfl ?_); refine box_event ?hg (N := 4) ?hd (cs := #[.int .u32 0, .int .i64 0]) (t := 159) ?hr ?_; (case hd => rfl); (case hg => rfl); (case hr => first | (go_simp; done) | (go_simp; rfl)); intro gb248 hg w33 hbox hb; have n0_ := Aside0.mk (blk_below (g := gb244) (o := .cells #[.int .u32 0, .int .u32 0] 25 (0, 0)) (gK BK244.out) hb); have n1_ := Aside0.mk (below_step (by repeat first|(with_reducible first|exact HB.out|apply ba|apply bd|apply b1|refine bs ?_ GE244.out)|exact HB.out) hb); have n2_ := Aside0.mk (hbox); have n3_ := Aside0.mk ((by rw [hg]; exact (below_size (by repeat first|(with_reducible first|exact HB.out|apply ba|apply bd|apply b1|refine bs ?_ GE244.out)|exact HB.out)) : w.heap.size ≤ gb248)); have n4_ := Aside0.mk ((by rw [hg]; exact (below_size (by repeat first|(with_reducible first|exact HB.out|apply ba|apply bd|apply b1|refine bs ?_ GE244.out)|exact HB.out)) : w.heap.size ≤ gb248)); have n5_ := Aside0.mk ((by rw [hg]; exact Nat.ne_of_lt (blk_lt (g := gb244) (o := .cells #[.int .u32 0, .int .u32 0] 25 (0, 0)) (gK BK244.out)) : gb244 ≠ gb248)); have n6_ := Aside0.mk ((by rw [hg]; exact Nat.ne_of_gt (blk_lt (g := gb244) (o := .cells #[.int .u32 0, .int .u32 0] 25 (0, 0)) (gK BK244.out)) : gb248 ≠ gb244)); clear BK244; clear HB; have BK244 := n0_; have HB := n1_; have BK248 := n2_; have GW248 := n3_; have GE248 := n4_; have NB244_248 := n5_; have NB248_244 := n6_; clear n0_ n1_ n2_ n3_ n4_ n5_ n6_; clear hb hbox hg; have hnb34 := NB248_244.out; have hnc34 := NB244_248.out; have hcz35_0 : w33.cell? ⟨gb248, 0, none⟩ = some (.int .u32 0) := (blk_cell BK248.out 0).trans rfl; have hcz35_1 : w33.cell? ⟨gb248, 1, none⟩ = some (.int .i64 0) := (blk_cell BK248.out 1).trans rfl; have hfz35_0 := blk_frozen BK248.out 0; have hfz35_1 := blk_frozen BK248.out 1) | ((with_reducible refine gate_callee (f := 115) rfl ?_); refine goesL_ (some 23) rfl rfl Tryz.func115 (by kernel_rfl) rfl #[.string a0, .int .u8 45] rfl (by (try simp only [mA_, mC_, mN_]); first|done|rfl|(simp only [lD_, lT_]; rfl)) ?_; (with_reducible refine (waystoneref02_parts.calls k a0 45 t252 _ A12.out).mono ?_); rintro e w36 ⟨v253, rfl, ho0, hb⟩; refine ⟨_, rfl, ?_⟩; have n0_ := Aside0.mk (Kd.R_lower ho0 (below_size (by repeat first|(with_reducible first|exact HB.out|apply ba|apply bd|apply b1|refine bs ?_ GE244.out|refine bs ?_ GE248.out)|exact HB.out))); have n1_ := Aside0.mk (blk_below (g := gb244) (o := .cells #[.int .u32 0, .int .u32 0] 25 (0, 0)) (by (with_reducible repeat (first | refine blk_drewN ?_ _ | refine blk_drew ?_ | refine blk_alloc ?_ _)); refine blk_far ?_ NB244_248.out _; (with_reducible repeat (first | refine blk_drewN ?_ _ | refine blk_drew ?_ | refine blk_alloc ?_ _)); refine blk_far ?_ NB244_248.out _; (with_reducible repeat (first | refine blk_drewN ?_ _ | refine blk_drew ?_ | refine blk_alloc ?_ _)); exact BK244.out) hb); have n2_ := Aside0.mk (blk_below (g := gb248) (o := .cells #[.int .u32 t245, .int .i64 t246] 159 (0, 0)) (by (with_reducible repeat (first | refine blk_drewN ?_ _ | refine blk_drew ?_ | refine blk_alloc ?_ _)); refine blk_put (cs := #[.int .u32 t245, .int .i64 0]) ?_ 1 _ rfl; (with_reducible repeat (first | refine blk_drewN ?_ _ | refine blk_drew ?_ | refine blk_alloc ?_ _)); refine blk_put (cs := #[.int .u32 0, .int .i64 0]) ?_ 0 _ rfl; (with_reducible repeat (first | refine blk_drewN ?_ _ | refine blk_drew ?_ | refine blk_alloc ?_ _)); exact BK248.out) hb); have n3_ := Aside0.mk (below_step (by repeat first|(with_reducible first|exact HB.out|apply ba|apply bd|apply b1|refine bs ?_ GE244.out|refine bs ?_ GE248.out)|exact HB.out) hb); clear BK244; clear BK248; clear HB; have HO254 := n0_; have BK244 := n1_; have BK248 := n2_; have HB := n3_; clear n0_ n1_ n2_ n3_; (try clear hb); (try clear hb2); (try clear hk); (try clear hi); (try clear ho0); obtain ⟨Ao37, co37, eo37⟩ := Kd.R_slice HO254.out; subst eo37; have p255 : 0 ≤ (0 : Int) := (by omega); have q255 : 0 < (t252.length : Int) := of_decide_eq_true (by first | (with_reducible assumption) | assumption); obtain ⟨ad255, e255, hx255_0⟩ := Kd.at_string (Kd.R_reads' HO254.out).2.2 0 p255 q255; cases e255; have qi255 : (0 < t252.length) = True := eq_true (by omega); (try rw [show ((0 : Int)).toNat = 0 from rfl] at hx255_0); (try rw [Addr.add_zero'] at hx255_0); replace p255 := eq_true p255; replace q255 := eq_true q255) | ((with_reducible refine gate_callee (f := 116) rfl ?_); refine goesL_ (some 32) rfl rfl Tryz.func116 (by kernel_rfl) rfl #[.string (rdOf ByteArray.empty t252 0)] rfl (by (try simp only [mA_, mC_, mN_]); first|done|rfl|(simp only [lD_, lT_]; rfl)) ?_; (with_reducible refine (waystoneref02_ParseAddr.calls k (rdOf ByteArray.empty t252 0) t256 t257 _ A15.out).mono ?_); rintro e w38 ⟨rfl, hb⟩; refine ⟨_, rfl, ?_⟩; have n0_ := Aside0.mk (Kd.R_below (gR HO254.out) hb); have n1_ := Aside0.mk (blk_below (g := gb244) (o := .cells #[.int .u32 0, .int .u32 0] 25 (0, 0)) (gK BK244.out) hb); have n2_ := Aside0.mk (blk_below (g := gb248) (o := .cells #[.int .u32 t245, .int .i64 t246] 159 (0, 0)) (gK BK248.out) hb); have n3_ := Aside0.mk (below_step (by repeat first|(with_reducible first|exact HB.out|apply ba|apply bd|apply b1|refine bs ?_ GE244.out|refine bs ?_ GE248.out)|exact HB.out) hb); clear HO254; clear BK244; clear BK248; clear HB; have HO254 := n0_; have BK244 := n1_; have BK248 := n2_; have HB := n3_; clear n0_ n1_ n2_ n3_; (try clear hb); (try clear hb2); (try clear hk); (try clear hi); have p258 : 0 ≤ (1 : Int) := (by omega); have q258 : 1 < (t252.length : Int) := of_decide_eq_true (by first | (with_reducible assumption) | assumption); obtain ⟨ad258, e258, hx258_0⟩ := Kd.at_string (Kd.R_reads' HO254.out).2.2 1 p258 q258; obtain rfl : ad255 = ad258 := (by injection e258); (try simp only [show (1 : Int).toNat = 1 from rfl, Nat.reduceMul, Nat.reduceEqDiff, Go.Addr.add, ↓reduceIte] at hx258_0); have qi258 : (1 < t252.length) = True := eq_true (by omega); (try rw [show ((1 : Int)).toNat = 1 from rfl] at hx258_0); replace p258 := eq_true p258; replace q258 := eq_true q258) | ((with_reducible refine gate_callee (f := 116) rfl ?_); refine goesL_ (some 39) rfl rfl Tryz.func116 (by kernel_rfl) rfl #[.string (rdOf ByteArray.empty t252 1)] rfl (by (try simp only [mA_, mC_, mN_]); first|done|rfl|(simp only [lD_, lT_]; rfl)) ?_; (with_reducible refine (waystoneref02_ParseAddr.calls k (rdOf ByteArray.empty t252 1) t259 t260 _ A17.out).mono ?_); rintro e w39 ⟨rfl, hb⟩; refine ⟨_, rfl, ?_⟩; have n0_ := Aside0.mk (Kd.R_below (gR HO254.out) hb); have n1_ := Aside0.mk (blk_below (g := gb244) (o := .cells #[.int .u32 0, .int .u32 0] 25 (0, 0)) (gK BK244.out) hb); have n2_ := Aside0.mk (blk_below (g := gb248) (o := .cells #[.int .u32 t245, .int .i64 t246] 159 (0, 0)) (gK BK248.out) hb); have n3_ := Aside0.mk (below_step (by repeat first|(with_reducible first|exact HB.out|apply ba|apply bd|apply b1|refine bs ?_ GE244.out|refine bs ?_ GE248.out)|exact HB.out) hb); clear HO254; clear BK244; clear BK248; clear HB; have HO254 := n0_; have BK244 := n1_; have BK248 := n2_; have HB := n3_; clear n0_ n1_ n2_ n3_; (try clear hb); (try clear hb2); (try clear hk); (try clear hi); have hcz40_0 : w39.cell? ⟨gb244, 0, none⟩ = some (.int .u32 0) := (blk_cell BK244.out 0).trans rfl; have hcz40_1 : w39.cell? ⟨gb244, 1, none⟩ = some (.int .u32 0) := (blk_cell BK244.out 1).trans rfl; have hfz40_0 := blk_frozen BK244.out 0; have hfz40_1 := blk_frozen BK244.out 1))
        refine bodyPost_ret (results_ct rfl _ _ gb244 25 #[.int .u32 t256, .int .u32 t259] (0, 0) _ rfl (by (with_reducible repeat (first | refine blk_drewN ?_ _ | refine blk_drew ?_ | refine blk_alloc ?_ _)); refine blk_put (cs := #[.int .u32 t256, .int .u32 0]) ?_ 1 _ rfl; (with_reducible repeat (first | refine blk_drewN ?_ _ | refine blk_drew ?_ | refine blk_alloc ?_ _)); refine blk_put (cs := #[.int .u32 0, .int .u32 0]) ?_ 0 _ rfl; (with_reducible repeat (first | refine blk_drewN ?_ _ | refine blk_drew ?_ | refine blk_alloc ?_ _)); exact BK244.out) Tryz.underlying25 rfl (by kernel_rfl)) rfl ?_
        exact ⟨by first | rfl | (simp [errW_none, errW_some] <;> rfl) | (simp [*, errW_none, errW_some] <;> rfl), by repeat first|(with_reducible first|exact HB.out|apply ba|apply bd|apply b1|refine bs ?_ GE244.out|refine bs ?_ GE248.out)|exact HB.out⟩
      ·rw [if_neg c19] at H
       have c19b0 : (t260 == 0) = false := beq_eq_false_iff_ne.mpr c19
       have c19b1 : (t260 != 0) = true := bne_iff_ne.mpr c19
       simp only [Option.some.injEq, Prod.mk.injEq] at H
       obtain ⟨rfl, rfl, rfl⟩ := H
       go_enter Tryz.func63, Tryz.ntmps63
       go_wp2_with (first | ((with_reducible refine gate_dst (N := 2) rfl ?_); refine box_event ?hg (N := 2) ?hd (cs := #[.int .u32 0, .int .u32 0]) (t := 25) ?hr ?_; (case hd => rfl); (case hg => rfl); (case hr => first | (go_simp; done) | (go_simp; rfl)); intro gb244 hg w41 hbox hb; have n0_ := Aside0.mk (below_step (gB HB.out) hb); have n1_ := Aside0.mk (hbox); have n2_ := Aside0.mk ((by rw [hg]; exact (below_size (gB HB.out)) : w.heap.size ≤ gb244)); have n3_ := Aside0.mk ((by rw [hg]; exact (below_size (gB HB.out)) : w.heap.size ≤ gb244)); clear HB; have HB := n0_; have BK244 := n1_; have GW244 := n2_; have GE244 := n3_; clear n0_ n1_ n2_ n3_; clear hb hbox hg) | ((with_reducible refine gate_callee (f := 113) rfl ?_); refine goesL_ (some 13) rfl rfl Tryz.func113 (by kernel_rfl) rfl #[.string a0] rfl (by (try simp only [mA_, mC_, mN_]); first|done|rfl|(simp only [lD_, lT_]; rfl)) ?_; (with_reducible refine (waystoneref02_Parse.calls k a0 t245 t246 t247 _ A2.out).mono ?_); rintro e w42 ⟨rfl, hb⟩; refine ⟨_, rfl, ?_⟩; have n0_ := Aside0.mk (blk_below (g := gb244) (o := .cells #[.int .u32 0, .int .u32 0] 25 (0, 0)) (gK BK244.out) hb); have n1_ := Aside0.mk (below_step (by repeat first|(with_reducible first|exact HB.out|apply ba|apply bd|apply b1|refine bs ?_ GE244.out)|exact HB.out) hb); clear BK244; clear HB; have BK244 := n0_; have HB := n1_; clear n0_ n1_; (try clear hb); (try clear hb2); (try clear hk); (try clear hi)) | ((with_reducible refine gate_dst (N := 4) rfl ?_); refine box_event ?hg (N := 4) ?hd (cs := #[.int .u32 0, .int .i64 0]) (t := 159) ?hr ?_; (case hd => rfl); (case hg => rfl); (case hr => first | (go_simp; done) | (go_simp; rfl)); intro gb248 hg w43 hbox hb; have n0_ := Aside0.mk (blk_below (g := gb244) (o := .cells #[.int .u32 0, .int .u32 0] 25 (0, 0)) (gK BK244.out) hb); have n1_ := Aside0.mk (below_step (by repeat first|(with_reducible first|exact HB.out|apply ba|apply bd|apply b1|refine bs ?_ GE244.out)|exact HB.out) hb); have n2_ := Aside0.mk (hbox); have n3_ := Aside0.mk ((by rw [hg]; exact (below_size (by repeat first|(with_reducible first|exact HB.out|apply ba|apply bd|apply b1|refine bs ?_ GE244.out)|exact HB.out)) : w.heap.size ≤ gb248)); have n4_ := Aside0.mk ((by rw [hg]; exact (below_size (by repeat first|(with_reducible first|exact HB.out|apply ba|apply bd|apply b1|refine bs ?_ GE244.out)|exact HB.out)) : w.heap.size ≤ gb248)); have n5_ := Aside0.mk ((by rw [hg]; exact Nat.ne_of_lt (blk_lt (g := gb244) (o := .cells #[.int .u32 0, .int .u32 0] 25 (0, 0)) (gK BK244.out)) : gb244 ≠ gb248)); have n6_ := Aside0.mk ((by rw [hg]; exact Nat.ne_of_gt (blk_lt (g := gb244) (o := .cells #[.int .u32 0, .int .u32 0] 25 (0, 0)) (gK BK244.out)) : gb248 ≠ gb244)); clear BK244; clear HB; have BK244 := n0_; have HB := n1_; have BK248 := n2_; have GW248 := n3_; have GE248 := n4_; have NB244_248 := n5_; have NB248_244 := n6_; clear n0_ n1_ n2_ n3_ n4_ n5_ n6_; clear hb hbox hg; have hnb44 := NB248_244.out; have hnc44 := NB244_248.out; have hcz45_0 : w43.cell? ⟨gb248, 0, none⟩ = some (.int .u32 0) := (blk_cell BK248.out 0).trans rfl; have hcz45_1 : w43.cell? ⟨gb248, 1, none⟩ = some (.int .i64 0) := (blk_cell BK248.out 1).trans rfl; have hfz45_0 := blk_frozen BK248.out 0; have hfz45_1 := blk_frozen BK248.out 1) | ((with_reducible refine gate_callee (f := 115) rfl ?_); refine goesL_ (some 23) rfl rfl Tryz.func115 (by kernel_rfl) rfl #[.string a0, .int .u8 45] rfl (by (try simp only [mA_, mC_, mN_]); first|done|rfl|(simp only [lD_, lT_]; rfl)) ?_; (with_reducible refine (waystoneref02_parts.calls k a0 45 t252 _ A12.out).mono ?_); rintro e w46 ⟨v253, rfl, ho0, hb⟩; refine ⟨_, rfl, ?_⟩; have n0_ := Aside0.mk (Kd.R_lower ho0 (below_size (by repeat first|(with_reducible first|exact HB.out|apply ba|apply bd|apply b1|refine bs ?_ GE244.out|refine bs ?_ GE248.out)|exact HB.out))); have n1_ := Aside0.mk (blk_below (g := gb244) (o := .cells #[.int .u32 0, .int .u32 0] 25 (0, 0)) (by (with_reducible repeat (first | refine blk_drewN ?_ _ | refine blk_drew ?_ | refine blk_alloc ?_ _)); refine blk_far ?_ NB244_248.out _; (with_reducible repeat (first | refine blk_drewN ?_ _ | refine blk_drew ?_ | refine blk_alloc ?_ _)); refine blk_far ?_ NB244_248.out _; (with_reducible repeat (first | refine blk_drewN ?_ _ | refine blk_drew ?_ | refine blk_alloc ?_ _)); exact BK244.out) hb); have n2_ := Aside0.mk (blk_below (g := gb248) (o := .cells #[.int .u32 t245, .int .i64 t246] 159 (0, 0)) (by (with_reducible repeat (first | refine blk_drewN ?_ _ | refine blk_drew ?_ | refine blk_alloc ?_ _)); refine blk_put (cs := #[.int .u32 t245, .int .i64 0]) ?_ 1 _ rfl; (with_reducible repeat (first | refine blk_drewN ?_ _ | refine blk_drew ?_ | refine blk_alloc ?_ _)); refine blk_put (cs := #[.int .u32 0, .int .i64 0]) ?_ 0 _ rfl; (with_reducible repeat (first | refine blk_drewN ?_ _ | refine blk_drew ?_ | refine blk_alloc ?_ _)); exact BK248.out) hb); have n3_ := Aside0.mk (below_step (by repeat first|(with_reducible first|exact HB.out|apply ba|apply bd|apply b1|refine bs ?_ GE244.out|refine bs ?_ GE248.out)|exact HB.out) hb); clear BK244; clear BK248; clear HB; have HO254 := n0_; have BK244 := n1_; have BK248 := n2_; have HB := n3_; clear n0_ n1_ n2_ n3_; (try clear hb); (try clear hb2); (try clear hk); (try clear hi); (try clear ho0); obtain ⟨Ao47, co47, eo47⟩ := Kd.R_slice HO254.out; subst eo47; have p255 : 0 ≤ (0 : Int) := (by omega); have q255 : 0 < (t252.length : Int) := of_decide_eq_true (by first | (with_reducible assumption) | assumption); obtain ⟨ad255, e255, hx255_0⟩ := Kd.at_string (Kd.R_reads' HO254.out).2.2 0 p255 q255; cases e255; have qi255 : (0 < t252.length) = True := eq_true (by omega); (try rw [show ((0 : Int)).toNat = 0 from rfl] at hx255_0); (try rw [Addr.add_zero'] at hx255_0); replace p255 := eq_true p255; replace q255 := eq_true q255) | ((with_reducible refine gate_callee (f := 116) rfl ?_); refine goesL_ (some 32) rfl rfl Tryz.func116 (by kernel_rfl) rfl #[.string (rdOf ByteArray.empty t252 0)] rfl (by (try simp only [mA_, mC_, mN_]); first|done|rfl|(simp only [lD_, lT_]; rfl)) ?_; (with_reducible refine (waystoneref02_ParseAddr.calls k (rdOf ByteArray.empty t252 0) t256 t257 _ A15.out).mono ?_); rintro e w48 ⟨rfl, hb⟩; refine ⟨_, rfl, ?_⟩; have n0_ := Aside0.mk (Kd.R_below (gR HO254.out) hb); have n1_ := Aside0.mk (blk_below (g := gb244) (o := .cells #[.int .u32 0, .int .u32 0] 25 (0, 0)) (gK BK244.out) hb); have n2_ := Aside0.mk (blk_below (g := gb248) (o := .cells #[.int .u32 t245, .int .i64 t246] 159 (0, 0)) (gK BK248.out) hb); have n3_ := Aside0.mk (below_step (by repeat first|(with_reducible first|exact HB.out|apply ba|apply bd|apply b1|refine bs ?_ GE244.out|refine bs ?_ GE248.out)|exact HB.out) hb); clear HO254; clear BK244; clear BK248; clear HB; have HO254 := n0_; have BK244 := n1_; have BK248 := n2_; have HB := n3_; clear n0_ n1_ n2_ n3_; (try clear hb); (try clear hb2); (try clear hk); (try clear hi); have p258 : 0 ≤ (1 : Int) := (by omega); have q258 : 1 < (t252.length : Int) := of_decide_eq_true (by first | (with_reducible assumption) | assumption); obtain ⟨ad258, e258, hx258_0⟩ := Kd.at_string (Kd.R_reads' HO254.out).2.2 1 p258 q258; obtain rfl : ad255 = ad258 := (by injection e258); (try simp only [show (1 : Int).toNat = 1 from rfl, Nat.reduceMul, Nat.reduceEqDiff, Go.Addr.add, ↓reduceIte] at hx258_0); have qi258 : (1 < t252.length) = True := eq_true (by omega); (try rw [show ((1 : Int)).toNat = 1 from rfl] at hx258_0); replace p258 := eq_true p258; replace q258 := eq_true q258) | ((with_reducible refine gate_callee (f := 116) rfl ?_); refine goesL_ (some 39) rfl rfl Tryz.func116 (by kernel_rfl) rfl #[.string (rdOf ByteArray.empty t252 1)] rfl (by (try simp only [mA_, mC_, mN_]); first|done|rfl|(simp only [lD_, lT_]; rfl)) ?_; (with_reducible refine (waystoneref02_ParseAddr.calls k (rdOf ByteArray.empty t252 1) t259 t260 _ A17.out).mono ?_); rintro e w49 ⟨rfl, hb⟩; refine ⟨_, rfl, ?_⟩; have n0_ := Aside0.mk (Kd.R_below (gR HO254.out) hb); have n1_ := Aside0.mk (blk_below (g := gb244) (o := .cells #[.int .u32 0, .int .u32 0] 25 (0, 0)) (gK BK244.out) hb); have n2_ := Aside0.mk (blk_below (g := gb248) (o := .cells #[.int .u32 t245, .int .i64 t246] 159 (0, 0)) (gK BK248.out) hb); have n3_ := Aside0.mk (below_step (by repeat first|(with_reducible first|exact HB.out|apply ba|apply bd|apply b1|refine bs ?_ GE244.out|refine bs ?_ GE248.out)|exact HB.out) hb); clear HO254; clear BK244; clear BK248; clear HB; have HO254 := n0_; have BK244 := n1_; have BK248 := n2_; have HB := n3_; clear n0_ n1_ n2_ n3_; (try clear hb); (try clear hb2); (try clear hk); (try clear hi); have hcz50_0 : w49.cell? ⟨gb244, 0, none⟩ = some (.int .u32 0) := (blk_cell BK244.out 0).trans rfl; have hcz50_1 : w49.cell? ⟨gb244, 1, none⟩ = some (.int .u32 0) := (blk_cell BK244.out 1).trans rfl; have hfz50_0 := blk_frozen BK244.out 0; have hfz50_1 := blk_frozen BK244.out 1))
       refine bodyPost_ret (results_ct rfl _ _ gb244 25 #[.int .u32 0, .int .u32 0] (0, 0) _ rfl (by (with_reducible repeat (first | refine blk_drewN ?_ _ | refine blk_drew ?_ | refine blk_alloc ?_ _)); refine blk_put (cs := #[.int .u32 0, .int .u32 0]) ?_ 1 _ rfl; (with_reducible repeat (first | refine blk_drewN ?_ _ | refine blk_drew ?_ | refine blk_alloc ?_ _)); refine blk_put (cs := #[.int .u32 0, .int .u32 0]) ?_ 0 _ rfl; (with_reducible repeat (first | refine blk_drewN ?_ _ | refine blk_drew ?_ | refine blk_alloc ?_ _)); exact BK244.out) Tryz.underlying25 rfl (by kernel_rfl)) rfl ?_
       exact ⟨by first | rfl | (simp [errW_none, errW_some] <;> rfl) | (simp [*, errW_none, errW_some] <;> rfl), by repeat first|(with_reducible first|exact HB.out|apply ba|apply bd|apply b1|refine bs ?_ GE244.out|refine bs ?_ GE248.out)|exact HB.out⟩
     ·rw [if_neg c18] at H
      have c18b0 : (t257 == 0) = false := beq_eq_false_iff_ne.mpr c18
      have c18b1 : (t257 != 0) = true := bne_iff_ne.mpr c18
      simp only [Option.some.injEq, Prod.mk.injEq] at H
      obtain ⟨rfl, rfl, rfl⟩ := H
      go_enter Tryz.func63, Tryz.ntmps63
      go_wp2_with (first | ((with_reducible refine gate_dst (N := 2) rfl ?_); refine box_event ?hg (N := 2) ?hd (cs := #[.int .u32 0, .int .u32 0]) (t := 25) ?hr ?_; (case hd => rfl); (case hg => rfl); (case hr => first | (go_simp; done) | (go_simp; rfl)); intro gb244 hg w51 hbox hb; have n0_ := Aside0.mk (below_step (gB HB.out) hb); have n1_ := Aside0.mk (hbox); have n2_ := Aside0.mk ((by rw [hg]; exact (below_size (gB HB.out)) : w.heap.size ≤ gb244)); have n3_ := Aside0.mk ((by rw [hg]; exact (below_size (gB HB.out)) : w.heap.size ≤ gb244)); clear HB; have HB := n0_; have BK244 := n1_; have GW244 := n2_; have GE244 := n3_; clear n0_ n1_ n2_ n3_; clear hb hbox hg) | ((with_reducible refine gate_callee (f := 113) rfl ?_); refine goesL_ (some 13) rfl rfl Tryz.func113 (by kernel_rfl) rfl #[.string a0] rfl (by (try simp only [mA_, mC_, mN_]); first|done|rfl|(simp only [lD_, lT_]; rfl)) ?_; (with_reducible refine (waystoneref02_Parse.calls k a0 t245 t246 t247 _ A2.out).mono ?_); rintro e w52 ⟨rfl, hb⟩; refine ⟨_, rfl, ?_⟩; have n0_ := Aside0.mk (blk_below (g := gb244) (o := .cells #[.int .u32 0, .int .u32 0] 25 (0, 0)) (gK BK244.out) hb); have n1_ := Aside0.mk (below_step (by repeat first|(with_reducible first|exact HB.out|apply ba|apply bd|apply b1|refine bs ?_ GE244.out)|exact HB.out) hb); clear BK244; clear HB; have BK244 := n0_; have HB := n1_; clear n0_ n1_; (try clear hb); (try clear hb2); (try clear hk); (try clear hi)) | ((with_reducible refine gate_dst (N := 4) rfl ?_); refine box_event ?hg (N := 4) ?hd (cs := #[.int .u32 0, .int .i64 0]) (t := 159) ?hr ?_; (case hd => rfl); (case hg => rfl); (case hr => first | (go_simp; done) | (go_simp; rfl)); intro gb248 hg w53 hbox hb; have n0_ := Aside0.mk (blk_below (g := gb244) (o := .cells #[.int .u32 0, .int .u32 0] 25 (0, 0)) (gK BK244.out) hb); have n1_ := Aside0.mk (below_step (by repeat first|(with_reducible first|exact HB.out|apply ba|apply bd|apply b1|refine bs ?_ GE244.out)|exact HB.out) hb); have n2_ := Aside0.mk (hbox); have n3_ := Aside0.mk ((by rw [hg]; exact (below_size (by repeat first|(with_reducible first|exact HB.out|apply ba|apply bd|apply b1|refine bs ?_ GE244.out)|exact HB.out)) : w.heap.size ≤ gb248)); have n4_ := Aside0.mk ((by rw [hg]; exact (below_size (by repeat first|(with_reducible first|exact HB.out|apply ba|apply bd|apply b1|refine bs ?_ GE244.out)|exact HB.out)) : w.heap.size ≤ gb248)); have n5_ := Aside0.mk ((by rw [hg]; exact Nat.ne_of_lt (blk_lt (g := gb244) (o := .cells #[.int .u32 0, .int .u32 0] 25 (0, 0)) (gK BK244.out)) : gb244 ≠ gb248)); have n6_ := Aside0.mk ((by rw [hg]; exact Nat.ne_of_gt (blk_lt (g := gb244) (o := .cells #[.int .u32 0, .int .u32 0] 25 (0, 0)) (gK BK244.out)) : gb248 ≠ gb244)); clear BK244; clear HB; have BK244 := n0_; have HB := n1_; have BK248 := n2_; have GW248 := n3_; have GE248 := n4_; have NB244_248 := n5_; have NB248_244 := n6_; clear n0_ n1_ n2_ n3_ n4_ n5_ n6_; clear hb hbox hg; have hnb54 := NB248_244.out; have hnc54 := NB244_248.out; have hcz55_0 : w53.cell? ⟨gb248, 0, none⟩ = some (.int .u32 0) := (blk_cell BK248.out 0).trans rfl; have hcz55_1 : w53.cell? ⟨gb248, 1, none⟩ = some (.int .i64 0) := (blk_cell BK248.out 1).trans rfl; have hfz55_0 := blk_frozen BK248.out 0; have hfz55_1 := blk_frozen BK248.out 1) | ((with_reducible refine gate_callee (f := 115) rfl ?_); refine goesL_ (some 23) rfl rfl Tryz.func115 (by kernel_rfl) rfl #[.string a0, .int .u8 45] rfl (by (try simp only [mA_, mC_, mN_]); first|done|rfl|(simp only [lD_, lT_]; rfl)) ?_; (with_reducible refine (waystoneref02_parts.calls k a0 45 t252 _ A12.out).mono ?_); rintro e w56 ⟨v253, rfl, ho0, hb⟩; refine ⟨_, rfl, ?_⟩; have n0_ := Aside0.mk (Kd.R_lower ho0 (below_size (by repeat first|(with_reducible first|exact HB.out|apply ba|apply bd|apply b1|refine bs ?_ GE244.out|refine bs ?_ GE248.out)|exact HB.out))); have n1_ := Aside0.mk (blk_below (g := gb244) (o := .cells #[.int .u32 0, .int .u32 0] 25 (0, 0)) (by (with_reducible repeat (first | refine blk_drewN ?_ _ | refine blk_drew ?_ | refine blk_alloc ?_ _)); refine blk_far ?_ NB244_248.out _; (with_reducible repeat (first | refine blk_drewN ?_ _ | refine blk_drew ?_ | refine blk_alloc ?_ _)); refine blk_far ?_ NB244_248.out _; (with_reducible repeat (first | refine blk_drewN ?_ _ | refine blk_drew ?_ | refine blk_alloc ?_ _)); exact BK244.out) hb); have n2_ := Aside0.mk (blk_below (g := gb248) (o := .cells #[.int .u32 t245, .int .i64 t246] 159 (0, 0)) (by (with_reducible repeat (first | refine blk_drewN ?_ _ | refine blk_drew ?_ | refine blk_alloc ?_ _)); refine blk_put (cs := #[.int .u32 t245, .int .i64 0]) ?_ 1 _ rfl; (with_reducible repeat (first | refine blk_drewN ?_ _ | refine blk_drew ?_ | refine blk_alloc ?_ _)); refine blk_put (cs := #[.int .u32 0, .int .i64 0]) ?_ 0 _ rfl; (with_reducible repeat (first | refine blk_drewN ?_ _ | refine blk_drew ?_ | refine blk_alloc ?_ _)); exact BK248.out) hb); have n3_ := Aside0.mk (below_step (by repeat first|(with_reducible first|exact HB.out|apply ba|apply bd|apply b1|refine bs ?_ GE244.out|refine bs ?_ GE248.out)|exact HB.out) hb); clear BK244; clear BK248; clear HB; have HO254 := n0_; have BK244 := n1_; have BK248 := n2_; have HB := n3_; clear n0_ n1_ n2_ n3_; (try clear hb); (try clear hb2); (try clear hk); (try clear hi); (try clear ho0); obtain ⟨Ao57, co57, eo57⟩ := Kd.R_slice HO254.out; subst eo57; have p255 : 0 ≤ (0 : Int) := (by omega); have q255 : 0 < (t252.length : Int) := of_decide_eq_true (by first | (with_reducible assumption) | assumption); obtain ⟨ad255, e255, hx255_0⟩ := Kd.at_string (Kd.R_reads' HO254.out).2.2 0 p255 q255; cases e255; have qi255 : (0 < t252.length) = True := eq_true (by omega); (try rw [show ((0 : Int)).toNat = 0 from rfl] at hx255_0); (try rw [Addr.add_zero'] at hx255_0); replace p255 := eq_true p255; replace q255 := eq_true q255) | ((with_reducible refine gate_callee (f := 116) rfl ?_); refine goesL_ (some 32) rfl rfl Tryz.func116 (by kernel_rfl) rfl #[.string (rdOf ByteArray.empty t252 0)] rfl (by (try simp only [mA_, mC_, mN_]); first|done|rfl|(simp only [lD_, lT_]; rfl)) ?_; (with_reducible refine (waystoneref02_ParseAddr.calls k (rdOf ByteArray.empty t252 0) t256 t257 _ A15.out).mono ?_); rintro e w58 ⟨rfl, hb⟩; refine ⟨_, rfl, ?_⟩; have n0_ := Aside0.mk (Kd.R_below (gR HO254.out) hb); have n1_ := Aside0.mk (blk_below (g := gb244) (o := .cells #[.int .u32 0, .int .u32 0] 25 (0, 0)) (gK BK244.out) hb); have n2_ := Aside0.mk (blk_below (g := gb248) (o := .cells #[.int .u32 t245, .int .i64 t246] 159 (0, 0)) (gK BK248.out) hb); have n3_ := Aside0.mk (below_step (by repeat first|(with_reducible first|exact HB.out|apply ba|apply bd|apply b1|refine bs ?_ GE244.out|refine bs ?_ GE248.out)|exact HB.out) hb); clear HO254; clear BK244; clear BK248; clear HB; have HO254 := n0_; have BK244 := n1_; have BK248 := n2_; have HB := n3_; clear n0_ n1_ n2_ n3_; (try clear hb); (try clear hb2); (try clear hk); (try clear hi); have p258 : 0 ≤ (1 : Int) := (by omega); have q258 : 1 < (t252.length : Int) := of_decide_eq_true (by first | (with_reducible assumption) | assumption); obtain ⟨ad258, e258, hx258_0⟩ := Kd.at_string (Kd.R_reads' HO254.out).2.2 1 p258 q258; obtain rfl : ad255 = ad258 := (by injection e258); (try simp only [show (1 : Int).toNat = 1 from rfl, Nat.reduceMul, Nat.reduceEqDiff, Go.Addr.add, ↓reduceIte] at hx258_0); have qi258 : (1 < t252.length) = True := eq_true (by omega); (try rw [show ((1 : Int)).toNat = 1 from rfl] at hx258_0); replace p258 := eq_true p258; replace q258 := eq_true q258) | ((with_reducible refine gate_callee (f := 116) rfl ?_); refine goesL_ (some 39) rfl rfl Tryz.func116 (by kernel_rfl) rfl #[.string (rdOf ByteArray.empty t252 1)] rfl (by (try simp only [mA_, mC_, mN_]); first|done|rfl|(simp only [lD_, lT_]; rfl)) ?_; (with_reducible refine (waystoneref02_ParseAddr.calls k (rdOf ByteArray.empty t252 1) t259 t260 _ A17.out).mono ?_); rintro e w59 ⟨rfl, hb⟩; refine ⟨_, rfl, ?_⟩; have n0_ := Aside0.mk (Kd.R_below (gR HO254.out) hb); have n1_ := Aside0.mk (blk_below (g := gb244) (o := .cells #[.int .u32 0, .int .u32 0] 25 (0, 0)) (gK BK244.out) hb); have n2_ := Aside0.mk (blk_below (g := gb248) (o := .cells #[.int .u32 t245, .int .i64 t246] 159 (0, 0)) (gK BK248.out) hb); have n3_ := Aside0.mk (below_step (by repeat first|(with_reducible first|exact HB.out|apply ba|apply bd|apply b1|refine bs ?_ GE244.out|refine bs ?_ GE248.out)|exact HB.out) hb); clear HO254; clear BK244; clear BK248; clear HB; have HO254 := n0_; have BK244 := n1_; have BK248 := n2_; have HB := n3_; clear n0_ n1_ n2_ n3_; (try clear hb); (try clear hb2); (try clear hk); (try clear hi); have hcz60_0 : w59.cell? ⟨gb244, 0, none⟩ = some (.int .u32 0) := (blk_cell BK244.out 0).trans rfl; have hcz60_1 : w59.cell? ⟨gb244, 1, none⟩ = some (.int .u32 0) := (blk_cell BK244.out 1).trans rfl; have hfz60_0 := blk_frozen BK244.out 0; have hfz60_1 := blk_frozen BK244.out 1))
      refine bodyPost_ret (results_ct rfl _ _ gb244 25 #[.int .u32 0, .int .u32 0] (0, 0) _ rfl (by (with_reducible repeat (first | refine blk_drewN ?_ _ | refine blk_drew ?_ | refine blk_alloc ?_ _)); refine blk_put (cs := #[.int .u32 0, .int .u32 0]) ?_ 1 _ rfl; (with_reducible repeat (first | refine blk_drewN ?_ _ | refine blk_drew ?_ | refine blk_alloc ?_ _)); refine blk_put (cs := #[.int .u32 0, .int .u32 0]) ?_ 0 _ rfl; (with_reducible repeat (first | refine blk_drewN ?_ _ | refine blk_drew ?_ | refine blk_alloc ?_ _)); exact BK244.out) Tryz.underlying25 rfl (by kernel_rfl)) rfl ?_
      exact ⟨by first | rfl | (simp [errW_none, errW_some] <;> rfl) | (simp [*, errW_none, errW_some] <;> rfl), by repeat first|(with_reducible first|exact HB.out|apply ba|apply bd|apply b1|refine bs ?_ GE244.out|refine bs ?_ GE248.out)|exact HB.out⟩
    ·rw [if_neg c16] at H
     exact absurd H (by simp)
   ·rw [if_neg c14] at H
    exact absurd H (by simp)
  ·rw [if_neg c13] at H
   have c13b0 : ((t252.length : Int) == 2) = false := beq_eq_false_iff_ne.mpr c13
   have c13b1 : ((t252.length : Int) != 2) = true := bne_iff_ne.mpr c13
   simp only [Option.some.injEq, Prod.mk.injEq] at H
   obtain ⟨rfl, rfl, rfl⟩ := H
   go_enter Tryz.func63, Tryz.ntmps63
   go_wp2_with (first | ((with_reducible refine gate_dst (N := 2) rfl ?_); refine box_event ?hg (N := 2) ?hd (cs := #[.int .u32 0, .int .u32 0]) (t := 25) ?hr ?_; (case hd => rfl); (case hg => rfl); (case hr => first | (go_simp; done) | (go_simp; rfl)); intro gb244 hg w61 hbox hb; have n0_ := Aside0.mk (below_step (gB HB.out) hb); have n1_ := Aside0.mk (hbox); have n2_ := Aside0.mk ((by rw [hg]; exact (below_size (gB HB.out)) : w.heap.size ≤ gb244)); have n3_ := Aside0.mk ((by rw [hg]; exact (below_size (gB HB.out)) : w.heap.size ≤ gb244)); clear HB; have HB := n0_; have BK244 := n1_; have GW244 := n2_; have GE244 := n3_; clear n0_ n1_ n2_ n3_; clear hb hbox hg) | ((with_reducible refine gate_callee (f := 113) rfl ?_); refine goesL_ (some 13) rfl rfl Tryz.func113 (by kernel_rfl) rfl #[.string a0] rfl (by (try simp only [mA_, mC_, mN_]); first|done|rfl|(simp only [lD_, lT_]; rfl)) ?_; (with_reducible refine (waystoneref02_Parse.calls k a0 t245 t246 t247 _ A2.out).mono ?_); rintro e w62 ⟨rfl, hb⟩; refine ⟨_, rfl, ?_⟩; have n0_ := Aside0.mk (blk_below (g := gb244) (o := .cells #[.int .u32 0, .int .u32 0] 25 (0, 0)) (gK BK244.out) hb); have n1_ := Aside0.mk (below_step (by repeat first|(with_reducible first|exact HB.out|apply ba|apply bd|apply b1|refine bs ?_ GE244.out)|exact HB.out) hb); clear BK244; clear HB; have BK244 := n0_; have HB := n1_; clear n0_ n1_; (try clear hb); (try clear hb2); (try clear hk); (try clear hi)) | ((with_reducible refine gate_dst (N := 4) rfl ?_); refine box_event ?hg (N := 4) ?hd (cs := #[.int .u32 0, .int .i64 0]) (t := 159) ?hr ?_; (case hd => rfl); (case hg => rfl); (case hr => first | (go_simp; done) | (go_simp; rfl)); intro gb248 hg w63 hbox hb; have n0_ := Aside0.mk (blk_below (g := gb244) (o := .cells #[.int .u32 0, .int .u32 0] 25 (0, 0)) (gK BK244.out) hb); have n1_ := Aside0.mk (below_step (by repeat first|(with_reducible first|exact HB.out|apply ba|apply bd|apply b1|refine bs ?_ GE244.out)|exact HB.out) hb); have n2_ := Aside0.mk (hbox); have n3_ := Aside0.mk ((by rw [hg]; exact (below_size (by repeat first|(with_reducible first|exact HB.out|apply ba|apply bd|apply b1|refine bs ?_ GE244.out)|exact HB.out)) : w.heap.size ≤ gb248)); have n4_ := Aside0.mk ((by rw [hg]; exact (below_size (by repeat first|(with_reducible first|exact HB.out|apply ba|apply bd|apply b1|refine bs ?_ GE244.out)|exact HB.out)) : w.heap.size ≤ gb248)); have n5_ := Aside0.mk ((by rw [hg]; exact Nat.ne_of_lt (blk_lt (g := gb244) (o := .cells #[.int .u32 0, .int .u32 0] 25 (0, 0)) (gK BK244.out)) : gb244 ≠ gb248)); have n6_ := Aside0.mk ((by rw [hg]; exact Nat.ne_of_gt (blk_lt (g := gb244) (o := .cells #[.int .u32 0, .int .u32 0] 25 (0, 0)) (gK BK244.out)) : gb248 ≠ gb244)); clear BK244; clear HB; have BK244 := n0_; have HB := n1_; have BK248 := n2_; have GW248 := n3_; have GE248 := n4_; have NB244_248 := n5_; have NB248_244 := n6_; clear n0_ n1_ n2_ n3_ n4_ n5_ n6_; clear hb hbox hg; have hnb64 := NB248_244.out; have hnc64 := NB244_248.out; have hcz65_0 : w63.cell? ⟨gb248, 0, none⟩ = some (.int .u32 0) := (blk_cell BK248.out 0).trans rfl; have hcz65_1 : w63.cell? ⟨gb248, 1, none⟩ = some (.int .i64 0) := (blk_cell BK248.out 1).trans rfl; have hfz65_0 := blk_frozen BK248.out 0; have hfz65_1 := blk_frozen BK248.out 1) | ((with_reducible refine gate_callee (f := 115) rfl ?_); refine goesL_ (some 23) rfl rfl Tryz.func115 (by kernel_rfl) rfl #[.string a0, .int .u8 45] rfl (by (try simp only [mA_, mC_, mN_]); first|done|rfl|(simp only [lD_, lT_]; rfl)) ?_; (with_reducible refine (waystoneref02_parts.calls k a0 45 t252 _ A12.out).mono ?_); rintro e w66 ⟨v253, rfl, ho0, hb⟩; refine ⟨_, rfl, ?_⟩; have n0_ := Aside0.mk (Kd.R_lower ho0 (below_size (by repeat first|(with_reducible first|exact HB.out|apply ba|apply bd|apply b1|refine bs ?_ GE244.out|refine bs ?_ GE248.out)|exact HB.out))); have n1_ := Aside0.mk (blk_below (g := gb244) (o := .cells #[.int .u32 0, .int .u32 0] 25 (0, 0)) (by (with_reducible repeat (first | refine blk_drewN ?_ _ | refine blk_drew ?_ | refine blk_alloc ?_ _)); refine blk_far ?_ NB244_248.out _; (with_reducible repeat (first | refine blk_drewN ?_ _ | refine blk_drew ?_ | refine blk_alloc ?_ _)); refine blk_far ?_ NB244_248.out _; (with_reducible repeat (first | refine blk_drewN ?_ _ | refine blk_drew ?_ | refine blk_alloc ?_ _)); exact BK244.out) hb); have n2_ := Aside0.mk (blk_below (g := gb248) (o := .cells #[.int .u32 t245, .int .i64 t246] 159 (0, 0)) (by (with_reducible repeat (first | refine blk_drewN ?_ _ | refine blk_drew ?_ | refine blk_alloc ?_ _)); refine blk_put (cs := #[.int .u32 t245, .int .i64 0]) ?_ 1 _ rfl; (with_reducible repeat (first | refine blk_drewN ?_ _ | refine blk_drew ?_ | refine blk_alloc ?_ _)); refine blk_put (cs := #[.int .u32 0, .int .i64 0]) ?_ 0 _ rfl; (with_reducible repeat (first | refine blk_drewN ?_ _ | refine blk_drew ?_ | refine blk_alloc ?_ _)); exact BK248.out) hb); have n3_ := Aside0.mk (below_step (by repeat first|(with_reducible first|exact HB.out|apply ba|apply bd|apply b1|refine bs ?_ GE244.out|refine bs ?_ GE248.out)|exact HB.out) hb); clear BK244; clear BK248; clear HB; have HO254 := n0_; have BK244 := n1_; have BK248 := n2_; have HB := n3_; clear n0_ n1_ n2_ n3_; (try clear hb); (try clear hb2); (try clear hk); (try clear hi); (try clear ho0); obtain ⟨Ao67, co67, eo67⟩ := Kd.R_slice HO254.out; subst eo67; have hcz68_0 : w66.cell? ⟨gb244, 0, none⟩ = some (.int .u32 0) := (blk_cell BK244.out 0).trans rfl; have hcz68_1 : w66.cell? ⟨gb244, 1, none⟩ = some (.int .u32 0) := (blk_cell BK244.out 1).trans rfl; have hfz68_0 := blk_frozen BK244.out 0; have hfz68_1 := blk_frozen BK244.out 1))
   refine bodyPost_ret (results_ct rfl _ _ gb244 25 #[.int .u32 0, .int .u32 0] (0, 0) _ rfl (by (with_reducible repeat (first | refine blk_drewN ?_ _ | refine blk_drew ?_ | refine blk_alloc ?_ _)); refine blk_put (cs := #[.int .u32 0, .int .u32 0]) ?_ 1 _ rfl; (with_reducible repeat (first | refine blk_drewN ?_ _ | refine blk_drew ?_ | refine blk_alloc ?_ _)); refine blk_put (cs := #[.int .u32 0, .int .u32 0]) ?_ 0 _ rfl; (with_reducible repeat (first | refine blk_drewN ?_ _ | refine blk_drew ?_ | refine blk_alloc ?_ _)); exact BK244.out) Tryz.underlying25 rfl (by kernel_rfl)) rfl ?_
   exact ⟨by first | rfl | (simp [errW_none, errW_some] <;> rfl) | (simp [*, errW_none, errW_some] <;> rfl), by repeat first|(with_reducible first|exact HB.out|apply ba|apply bd|apply b1|refine bs ?_ GE244.out|refine bs ?_ GE248.out)|exact HB.out⟩
mutual
def waystoneref07_Parse.j0 : Nat → ByteArray → List ByteArray → Bool → Option (Int × Int × Int × Int × Int × Int × Int × Int)
 | 0, _, _, _ => none
 | k + 1, x0, x4, x19 => if x19 = true then (some (0, 0, 0, 0, 0, 0, 0, 71)) else (if 0 < (x4.length : Int) then ((waystoneref02_Number.f k (rdOf ByteArray.empty x4 0) 1048576).bind fun t266 => (if 1 < (x4.length : Int) then ((waystoneref02_Number.f k (rdOf ByteArray.empty x4 1) 9).bind fun t268 => (if 2 < (x4.length : Int) then ((waystoneref02_Number.f k (rdOf ByteArray.empty x4 2) 1024).bind fun t270 => (waystoneref07_Parse.l0 k x0 x4 0 t266 t268 t270 0 0 0 0)) else (none))) else (none))) else (none))
def waystoneref07_Parse.l0 : Nat → ByteArray → List ByteArray → Int → Int → Int → Int → Int → Int → Int → Int → Option (Int × Int × Int × Int × Int × Int × Int × Int)
 | 0, _, _, _, _, _, _, _, _, _, _ => none
 | k + 1, x0, x4, x6, x272000, x272001, x272002, x272003, x272004, x272005, x272006 => if x6 < 4 then ((waystoneref07_Kinds.f).bind fun t272 => (if 0 ≤ x6 then (if x6 < (t272.length : Int) then (if 3 < (x4.length : Int) then (if (rdOf ByteArray.empty t272 x6).toList = (rdOf ByteArray.empty x4 3).toList then (waystoneref07_Parse.l0 k x0 x4 (wrap64 (x6 + 1)) x272000 x272001 x272002 x6 x272004 x272005 x272006) else (waystoneref07_Parse.l0 k x0 x4 (wrap64 (x6 + 1)) x272000 x272001 x272002 x272003 x272004 x272005 x272006)) else (none)) else (none)) else (none))) else (if 4 < (x4.length : Int) then ((waystoneref02_ParseRange.f k (rdOf ByteArray.empty x4 4)).bind fun bt278 => (if (x4.length : Int) = 6 then (if 5 < (x4.length : Int) then ((waystoneref02_Number.f k (rdOf ByteArray.empty x4 5) 9).bind fun t283 => (waystoneref07_Parse.j2 k x0 bt278.2.2 x272000 x272001 x272002 x272003 bt278.1 bt278.2.1 t283)) else (none)) else (waystoneref07_Parse.j2 k x0 bt278.2.2 x272000 x272001 x272002 x272003 bt278.1 bt278.2.1 x272006))) else (none))
def waystoneref07_Parse.j2 : Nat → ByteArray → Int → Int → Int → Int → Int → Int → Int → Int → Option (Int × Int × Int × Int × Int × Int × Int × Int)
 | 0, _, _, _, _, _, _, _, _, _ => none
 | k + 1, x0, x8, x272000, x272001, x272002, x272003, x272004, x272005, x272006 => (waystoneref07_Right.f x272000 x272001 x272002 x272003 x272004 x272005 x272006).bind fun t284 => (if x8 = 0 then (if t284 = true then ((waystoneref07_Text.f k x272000 x272001 x272002 x272003 x272004 x272005 x272006).bind fun t285 => (if t285.toList = x0.toList then (some (x272000, x272001, x272002, x272003, x272004, x272005, x272006, 0)) else (some (0, 0, 0, 0, 0, 0, 0, 71)))) else (some (0, 0, 0, 0, 0, 0, 0, 71))) else (some (0, 0, 0, 0, 0, 0, 0, 71)))
end
def waystoneref07_Parse.f (k : Nat) (a0 : ByteArray) : Option (Int × Int × Int × Int × Int × Int × Int × Int) := (waystoneref07_Words.f k a0).bind fun t262 => (if (t262.length : Int) < 5 then (waystoneref07_Parse.j0 k a0 t262 true) else (waystoneref07_Parse.j0 k a0 t262 (decide ((t262.length : Int) > 6))))
def waystoneref07_Parse.T4 : Bool × List (List Nat × List Nat) := (true, [([], []), ([0], [0]), ([1], [1]), ([2], [2]), ([], []), ([4], [4]), ([5], [5]), ([6, 3], [6]), ([], []), ([8], [8]), ([9], [9]), ([10, 7], [10]), ([3, 7, 11], [3, 7, 11]), ([], []), ([13, 12, 11, 0, 1, 2, 3, 4, 5, 6, 7, 8, 9, 10, 11, 12, 13], [12, 13])])
def waystoneref07_Parse.B4 : List Nat := [0, 1, 3, 7, 0, 16, 48, 127, 0, 256, 768, 2047, 4095, 0, 16383]
theorem waystoneref07_Parse.tab4 : rtab .any (opsOf Tryz.f15 4) = waystoneref07_Parse.T4 := by kernel_rfl
theorem waystoneref07_Parse.bits4 : waitsOk waystoneref07_Parse.T4.2 waystoneref07_Parse.B4 = true := by kernel_rfl
def waystoneref07_Parse.T8 : Bool × List (List Nat × List Nat) := (true, [([], []), ([], []), ([0, 1], [0, 1]), ([2], [2]), ([], []), ([4], [4]), ([5], [5]), ([3, 6], [3, 6])])
def waystoneref07_Parse.B8 : List Nat := [0, 0, 3, 7, 0, 16, 48, 127]
theorem waystoneref07_Parse.tab8 : rtab .any (opsOf Tryz.f15 8) = waystoneref07_Parse.T8 := by kernel_rfl
theorem waystoneref07_Parse.bits8 : waitsOk waystoneref07_Parse.T8.2 waystoneref07_Parse.B8 = true := by kernel_rfl
set_option maxHeartbeats 8000000 in
set_option maxRecDepth 100000 in
theorem waystoneref07_Parse.calls (k : Nat) (a0 : ByteArray) (r1 : Int) (r2 : Int) (r3 : Int) (r4 : Int) (r5 : Int) (r6 : Int) (r7 : Int) (r8 : Int) (w : World) (h : waystoneref07_Parse.f k a0 = some (r1, r2, r3, r4, r5, r6, r7, r8)) :
  Calls Tryz.prog 15 #[.string a0] w fun e w' => e = .returned (.tuple #[.agg #[.int .i64 r1, .int .i64 r2, .int .i64 r3, .int .i64 r4, .int .u32 r5, .int .u32 r6, .int .i64 r7], .int .i64 r8]) ∧ Below w.heap.size w w' := by
 have hu27 := Tryz.underlying27
 have hu25 := Tryz.underlying25
 have HB := Aside0.mk (Below.refl w.heap.size w)
 have H : ((waystoneref07_Words.f k a0).bind fun t262 => (if (t262.length : Int) < 5 then (waystoneref07_Parse.j0 k a0 t262 true) else (waystoneref07_Parse.j0 k a0 t262 (decide ((t262.length : Int) > 6))))) = some (r1, r2, r3, r4, r5, r6, r7, r8) := h
 clear h
 replace H := Option.bind_eq_some_iff.mp H
 obtain ⟨t262, A20, H⟩ := H
 try dsimp only at H
 have A2 := Aside0.mk A20
 clear A20
 have HC3 := Aside0.mk H
 clear H
 go_enter Tryz.func15, Tryz.ntmps15
 go_upto_region 2 with (first | ((with_reducible refine gate_dst (N := 2) rfl ?_); refine box_event ?hg (N := 2) ?hd (cs := #[.int .i64 0, .int .i64 0, .int .i64 0, .int .i64 0, .int .u32 0, .int .u32 0, .int .i64 0]) (t := 27) ?hr ?_; (case hd => rfl); (case hg => rfl); (case hr => first | (go_simp; done) | (go_simp; rfl)); intro gb261 hg w4 hbox hb; have n0_ := Aside0.mk (below_step (gB HB.out) hb); have n1_ := Aside0.mk (hbox); have n2_ := Aside0.mk ((by rw [hg]; exact (below_size (gB HB.out)) : w.heap.size ≤ gb261)); have n3_ := Aside0.mk ((by rw [hg]; exact (below_size (gB HB.out)) : w.heap.size ≤ gb261)); clear HB; have HB := n0_; have BK261 := n1_; have GW261 := n2_; have GE261 := n3_; clear n0_ n1_ n2_ n3_; clear hb hbox hg) | ((with_reducible refine gate_callee (f := 61) rfl ?_); refine goesL_ (some 11) rfl rfl Tryz.func61 (by kernel_rfl) rfl #[.string a0] rfl (by (try simp only [mA_, mC_, mN_]); first|done|rfl|(simp only [lD_, lT_]; rfl)) ?_; (with_reducible refine (waystoneref07_Words.calls k a0 t262 _ A2.out).mono ?_); rintro e w5 ⟨v263, rfl, ho0, hb⟩; refine ⟨_, rfl, ?_⟩; have n0_ := Aside0.mk (Kd.R_lower ho0 (below_size (by repeat first|(with_reducible first|exact HB.out|apply ba|apply bd|apply b1|refine bs ?_ GE261.out)|exact HB.out))); have n1_ := Aside0.mk (blk_below (g := gb261) (o := .cells #[.int .i64 0, .int .i64 0, .int .i64 0, .int .i64 0, .int .u32 0, .int .u32 0, .int .i64 0] 27 (0, 0)) (gK BK261.out) hb); have n2_ := Aside0.mk (below_step (by repeat first|(with_reducible first|exact HB.out|apply ba|apply bd|apply b1|refine bs ?_ GE261.out)|exact HB.out) hb); clear BK261; clear HB; have HO264 := n0_; have BK261 := n1_; have HB := n2_; clear n0_ n1_ n2_; (try clear hb); (try clear hb2); (try clear hk); (try clear hi); (try clear ho0)))
 (try simp only [Act.put, sI_, z0_, z1_])
 go_cut [19] (fun v19 wc => ∃ (kq : Nat) (x19_2 : Bool), v19 = .bool x19_2 ∧ Aside0 (waystoneref07_Parse.j0 kq a0 t262 x19_2 = some (r1, r2, r3, r4, r5, r6, r7, r8)) ∧ Aside0 (kq ≤ k) ∧ Aside0 (Kd.R Kd.string 9 wc w.heap.size (fun _ => True) v263 t262) ∧ Aside0 (wc.heap[gb261]? = some (.cells #[.int .i64 0, .int .i64 0, .int .i64 0, .int .i64 0, .int .u32 0, .int .u32 0, .int .i64 0] 27 (0, 0))) ∧ Aside0 (Below w.heap.size w wc))
 case first =>
  have H := HC3.out
  clear HC3
  by_cases c6 : (t262.length : Int) < 5
  ·rw [if_pos c6] at H
   have c6b0 : decide ((t262.length : Int) < 5) = true := decide_eq_true c6
   have c6b1 : decide (t262.length < 5) = true := decide_eq_true (by omega)
   clear c6
   (first | rw [c6b0] | (simp only [i64_w, i32_w]; rw [c6b0]) | skip)
   have H' := Aside0.mk H
   clear H
   obtain ⟨Ao7, co7, eo7⟩ := Kd.R_slice HO264.out
   subst eo7
   go_wp2
   go_meet
   case rel => exact ⟨_, (true), (by first | rfl | (simp; done) | (simp [*]; done)), H', ⟨by first | omega | exact Nat.le_refl _⟩, ⟨gR HO264.out⟩, ⟨gK BK261.out⟩, ⟨by repeat first|(with_reducible first|exact HB.out|apply ba|apply bd|apply b1|refine bs ?_ GE261.out)|exact HB.out⟩⟩
  ·rw [if_neg c6] at H
   have c6b0 : decide ((t262.length : Int) < 5) = false := decide_eq_false c6
   have c6b1 : decide (t262.length < 5) = false := decide_eq_false (by omega)
   clear c6
   (first | rw [c6b0] | (simp only [i64_w, i32_w]; rw [c6b0]) | skip)
   have H' := Aside0.mk H
   clear H
   obtain ⟨Ao8, co8, eo8⟩ := Kd.R_slice HO264.out
   subst eo8
   go_wp2
   go_meet
   case rel => exact ⟨_, (decide ((t262.length : Int) > 6)), (by first | rfl | (simp; done) | (simp [*]; done)), H', ⟨by first | omega | exact Nat.le_refl _⟩, ⟨gR HO264.out⟩, ⟨gK BK261.out⟩, ⟨by repeat first|(with_reducible first|exact HB.out|apply ba|apply bd|apply b1|refine bs ?_ GE261.out)|exact HB.out⟩⟩
 case rest =>
  clear HC3
  try clear c1
  try clear p2
  try clear c6
  try clear c6b0
  try clear c6b1
  obtain ⟨kq, x19_2, rfl, HA, HJ2, HO_4, BK261, HB⟩ := hcut
  cases kq with
  | zero => exact absurd HA.out (by simp [waystoneref07_Parse.j0])
  | succ kj2 =>
   have H := HA.out
   clear HA
   simp only [waystoneref07_Parse.j0] at H
   by_cases c9 : x19_2 = true
   ·subst c9
    rw [if_pos rfl] at H
    simp only [Option.some.injEq, Prod.mk.injEq] at H
    obtain ⟨rfl, rfl, rfl, rfl, rfl, rfl, rfl, rfl⟩ := H
    have hcz10_0 : wc.cell? ⟨gb261, 0, none⟩ = some (.int .i64 0) := (blk_cell BK261.out 0).trans rfl
    have hcz10_1 : wc.cell? ⟨gb261, 1, none⟩ = some (.int .i64 0) := (blk_cell BK261.out 1).trans rfl
    have hcz10_2 : wc.cell? ⟨gb261, 2, none⟩ = some (.int .i64 0) := (blk_cell BK261.out 2).trans rfl
    have hcz10_3 : wc.cell? ⟨gb261, 3, none⟩ = some (.int .i64 0) := (blk_cell BK261.out 3).trans rfl
    have hcz10_4 : wc.cell? ⟨gb261, 4, none⟩ = some (.int .u32 0) := (blk_cell BK261.out 4).trans rfl
    have hcz10_5 : wc.cell? ⟨gb261, 5, none⟩ = some (.int .u32 0) := (blk_cell BK261.out 5).trans rfl
    have hcz10_6 : wc.cell? ⟨gb261, 6, none⟩ = some (.int .i64 0) := (blk_cell BK261.out 6).trans rfl
    have hfz10_0 := blk_frozen BK261.out 0
    have hfz10_1 := blk_frozen BK261.out 1
    have hfz10_2 := blk_frozen BK261.out 2
    have hfz10_3 := blk_frozen BK261.out 3
    have hfz10_4 := blk_frozen BK261.out 4
    have hfz10_5 := blk_frozen BK261.out 5
    have hfz10_6 := blk_frozen BK261.out 6
    go_wp2
    refine bodyPost_ret (results_ct rfl _ _ gb261 27 #[.int .i64 0, .int .i64 0, .int .i64 0, .int .i64 0, .int .u32 0, .int .u32 0, .int .i64 0] (0, 0) _ rfl (by (with_reducible repeat (first | refine blk_drewN ?_ _ | refine blk_drew ?_ | refine blk_alloc ?_ _)); refine blk_put (cs := #[.int .i64 0, .int .i64 0, .int .i64 0, .int .i64 0, .int .u32 0, .int .u32 0, .int .i64 0]) ?_ 6 _ rfl; (with_reducible repeat (first | refine blk_drewN ?_ _ | refine blk_drew ?_ | refine blk_alloc ?_ _)); refine blk_put (cs := #[.int .i64 0, .int .i64 0, .int .i64 0, .int .i64 0, .int .u32 0, .int .u32 0, .int .i64 0]) ?_ 5 _ rfl; (with_reducible repeat (first | refine blk_drewN ?_ _ | refine blk_drew ?_ | refine blk_alloc ?_ _)); refine blk_put (cs := #[.int .i64 0, .int .i64 0, .int .i64 0, .int .i64 0, .int .u32 0, .int .u32 0, .int .i64 0]) ?_ 4 _ rfl; (with_reducible repeat (first | refine blk_drewN ?_ _ | refine blk_drew ?_ | refine blk_alloc ?_ _)); refine blk_put (cs := #[.int .i64 0, .int .i64 0, .int .i64 0, .int .i64 0, .int .u32 0, .int .u32 0, .int .i64 0]) ?_ 3 _ rfl; (with_reducible repeat (first | refine blk_drewN ?_ _ | refine blk_drew ?_ | refine blk_alloc ?_ _)); refine blk_put (cs := #[.int .i64 0, .int .i64 0, .int .i64 0, .int .i64 0, .int .u32 0, .int .u32 0, .int .i64 0]) ?_ 2 _ rfl; (with_reducible repeat (first | refine blk_drewN ?_ _ | refine blk_drew ?_ | refine blk_alloc ?_ _)); refine blk_put (cs := #[.int .i64 0, .int .i64 0, .int .i64 0, .int .i64 0, .int .u32 0, .int .u32 0, .int .i64 0]) ?_ 1 _ rfl; (with_reducible repeat (first | refine blk_drewN ?_ _ | refine blk_drew ?_ | refine blk_alloc ?_ _)); refine blk_put (cs := #[.int .i64 0, .int .i64 0, .int .i64 0, .int .i64 0, .int .u32 0, .int .u32 0, .int .i64 0]) ?_ 0 _ rfl; (with_reducible repeat (first | refine blk_drewN ?_ _ | refine blk_drew ?_ | refine blk_alloc ?_ _)); exact BK261.out) Tryz.underlying27 rfl (by kernel_rfl)) rfl ?_
    exact ⟨by first | rfl | (simp [errW_none, errW_some] <;> rfl) | (simp [*, errW_none, errW_some] <;> rfl), by repeat first|(with_reducible first|exact HB.out|apply ba|apply bd|apply b1|refine bs ?_ GE261.out)|exact HB.out⟩
   ·replace c9 := Bool.eq_false_iff.mpr c9
    subst c9
    rw [if_neg (show ¬ (false = true) by decide)] at H
    by_cases c11 : 0 < (t262.length : Int)
    ·rw [if_pos c11] at H
     have c11b0 : decide (0 < (t262.length : Int)) = true := decide_eq_true c11
     have c11b1 : decide (0 < t262.length) = true := decide_eq_true (by omega)
     clear c11
     replace H := Option.bind_eq_some_iff.mp H
     obtain ⟨t266, A120, H⟩ := H
     try dsimp only at H
     have A12 := Aside0.mk A120
     clear A120
     by_cases c13 : 1 < (t262.length : Int)
     ·rw [if_pos c13] at H
      have c13b0 : decide (1 < (t262.length : Int)) = true := decide_eq_true c13
      have c13b1 : decide (1 < t262.length) = true := decide_eq_true (by omega)
      clear c13
      replace H := Option.bind_eq_some_iff.mp H
      obtain ⟨t268, A140, H⟩ := H
      try dsimp only at H
      have A14 := Aside0.mk A140
      clear A140
      by_cases c15 : 2 < (t262.length : Int)
      ·rw [if_pos c15] at H
       have c15b0 : decide (2 < (t262.length : Int)) = true := decide_eq_true c15
       have c15b1 : decide (2 < t262.length) = true := decide_eq_true (by omega)
       clear c15
       replace H := Option.bind_eq_some_iff.mp H
       obtain ⟨t270, A160, H⟩ := H
       try dsimp only at H
       have A16 := Aside0.mk A160
       clear A160
       have H' := Aside0.mk H
       clear H
       try go_wp2
       have n0_ := Aside0.mk (Kd.R_drew HO_4.out)
       have n1_ := Aside0.mk (blk_drew BK261.out)
       have n2_ := Aside0.mk (below_drew1 HB.out)
       clear HO_4
       clear BK261
       clear HB
       have HO_4 := n0_
       have BK261 := n1_
       have HB := n2_
       clear n0_ n1_ n2_
       obtain ⟨Ao18, co18, eo18⟩ := Kd.R_slice HO_4.out
       (first | subst eo18 | (injection eo18 with f1_ f2_ f3_; have f4_ := f1_.symm; have f5_ := f3_.symm; clear f1_ f2_ f3_; subst f4_; subst f5_))
       have p265 : 0 ≤ (0 : Int) := (by omega)
       have q265 : 0 < (t262.length : Int) := of_decide_eq_true (by first | (with_reducible assumption) | assumption)
       obtain ⟨ad265, e265, hx265_0⟩ := Kd.at_string (Kd.R_reads' HO_4.out).2.2 0 p265 q265
       cases e265
       have qi265 : (0 < t262.length) = True := eq_true (by omega)
       (try rw [show ((0 : Int)).toNat = 0 from rfl] at hx265_0)
       (try rw [Addr.add_zero'] at hx265_0)
       replace p265 := eq_true p265
       replace q265 := eq_true q265
       have p267 : 0 ≤ (1 : Int) := (by omega)
       have q267 : 1 < (t262.length : Int) := of_decide_eq_true (by first | (with_reducible assumption) | assumption)
       obtain ⟨ad267, e267, hx267_0⟩ := Kd.at_string (Kd.R_reads' HO_4.out).2.2 1 p267 q267
       obtain rfl : ad265 = ad267 := (by injection e267)
       (try simp only [show (1 : Int).toNat = 1 from rfl, Nat.reduceMul, Nat.reduceEqDiff, Go.Addr.add, ↓reduceIte] at hx267_0)
       have qi267 : (1 < t262.length) = True := eq_true (by omega)
       (try rw [show ((1 : Int)).toNat = 1 from rfl] at hx267_0)
       replace p267 := eq_true p267
       replace q267 := eq_true q267
       have p269 : 0 ≤ (2 : Int) := (by omega)
       have q269 : 2 < (t262.length : Int) := of_decide_eq_true (by first | (with_reducible assumption) | assumption)
       obtain ⟨ad269, e269, hx269_0⟩ := Kd.at_string (Kd.R_reads' HO_4.out).2.2 2 p269 q269
       obtain rfl : ad265 = ad269 := (by injection e269)
       (try simp only [show (2 : Int).toNat = 2 from rfl, Nat.reduceMul, Nat.reduceEqDiff, Go.Addr.add, ↓reduceIte] at hx269_0)
       have qi269 : (2 < t262.length) = True := eq_true (by omega)
       (try rw [show ((2 : Int)).toNat = 2 from rfl] at hx269_0)
       replace p269 := eq_true p269
       replace q269 := eq_true q269
       refine start_ (n := 15) (S := fun w' => w'.cell? ad265 = some (.string (rdOf ByteArray.empty t262 0)) ∧ w'.cell? ⟨ad265.block, ad265.off + 1, none⟩ = some (.string (rdOf ByteArray.empty t262 1)) ∧ w'.cell? ⟨ad265.block, ad265.off + 2, none⟩ = some (.string (rdOf ByteArray.empty t262 2))) (ds := []) #[false, false, false, false, false, false, false, false, false, false, false, false, false, false, false] (by kernel_rfl) rfl rfl ⟨hx265_0, hx267_0, hx269_0⟩ (fun hHeld => ?_); refine with_tabW waystoneref07_Parse.tab4 waystoneref07_Parse.bits4 (fun HT_ HW_ => ?_)
       generalize wc.drew = w17 at HO_4 BK261 HB hx265_0 hx267_0 hx269_0 hHeld ⊢
       refine pure_ (i := 0) (N := some 21) (v := ?_) (a' := ?_) #[true, false, false, false, false, false, false, false, false, false, false, false, false, false, false] rfl rfl (any_of HT_.out (by kernel_rfl)) (fun _ _ _ h => h) (Or.inl ⟨by rfl, ?_⟩) ?_ ?_
       rotate_left
       ·intro w'
        go_simp
        with_reducible rfl
       rotate_left
       ·simp only [Act.put, sI_, z0_, z1_, i64_w, i32_w]
        rfl
       refine pure_ (i := 1) (N := some 22) (v := ?_) (a' := ?_) #[true, true, false, false, false, false, false, false, false, false, false, false, false, false, false] rfl rfl (any_of HT_.out (by kernel_rfl)) (fun _ _ _ h => h) (Or.inl ⟨by rfl, ?_⟩) ?_ ?_
       rotate_left
       ·intro w'
        go_simp
        with_reducible rfl
       rotate_left
       ·simp only [Act.put, sI_, z0_, z1_, i64_w, i32_w]
        rfl
       refine pure_ (i := 4) (N := some 25) (v := ?_) (a' := ?_) #[true, true, false, false, true, false, false, false, false, false, false, false, false, false, false] rfl rfl (any_of HT_.out (by kernel_rfl)) (fun _ _ _ h => h) (Or.inl ⟨by rfl, ?_⟩) ?_ ?_
       rotate_left
       ·intro w'
        go_simp
        with_reducible rfl
       rotate_left
       ·simp only [Act.put, sI_, z0_, z1_, i64_w, i32_w]
        rfl
       refine pure_ (i := 5) (N := some 26) (v := ?_) (a' := ?_) #[true, true, false, false, true, true, false, false, false, false, false, false, false, false, false] rfl rfl (any_of HT_.out (by kernel_rfl)) (fun _ _ _ h => h) (Or.inl ⟨by rfl, ?_⟩) ?_ ?_
       rotate_left
       ·intro w'
        go_simp
        with_reducible rfl
       rotate_left
       ·simp only [Act.put, sI_, z0_, z1_, i64_w, i32_w]
        rfl
       refine pure_ (i := 8) (N := some 29) (v := ?_) (a' := ?_) #[true, true, false, false, true, true, false, false, true, false, false, false, false, false, false] rfl rfl (any_of HT_.out (by kernel_rfl)) (fun _ _ _ h => h) (Or.inl ⟨by rfl, ?_⟩) ?_ ?_
       rotate_left
       ·intro w'
        go_simp
        with_reducible rfl
       rotate_left
       ·simp only [Act.put, sI_, z0_, z1_, i64_w, i32_w]
        rfl
       refine pure_ (i := 9) (N := some 30) (v := ?_) (a' := ?_) #[true, true, false, false, true, true, false, false, true, true, false, false, false, false, false] rfl rfl (any_of HT_.out (by kernel_rfl)) (fun _ _ _ h => h) (Or.inl ⟨by rfl, ?_⟩) ?_ ?_
       rotate_left
       ·intro w'
        go_simp
        with_reducible rfl
       rotate_left
       ·simp only [Act.put, sI_, z0_, z1_, i64_w, i32_w]
        rfl
       refine take_ (i := 2) (N := some 23) (v := ?_) (a' := ?_) #[true, true, true, false, true, true, false, false, true, true, false, false, false, false, false] rfl rfl (take_ofW HT_.out HW_.out (by kernel_rfl)) (fun _ _ _ h => h) (Or.inl ⟨by rfl, ?_⟩) hHeld ?_ ?_
       rotate_left
       ·rintro w' ⟨s0, s1, s2⟩
        go_simp
        with_reducible rfl
       rotate_left
       ·simp only [Act.put, sI_, z0_, z1_, i64_w, i32_w]
        rfl
       refine take_ (i := 6) (N := some 27) (v := ?_) (a' := ?_) #[true, true, true, false, true, true, true, false, true, true, false, false, false, false, false] rfl rfl (take_ofW HT_.out HW_.out (by kernel_rfl)) (fun _ _ _ h => h) (Or.inl ⟨by rfl, ?_⟩) hHeld ?_ ?_
       rotate_left
       ·rintro w' ⟨s0, s1, s2⟩
        go_simp
        with_reducible rfl
       rotate_left
       ·simp only [Act.put, sI_, z0_, z1_, i64_w, i32_w]
        rfl
       refine take_ (i := 10) (N := some 31) (v := ?_) (a' := ?_) #[true, true, true, false, true, true, true, false, true, true, true, false, false, false, false] rfl rfl (take_ofW HT_.out HW_.out (by kernel_rfl)) (fun _ _ _ h => h) (Or.inl ⟨by rfl, ?_⟩) hHeld ?_ ?_
       rotate_left
       ·rintro w' ⟨s0, s1, s2⟩
        go_simp
        with_reducible rfl
       rotate_left
       ·simp only [Act.put, sI_, z0_, z1_, i64_w, i32_w]
        rfl
       refine join_ (σ := Nat) 1 #[true, true, true, true, true, true, true, true, true, true, true, true, true, true, false] (fun s_ => [(24, .int .i64 t266), (28, .int .i64 t268), (32, .int .i64 t270), (5, .pointer (some ⟨s_, 0, none⟩)), (33, .agg #[.int .i64 t266, .int .i64 t268, .int .i64 t270, .int .i64 0, .int .u32 0, .int .u32 0, .int .i64 0])]) (fun s_ w' => (w'.cell? ad265 = some (.string (rdOf ByteArray.empty t262 0)) ∧ w'.cell? ⟨ad265.block, ad265.off + 1, none⟩ = some (.string (rdOf ByteArray.empty t262 1)) ∧ w'.cell? ⟨ad265.block, ad265.off + 2, none⟩ = some (.string (rdOf ByteArray.empty t262 2))) ∧ (Kd.R Kd.string 9 w' w.heap.size (fun _ => True) (.slice (some ad265) t262.length co18) t262) ∧ (w'.heap[gb261]? = some (.cells #[.int .i64 0, .int .i64 0, .int .i64 0, .int .i64 0, .int .u32 0, .int .u32 0, .int .i64 0] 27 (0, 0))) ∧ (w'.heap[s_]? = some (.cells #[.int .i64 0, .int .i64 0, .int .i64 0, .int .i64 0, .int .u32 0, .int .u32 0, .int .i64 0] 27 (0, 0))) ∧ (w.heap.size ≤ s_) ∧ (w.heap.size ≤ s_) ∧ (gb261 ≠ s_) ∧ (s_ ≠ gb261) ∧ (Below w.heap.size w w')) ?_ ?_
       rotate_left
       ·intro hCont
        refine two_ (i := 3) (j := 13) (Ni := some 24) (Nj := some 5) #[true, true, true, true, true, true, true, false, true, true, true, false, false, false, false] #[true, true, true, false, true, true, true, false, true, true, true, false, false, true, false] rfl rfl rfl rfl (two_of HT_.out (by kernel_rfl)) (by decide) (by decide) (fun K hK => ?_) (fun K hK => ?_)
        ·skip
         refine goes_ Tryz.func62 (by kernel_rfl) rfl #[.string (rdOf ByteArray.empty t262 0), .int .i64 1048576] (by rfl) rfl rfl (by (try simp only [mA_, mC_, mN_]); first|done|rfl|(simp only [lD_, lT_]; rfl)) ?_
         with_reducible refine (waystoneref02_Number.calls kj2 (rdOf ByteArray.empty t262 0) 1048576 t266 _ A12.out).mono ?_
         rintro e w' ⟨rfl, ⟨nd, rfl⟩⟩
         refine ⟨_, rfl, ?_⟩
         refine hK.out _ _ ⟨hHeld.1, hHeld.2.1, hHeld.2.2⟩ (fun hHeld => ?_)
         clear hK K
         refine norm_ (a' := ?_) ?_ ?_
         rotate_left
         ·show Act.put _ (some 24) _ = _
          simp only [Act.put, sI_, z0_, z1_, i64_w, i32_w]
          rfl
         refine two_ (i := 7) (j := 13) (Ni := some 28) (Nj := some 5) #[true, true, true, true, true, true, true, true, true, true, true, false, false, false, false] #[true, true, true, true, true, true, true, false, true, true, true, false, false, true, false] rfl rfl rfl rfl (two_of HT_.out (by kernel_rfl)) (by decide) (by decide) (fun K hK => ?_) (fun K hK => ?_)
         ·skip
          refine goes_ Tryz.func62 (by kernel_rfl) rfl #[.string (rdOf ByteArray.empty t262 1), .int .i64 9] (by rfl) rfl rfl (by (try simp only [mA_, mC_, mN_]); first|done|rfl|(simp only [lD_, lT_]; rfl)) ?_
          with_reducible refine (waystoneref02_Number.calls kj2 (rdOf ByteArray.empty t262 1) 9 t268 _ A14.out).mono ?_
          rintro e w' ⟨rfl, ⟨nd, rfl⟩⟩
          refine ⟨_, rfl, ?_⟩
          refine hK.out _ _ ⟨hHeld.1, hHeld.2.1, hHeld.2.2⟩ (fun hHeld => ?_)
          clear hK K
          refine norm_ (a' := ?_) ?_ ?_
          rotate_left
          ·show Act.put _ (some 28) _ = _
           simp only [Act.put, sI_, z0_, z1_, i64_w, i32_w]
           rfl
          refine two_ (i := 11) (j := 13) (Ni := some 32) (Nj := some 5) #[true, true, true, true, true, true, true, true, true, true, true, true, false, false, false] #[true, true, true, true, true, true, true, true, true, true, true, false, false, true, false] rfl rfl rfl rfl (two_of HT_.out (by kernel_rfl)) (by decide) (by decide) (fun K hK => ?_) (fun K hK => ?_)
          ·skip
           refine goes_ Tryz.func62 (by kernel_rfl) rfl #[.string (rdOf ByteArray.empty t262 2), .int .i64 1024] (by rfl) rfl rfl (by (try simp only [mA_, mC_, mN_]); first|done|rfl|(simp only [lD_, lT_]; rfl)) ?_
           with_reducible refine (waystoneref02_Number.calls kj2 (rdOf ByteArray.empty t262 2) 1024 t270 _ A16.out).mono ?_
           rintro e w' ⟨rfl, ⟨nd, rfl⟩⟩
           refine ⟨_, rfl, ?_⟩
           refine hK.out _ _ ⟨hHeld.1, hHeld.2.1, hHeld.2.2⟩ (fun hHeld => ?_)
           clear hK K
           refine norm_ (a' := ?_) ?_ ?_
           rotate_left
           ·show Act.put _ (some 32) _ = _
            simp only [Act.put, sI_, z0_, z1_, i64_w, i32_w]
            rfl
           refine pure_ (i := 12) (N := some 33) (v := ?_) (a' := ?_) #[true, true, true, true, true, true, true, true, true, true, true, true, true, false, false] rfl rfl (any_of HT_.out (by kernel_rfl)) (fun _ _ _ h => h) (Or.inl ⟨by rfl, ?_⟩) ?_ ?_
           rotate_left
           ·intro w'
            go_simp
            with_reducible rfl
           rotate_left
           ·simp only [Act.put, sI_, z0_, z1_, i64_w, i32_w]
            rfl
           refine one_ (i := 13) (N := some 5) #[true, true, true, true, true, true, true, true, true, true, true, true, true, true, false] rfl rfl (one_of HT_.out (by kernel_rfl)) (by decide) (fun K hK => ?_)
           refine box_step ?hg (N := 5) ?hd (cs := #[.int .i64 0, .int .i64 0, .int .i64 0, .int .i64 0, .int .u32 0, .int .u32 0, .int .i64 0]) (t := 27) ?hr ?_; (case hd => rfl); (case hg => rfl); (case hr => first | (go_simp; done) | (go_simp; rfl))
           intro gb271 hg w19 hbox hb
           have HS0_ := (hb.cell (World.block_lt_of_cell? _ _ (hHeld.1))).trans (hHeld.1)
           have HS1_ := (hb.cell (World.block_lt_of_cell? _ _ (hHeld.2.1))).trans (hHeld.2.1)
           have HS2_ := (hb.cell (World.block_lt_of_cell? _ _ (hHeld.2.2))).trans (hHeld.2.2)
           have n0_ := Aside0.mk (Kd.R_below (gR HO_4.out) hb)
           have n1_ := Aside0.mk (blk_below (g := gb261) (o := .cells #[.int .i64 0, .int .i64 0, .int .i64 0, .int .i64 0, .int .u32 0, .int .u32 0, .int .i64 0] 27 (0, 0)) (gK BK261.out) hb)
           have n2_ := Aside0.mk (below_step (by repeat first|(with_reducible first|exact HB.out|apply ba|apply bd|apply b1|refine bs ?_ GE261.out)|exact HB.out) hb)
           have n3_ := Aside0.mk (hbox)
           have n4_ := Aside0.mk ((by rw [hg]; exact (below_size (by repeat first|(with_reducible first|exact HB.out|apply ba|apply bd|apply b1|refine bs ?_ GE261.out)|exact HB.out)) : w.heap.size ≤ gb271))
           have n5_ := Aside0.mk ((by rw [hg]; exact (below_size (by repeat first|(with_reducible first|exact HB.out|apply ba|apply bd|apply b1|refine bs ?_ GE261.out)|exact HB.out)) : w.heap.size ≤ gb271))
           have n6_ := Aside0.mk ((by rw [hg]; exact Nat.ne_of_lt (blk_lt (g := gb261) (o := .cells #[.int .i64 0, .int .i64 0, .int .i64 0, .int .i64 0, .int .u32 0, .int .u32 0, .int .i64 0] 27 (0, 0)) (gK BK261.out)) : gb261 ≠ gb271))
           have n7_ := Aside0.mk ((by rw [hg]; exact Nat.ne_of_gt (blk_lt (g := gb261) (o := .cells #[.int .i64 0, .int .i64 0, .int .i64 0, .int .i64 0, .int .u32 0, .int .u32 0, .int .i64 0] 27 (0, 0)) (gK BK261.out)) : gb271 ≠ gb261))
           clear HO_4
           clear BK261
           clear HB
           have HO_4 := n0_
           have BK261 := n1_
           have HB := n2_
           have BK271 := n3_
           have GW271 := n4_
           have GE271 := n5_
           have NB261_271 := n6_
           have NB271_261 := n7_
           clear n0_ n1_ n2_ n3_ n4_ n5_ n6_ n7_
           clear hb hbox hg
           refine hK.out _ _ ⟨HS0_, HS1_, HS2_⟩ (fun hHeld => ?_)
           clear hK K
           refine norm_ (a' := ?_) ?_ ?_
           rotate_left
           ·show Act.put _ (some 5) _ = _
            simp only [Act.put, sI_, z0_, z1_, i64_w, i32_w]
            rfl
           exact norm_ (by simp only [putAll, Act.put, sI_, z0_, z1_]) (hCont (gb271) _ ⟨hHeld, (gR HO_4.out), (gK BK261.out), (gK BK271.out), GW271.out, GE271.out, NB261_271.out, NB271_261.out, (by repeat first|(with_reducible first|exact HB.out|apply ba|apply bd|apply b1|refine bs ?_ GE261.out|refine bs ?_ GE271.out)|exact HB.out)⟩)
          ·skip
           refine box_step ?hg (N := 5) ?hd (cs := #[.int .i64 0, .int .i64 0, .int .i64 0, .int .i64 0, .int .u32 0, .int .u32 0, .int .i64 0]) (t := 27) ?hr ?_; (case hd => rfl); (case hg => rfl); (case hr => first | (go_simp; done) | (go_simp; rfl))
           intro gb271 hg w19 hbox hb
           have HS0_ := (hb.cell (World.block_lt_of_cell? _ _ (hHeld.1))).trans (hHeld.1)
           have HS1_ := (hb.cell (World.block_lt_of_cell? _ _ (hHeld.2.1))).trans (hHeld.2.1)
           have HS2_ := (hb.cell (World.block_lt_of_cell? _ _ (hHeld.2.2))).trans (hHeld.2.2)
           have n0_ := Aside0.mk (Kd.R_below (gR HO_4.out) hb)
           have n1_ := Aside0.mk (blk_below (g := gb261) (o := .cells #[.int .i64 0, .int .i64 0, .int .i64 0, .int .i64 0, .int .u32 0, .int .u32 0, .int .i64 0] 27 (0, 0)) (gK BK261.out) hb)
           have n2_ := Aside0.mk (below_step (by repeat first|(with_reducible first|exact HB.out|apply ba|apply bd|apply b1|refine bs ?_ GE261.out)|exact HB.out) hb)
           have n3_ := Aside0.mk (hbox)
           have n4_ := Aside0.mk ((by rw [hg]; exact (below_size (by repeat first|(with_reducible first|exact HB.out|apply ba|apply bd|apply b1|refine bs ?_ GE261.out)|exact HB.out)) : w.heap.size ≤ gb271))
           have n5_ := Aside0.mk ((by rw [hg]; exact (below_size (by repeat first|(with_reducible first|exact HB.out|apply ba|apply bd|apply b1|refine bs ?_ GE261.out)|exact HB.out)) : w.heap.size ≤ gb271))
           have n6_ := Aside0.mk ((by rw [hg]; exact Nat.ne_of_lt (blk_lt (g := gb261) (o := .cells #[.int .i64 0, .int .i64 0, .int .i64 0, .int .i64 0, .int .u32 0, .int .u32 0, .int .i64 0] 27 (0, 0)) (gK BK261.out)) : gb261 ≠ gb271))
           have n7_ := Aside0.mk ((by rw [hg]; exact Nat.ne_of_gt (blk_lt (g := gb261) (o := .cells #[.int .i64 0, .int .i64 0, .int .i64 0, .int .i64 0, .int .u32 0, .int .u32 0, .int .i64 0] 27 (0, 0)) (gK BK261.out)) : gb271 ≠ gb261))
           clear HO_4
           clear BK261
           clear HB
           have HO_4 := n0_
           have BK261 := n1_
           have HB := n2_
           have BK271 := n3_
           have GW271 := n4_
           have GE271 := n5_
           have NB261_271 := n6_
           have NB271_261 := n7_
           clear n0_ n1_ n2_ n3_ n4_ n5_ n6_ n7_
           clear hb hbox hg
           refine hK.out _ _ ⟨HS0_, HS1_, HS2_⟩ (fun hHeld => ?_)
           clear hK K
           refine norm_ (a' := ?_) ?_ ?_
           rotate_left
           ·show Act.put _ (some 5) _ = _
            simp only [Act.put, sI_, z0_, z1_, i64_w, i32_w]
            rfl
           refine one_ (i := 11) (N := some 32) #[true, true, true, true, true, true, true, true, true, true, true, true, false, true, false] rfl rfl (one_of HT_.out (by kernel_rfl)) (by decide) (fun K hK => ?_)
           refine goes_ Tryz.func62 (by kernel_rfl) rfl #[.string (rdOf ByteArray.empty t262 2), .int .i64 1024] (by rfl) rfl rfl (by (try simp only [mA_, mC_, mN_]); first|done|rfl|(simp only [lD_, lT_]; rfl)) ?_
           with_reducible refine (waystoneref02_Number.calls kj2 (rdOf ByteArray.empty t262 2) 1024 t270 _ A16.out).mono ?_
           rintro e w' ⟨rfl, ⟨nd, rfl⟩⟩
           refine ⟨_, rfl, ?_⟩
           refine hK.out _ _ ⟨hHeld.1, hHeld.2.1, hHeld.2.2⟩ (fun hHeld => ?_)
           clear hK K
           refine norm_ (a' := ?_) ?_ ?_
           rotate_left
           ·show Act.put _ (some 32) _ = _
            simp only [Act.put, sI_, z0_, z1_, i64_w, i32_w]
            rfl
           refine pure_ (i := 12) (N := some 33) (v := ?_) (a' := ?_) #[true, true, true, true, true, true, true, true, true, true, true, true, true, true, false] rfl rfl (any_of HT_.out (by kernel_rfl)) (fun _ _ _ h => h) (Or.inl ⟨by rfl, ?_⟩) ?_ ?_
           rotate_left
           ·intro w'
            go_simp
            with_reducible rfl
           rotate_left
           ·simp only [Act.put, sI_, z0_, z1_, i64_w, i32_w]
            rfl
           exact norm_ (by simp only [putAll, Act.put, sI_, z0_, z1_]) (hCont (gb271) _ ⟨hHeld, (gR HO_4.out), (gK BK261.out), (gK BK271.out), GW271.out, GE271.out, NB261_271.out, NB271_261.out, (by repeat first|(with_reducible first|exact HB.out|apply ba|apply bd|apply b1|refine bs ?_ GE261.out|refine bs ?_ GE271.out)|exact HB.out)⟩)
         ·skip
          refine box_step ?hg (N := 5) ?hd (cs := #[.int .i64 0, .int .i64 0, .int .i64 0, .int .i64 0, .int .u32 0, .int .u32 0, .int .i64 0]) (t := 27) ?hr ?_; (case hd => rfl); (case hg => rfl); (case hr => first | (go_simp; done) | (go_simp; rfl))
          intro gb271 hg w19 hbox hb
          have HS0_ := (hb.cell (World.block_lt_of_cell? _ _ (hHeld.1))).trans (hHeld.1)
          have HS1_ := (hb.cell (World.block_lt_of_cell? _ _ (hHeld.2.1))).trans (hHeld.2.1)
          have HS2_ := (hb.cell (World.block_lt_of_cell? _ _ (hHeld.2.2))).trans (hHeld.2.2)
          have n0_ := Aside0.mk (Kd.R_below (gR HO_4.out) hb)
          have n1_ := Aside0.mk (blk_below (g := gb261) (o := .cells #[.int .i64 0, .int .i64 0, .int .i64 0, .int .i64 0, .int .u32 0, .int .u32 0, .int .i64 0] 27 (0, 0)) (gK BK261.out) hb)
          have n2_ := Aside0.mk (below_step (by repeat first|(with_reducible first|exact HB.out|apply ba|apply bd|apply b1|refine bs ?_ GE261.out)|exact HB.out) hb)
          have n3_ := Aside0.mk (hbox)
          have n4_ := Aside0.mk ((by rw [hg]; exact (below_size (by repeat first|(with_reducible first|exact HB.out|apply ba|apply bd|apply b1|refine bs ?_ GE261.out)|exact HB.out)) : w.heap.size ≤ gb271))
          have n5_ := Aside0.mk ((by rw [hg]; exact (below_size (by repeat first|(with_reducible first|exact HB.out|apply ba|apply bd|apply b1|refine bs ?_ GE261.out)|exact HB.out)) : w.heap.size ≤ gb271))
          have n6_ := Aside0.mk ((by rw [hg]; exact Nat.ne_of_lt (blk_lt (g := gb261) (o := .cells #[.int .i64 0, .int .i64 0, .int .i64 0, .int .i64 0, .int .u32 0, .int .u32 0, .int .i64 0] 27 (0, 0)) (gK BK261.out)) : gb261 ≠ gb271))
          have n7_ := Aside0.mk ((by rw [hg]; exact Nat.ne_of_gt (blk_lt (g := gb261) (o := .cells #[.int .i64 0, .int .i64 0, .int .i64 0, .int .i64 0, .int .u32 0, .int .u32 0, .int .i64 0] 27 (0, 0)) (gK BK261.out)) : gb271 ≠ gb261))
          clear HO_4
          clear BK261
          clear HB
          have HO_4 := n0_
          have BK261 := n1_
          have HB := n2_
          have BK271 := n3_
          have GW271 := n4_
          have GE271 := n5_
          have NB261_271 := n6_
          have NB271_261 := n7_
          clear n0_ n1_ n2_ n3_ n4_ n5_ n6_ n7_
          clear hb hbox hg
          refine hK.out _ _ ⟨HS0_, HS1_, HS2_⟩ (fun hHeld => ?_)
          clear hK K
          refine norm_ (a' := ?_) ?_ ?_
          rotate_left
          ·show Act.put _ (some 5) _ = _
           simp only [Act.put, sI_, z0_, z1_, i64_w, i32_w]
           rfl
          refine one_ (i := 7) (N := some 28) #[true, true, true, true, true, true, true, true, true, true, true, false, false, true, false] rfl rfl (one_of HT_.out (by kernel_rfl)) (by decide) (fun K hK => ?_)
          refine goes_ Tryz.func62 (by kernel_rfl) rfl #[.string (rdOf ByteArray.empty t262 1), .int .i64 9] (by rfl) rfl rfl (by (try simp only [mA_, mC_, mN_]); first|done|rfl|(simp only [lD_, lT_]; rfl)) ?_
          with_reducible refine (waystoneref02_Number.calls kj2 (rdOf ByteArray.empty t262 1) 9 t268 _ A14.out).mono ?_
          rintro e w' ⟨rfl, ⟨nd, rfl⟩⟩
          refine ⟨_, rfl, ?_⟩
          refine hK.out _ _ ⟨hHeld.1, hHeld.2.1, hHeld.2.2⟩ (fun hHeld => ?_)
          clear hK K
          refine norm_ (a' := ?_) ?_ ?_
          rotate_left
          ·show Act.put _ (some 28) _ = _
           simp only [Act.put, sI_, z0_, z1_, i64_w, i32_w]
           rfl
          refine one_ (i := 11) (N := some 32) #[true, true, true, true, true, true, true, true, true, true, true, true, false, true, false] rfl rfl (one_of HT_.out (by kernel_rfl)) (by decide) (fun K hK => ?_)
          refine goes_ Tryz.func62 (by kernel_rfl) rfl #[.string (rdOf ByteArray.empty t262 2), .int .i64 1024] (by rfl) rfl rfl (by (try simp only [mA_, mC_, mN_]); first|done|rfl|(simp only [lD_, lT_]; rfl)) ?_
          with_reducible refine (waystoneref02_Number.calls kj2 (rdOf ByteArray.empty t262 2) 1024 t270 _ A16.out).mono ?_
          rintro e w' ⟨rfl, ⟨nd, rfl⟩⟩
          refine ⟨_, rfl, ?_⟩
          refine hK.out _ _ ⟨hHeld.1, hHeld.2.1, hHeld.2.2⟩ (fun hHeld => ?_)
          clear hK K
          refine norm_ (a' := ?_) ?_ ?_
          rotate_left
          ·show Act.put _ (some 32) _ = _
           simp only [Act.put, sI_, z0_, z1_, i64_w, i32_w]
           rfl
          refine pure_ (i := 12) (N := some 33) (v := ?_) (a' := ?_) #[true, true, true, true, true, true, true, true, true, true, true, true, true, true, false] rfl rfl (any_of HT_.out (by kernel_rfl)) (fun _ _ _ h => h) (Or.inl ⟨by rfl, ?_⟩) ?_ ?_
          rotate_left
          ·intro w'
           go_simp
           with_reducible rfl
          rotate_left
          ·simp only [Act.put, sI_, z0_, z1_, i64_w, i32_w]
           rfl
          exact norm_ (by simp only [putAll, Act.put, sI_, z0_, z1_]) (hCont (gb271) _ ⟨hHeld, (gR HO_4.out), (gK BK261.out), (gK BK271.out), GW271.out, GE271.out, NB261_271.out, NB271_261.out, (by repeat first|(with_reducible first|exact HB.out|apply ba|apply bd|apply b1|refine bs ?_ GE261.out|refine bs ?_ GE271.out)|exact HB.out)⟩)
        ·skip
         refine box_step ?hg (N := 5) ?hd (cs := #[.int .i64 0, .int .i64 0, .int .i64 0, .int .i64 0, .int .u32 0, .int .u32 0, .int .i64 0]) (t := 27) ?hr ?_; (case hd => rfl); (case hg => rfl); (case hr => first | (go_simp; done) | (go_simp; rfl))
         intro gb271 hg w19 hbox hb
         have HS0_ := (hb.cell (World.block_lt_of_cell? _ _ (hHeld.1))).trans (hHeld.1)
         have HS1_ := (hb.cell (World.block_lt_of_cell? _ _ (hHeld.2.1))).trans (hHeld.2.1)
         have HS2_ := (hb.cell (World.block_lt_of_cell? _ _ (hHeld.2.2))).trans (hHeld.2.2)
         have n0_ := Aside0.mk (Kd.R_below (gR HO_4.out) hb)
         have n1_ := Aside0.mk (blk_below (g := gb261) (o := .cells #[.int .i64 0, .int .i64 0, .int .i64 0, .int .i64 0, .int .u32 0, .int .u32 0, .int .i64 0] 27 (0, 0)) (gK BK261.out) hb)
         have n2_ := Aside0.mk (below_step (by repeat first|(with_reducible first|exact HB.out|apply ba|apply bd|apply b1|refine bs ?_ GE261.out)|exact HB.out) hb)
         have n3_ := Aside0.mk (hbox)
         have n4_ := Aside0.mk ((by rw [hg]; exact (below_size (by repeat first|(with_reducible first|exact HB.out|apply ba|apply bd|apply b1|refine bs ?_ GE261.out)|exact HB.out)) : w.heap.size ≤ gb271))
         have n5_ := Aside0.mk ((by rw [hg]; exact (below_size (by repeat first|(with_reducible first|exact HB.out|apply ba|apply bd|apply b1|refine bs ?_ GE261.out)|exact HB.out)) : w.heap.size ≤ gb271))
         have n6_ := Aside0.mk ((by rw [hg]; exact Nat.ne_of_lt (blk_lt (g := gb261) (o := .cells #[.int .i64 0, .int .i64 0, .int .i64 0, .int .i64 0, .int .u32 0, .int .u32 0, .int .i64 0] 27 (0, 0)) (gK BK261.out)) : gb261 ≠ gb271))
         have n7_ := Aside0.mk ((by rw [hg]; exact Nat.ne_of_gt (blk_lt (g := gb261) (o := .cells #[.int .i64 0, .int .i64 0, .int .i64 0, .int .i64 0, .int .u32 0, .int .u32 0, .int .i64 0] 27 (0, 0)) (gK BK261.out)) : gb271 ≠ gb261))
         clear HO_4
         clear BK261
         clear HB
         have HO_4 := n0_
         have BK261 := n1_
         have HB := n2_
         have BK271 := n3_
         have GW271 := n4_
         have GE271 := n5_
         have NB261_271 := n6_
         have NB271_261 := n7_
         clear n0_ n1_ n2_ n3_ n4_ n5_ n6_ n7_
         clear hb hbox hg
         refine hK.out _ _ ⟨HS0_, HS1_, HS2_⟩ (fun hHeld => ?_)
         clear hK K
         refine norm_ (a' := ?_) ?_ ?_
         rotate_left
         ·show Act.put _ (some 5) _ = _
          simp only [Act.put, sI_, z0_, z1_, i64_w, i32_w]
          rfl
         refine one_ (i := 3) (N := some 24) #[true, true, true, true, true, true, true, false, true, true, true, false, false, true, false] rfl rfl (one_of HT_.out (by kernel_rfl)) (by decide) (fun K hK => ?_)
         refine goes_ Tryz.func62 (by kernel_rfl) rfl #[.string (rdOf ByteArray.empty t262 0), .int .i64 1048576] (by rfl) rfl rfl (by (try simp only [mA_, mC_, mN_]); first|done|rfl|(simp only [lD_, lT_]; rfl)) ?_
         with_reducible refine (waystoneref02_Number.calls kj2 (rdOf ByteArray.empty t262 0) 1048576 t266 _ A12.out).mono ?_
         rintro e w' ⟨rfl, ⟨nd, rfl⟩⟩
         refine ⟨_, rfl, ?_⟩
         refine hK.out _ _ ⟨hHeld.1, hHeld.2.1, hHeld.2.2⟩ (fun hHeld => ?_)
         clear hK K
         refine norm_ (a' := ?_) ?_ ?_
         rotate_left
         ·show Act.put _ (some 24) _ = _
          simp only [Act.put, sI_, z0_, z1_, i64_w, i32_w]
          rfl
         refine one_ (i := 7) (N := some 28) #[true, true, true, true, true, true, true, true, true, true, true, false, false, true, false] rfl rfl (one_of HT_.out (by kernel_rfl)) (by decide) (fun K hK => ?_)
         refine goes_ Tryz.func62 (by kernel_rfl) rfl #[.string (rdOf ByteArray.empty t262 1), .int .i64 9] (by rfl) rfl rfl (by (try simp only [mA_, mC_, mN_]); first|done|rfl|(simp only [lD_, lT_]; rfl)) ?_
         with_reducible refine (waystoneref02_Number.calls kj2 (rdOf ByteArray.empty t262 1) 9 t268 _ A14.out).mono ?_
         rintro e w' ⟨rfl, ⟨nd, rfl⟩⟩
         refine ⟨_, rfl, ?_⟩
         refine hK.out _ _ ⟨hHeld.1, hHeld.2.1, hHeld.2.2⟩ (fun hHeld => ?_)
         clear hK K
         refine norm_ (a' := ?_) ?_ ?_
         rotate_left
         ·show Act.put _ (some 28) _ = _
          simp only [Act.put, sI_, z0_, z1_, i64_w, i32_w]
          rfl
         refine one_ (i := 11) (N := some 32) #[true, true, true, true, true, true, true, true, true, true, true, true, false, true, false] rfl rfl (one_of HT_.out (by kernel_rfl)) (by decide) (fun K hK => ?_)
         refine goes_ Tryz.func62 (by kernel_rfl) rfl #[.string (rdOf ByteArray.empty t262 2), .int .i64 1024] (by rfl) rfl rfl (by (try simp only [mA_, mC_, mN_]); first|done|rfl|(simp only [lD_, lT_]; rfl)) ?_
         with_reducible refine (waystoneref02_Number.calls kj2 (rdOf ByteArray.empty t262 2) 1024 t270 _ A16.out).mono ?_
         rintro e w' ⟨rfl, ⟨nd, rfl⟩⟩
         refine ⟨_, rfl, ?_⟩
         refine hK.out _ _ ⟨hHeld.1, hHeld.2.1, hHeld.2.2⟩ (fun hHeld => ?_)
         clear hK K
         refine norm_ (a' := ?_) ?_ ?_
         rotate_left
         ·show Act.put _ (some 32) _ = _
          simp only [Act.put, sI_, z0_, z1_, i64_w, i32_w]
          rfl
         refine pure_ (i := 12) (N := some 33) (v := ?_) (a' := ?_) #[true, true, true, true, true, true, true, true, true, true, true, true, true, true, false] rfl rfl (any_of HT_.out (by kernel_rfl)) (fun _ _ _ h => h) (Or.inl ⟨by rfl, ?_⟩) ?_ ?_
         rotate_left
         ·intro w'
          go_simp
          with_reducible rfl
         rotate_left
         ·simp only [Act.put, sI_, z0_, z1_, i64_w, i32_w]
          rfl
         exact norm_ (by simp only [putAll, Act.put, sI_, z0_, z1_]) (hCont (gb271) _ ⟨hHeld, (gR HO_4.out), (gK BK261.out), (gK BK271.out), GW271.out, GE271.out, NB261_271.out, NB271_261.out, (by repeat first|(with_reducible first|exact HB.out|apply ba|apply bd|apply b1|refine bs ?_ GE261.out|refine bs ?_ GE271.out)|exact HB.out)⟩)
       rintro gb271 w20 ⟨hS_, h0_, h1_, h2_, h3_, h4_, h5_, h6_, h7_⟩
       have n0_ : Aside0 (Kd.R Kd.string 9 w20 w.heap.size (fun _ => True) (.slice (some ad265) t262.length co18) t262) := ⟨h0_⟩
       have n1_ : Aside0 (w20.heap[gb261]? = some (.cells #[.int .i64 0, .int .i64 0, .int .i64 0, .int .i64 0, .int .u32 0, .int .u32 0, .int .i64 0] 27 (0, 0))) := ⟨h1_⟩
       have n2_ : Aside0 (w20.heap[gb271]? = some (.cells #[.int .i64 0, .int .i64 0, .int .i64 0, .int .i64 0, .int .u32 0, .int .u32 0, .int .i64 0] 27 (0, 0))) := ⟨h2_⟩
       have n3_ : Aside0 (w.heap.size ≤ gb271) := ⟨h3_⟩
       have n4_ : Aside0 (w.heap.size ≤ gb271) := ⟨h4_⟩
       have n5_ : Aside0 (gb261 ≠ gb271) := ⟨h5_⟩
       have n6_ : Aside0 (gb271 ≠ gb261) := ⟨h6_⟩
       have n7_ : Aside0 (Below w.heap.size w w20) := ⟨h7_⟩
       clear HO_4
       clear BK261
       clear HB
       clear h0_ h1_ h2_ h3_ h4_ h5_ h6_ h7_
       have HO_4 := n0_
       have BK261 := n1_
       have BK271 := n2_
       have GW271 := n3_
       have GE271 := n4_
       have NB261_271 := n5_
       have NB271_261 := n6_
       have HB := n7_
       clear n0_ n1_ n2_ n3_ n4_ n5_ n6_ n7_
       have hHeld : w20.cell? ad265 = some (.string (rdOf ByteArray.empty t262 0)) ∧ w20.cell? ⟨ad265.block, ad265.off + 1, none⟩ = some (.string (rdOf ByteArray.empty t262 1)) ∧ w20.cell? ⟨ad265.block, ad265.off + 2, none⟩ = some (.string (rdOf ByteArray.empty t262 2)) := hS_
       refine norm_ (a' := ?_) ?_ ?_
       rotate_left
       ·simp only [putAll, Act.put, sI_, z0_, z1_]
        rfl
       refine one_ (i := 14) (N := none) #[true, true, true, true, true, true, true, true, true, true, true, true, true, true, true] rfl rfl (one_of HT_.out (by kernel_rfl)) (by decide) (fun K hK => ?_)
       have hs21 : w20.cell? ⟨gb271, 0, none⟩ = some (.int .i64 0) := (blk_cell BK271.out 0).trans rfl
       have hfs21 := blk_frozen BK271.out 0
       have hns21_0 := NB261_271.out
       have hms21_0 := NB271_261.out
       have hs22 : w20.cell? ⟨gb271, 1, none⟩ = some (.int .i64 0) := (blk_cell BK271.out 1).trans rfl
       have hfs22 := blk_frozen BK271.out 1
       have hns22_0 := NB261_271.out
       have hms22_0 := NB271_261.out
       have hs23 : w20.cell? ⟨gb271, 2, none⟩ = some (.int .i64 0) := (blk_cell BK271.out 2).trans rfl
       have hfs23 := blk_frozen BK271.out 2
       have hns23_0 := NB261_271.out
       have hms23_0 := NB271_261.out
       have hs24 : w20.cell? ⟨gb271, 3, none⟩ = some (.int .i64 0) := (blk_cell BK271.out 3).trans rfl
       have hfs24 := blk_frozen BK271.out 3
       have hns24_0 := NB261_271.out
       have hms24_0 := NB271_261.out
       have hs25 : w20.cell? ⟨gb271, 4, none⟩ = some (.int .u32 0) := (blk_cell BK271.out 4).trans rfl
       have hfs25 := blk_frozen BK271.out 4
       have hns25_0 := NB261_271.out
       have hms25_0 := NB271_261.out
       have hs26 : w20.cell? ⟨gb271, 5, none⟩ = some (.int .u32 0) := (blk_cell BK271.out 5).trans rfl
       have hfs26 := blk_frozen BK271.out 5
       have hns26_0 := NB261_271.out
       have hms26_0 := NB271_261.out
       have hs27 : w20.cell? ⟨gb271, 6, none⟩ = some (.int .i64 0) := (blk_cell BK271.out 6).trans rfl
       have hfs27 := blk_frozen BK271.out 6
       have hns27_0 := NB261_271.out
       have hms27_0 := NB271_261.out
       refine skip_ (w1 := ?_) (by rfl) rfl ?_ ?_
       rotate_left
       ·go_simp
        rfl
       refine hK.out _ _ ⟨((cell_far (p := ⟨gb271, _, none⟩) (by first | exact Kd.own_blk (Kd.R_ne HO_4.out BK271.out (by decide)) | (rw [add_block]; exact Kd.own_blk (Kd.R_ne HO_4.out BK271.out (by decide))) | (show (Addr.add _ _).block ≠ _; rw [add_block]; exact Kd.own_blk (Kd.R_ne HO_4.out BK271.out (by decide))) | (dsimp only; exact Kd.own_blk (Kd.R_ne HO_4.out BK271.out (by decide)))) _).trans (((cell_far (p := ⟨gb271, _, none⟩) (by first | exact Kd.own_blk (Kd.R_ne HO_4.out BK271.out (by decide)) | (rw [add_block]; exact Kd.own_blk (Kd.R_ne HO_4.out BK271.out (by decide))) | (show (Addr.add _ _).block ≠ _; rw [add_block]; exact Kd.own_blk (Kd.R_ne HO_4.out BK271.out (by decide))) | (dsimp only; exact Kd.own_blk (Kd.R_ne HO_4.out BK271.out (by decide)))) _).trans (((cell_far (p := ⟨gb271, _, none⟩) (by first | exact Kd.own_blk (Kd.R_ne HO_4.out BK271.out (by decide)) | (rw [add_block]; exact Kd.own_blk (Kd.R_ne HO_4.out BK271.out (by decide))) | (show (Addr.add _ _).block ≠ _; rw [add_block]; exact Kd.own_blk (Kd.R_ne HO_4.out BK271.out (by decide))) | (dsimp only; exact Kd.own_blk (Kd.R_ne HO_4.out BK271.out (by decide)))) _).trans (((cell_far (p := ⟨gb271, _, none⟩) (by first | exact Kd.own_blk (Kd.R_ne HO_4.out BK271.out (by decide)) | (rw [add_block]; exact Kd.own_blk (Kd.R_ne HO_4.out BK271.out (by decide))) | (show (Addr.add _ _).block ≠ _; rw [add_block]; exact Kd.own_blk (Kd.R_ne HO_4.out BK271.out (by decide))) | (dsimp only; exact Kd.own_blk (Kd.R_ne HO_4.out BK271.out (by decide)))) _).trans (((cell_far (p := ⟨gb271, _, none⟩) (by first | exact Kd.own_blk (Kd.R_ne HO_4.out BK271.out (by decide)) | (rw [add_block]; exact Kd.own_blk (Kd.R_ne HO_4.out BK271.out (by decide))) | (show (Addr.add _ _).block ≠ _; rw [add_block]; exact Kd.own_blk (Kd.R_ne HO_4.out BK271.out (by decide))) | (dsimp only; exact Kd.own_blk (Kd.R_ne HO_4.out BK271.out (by decide)))) _).trans (((cell_far (p := ⟨gb271, _, none⟩) (by first | exact Kd.own_blk (Kd.R_ne HO_4.out BK271.out (by decide)) | (rw [add_block]; exact Kd.own_blk (Kd.R_ne HO_4.out BK271.out (by decide))) | (show (Addr.add _ _).block ≠ _; rw [add_block]; exact Kd.own_blk (Kd.R_ne HO_4.out BK271.out (by decide))) | (dsimp only; exact Kd.own_blk (Kd.R_ne HO_4.out BK271.out (by decide)))) _).trans (((cell_far (p := ⟨gb271, _, none⟩) (by first | exact Kd.own_blk (Kd.R_ne HO_4.out BK271.out (by decide)) | (rw [add_block]; exact Kd.own_blk (Kd.R_ne HO_4.out BK271.out (by decide))) | (show (Addr.add _ _).block ≠ _; rw [add_block]; exact Kd.own_blk (Kd.R_ne HO_4.out BK271.out (by decide))) | (dsimp only; exact Kd.own_blk (Kd.R_ne HO_4.out BK271.out (by decide)))) _).trans (hHeld.1)))))))))))))), ((cell_far (p := ⟨gb271, _, none⟩) (by first | exact Kd.own_blk (Kd.R_ne HO_4.out BK271.out (by decide)) | (rw [add_block]; exact Kd.own_blk (Kd.R_ne HO_4.out BK271.out (by decide))) | (show (Addr.add _ _).block ≠ _; rw [add_block]; exact Kd.own_blk (Kd.R_ne HO_4.out BK271.out (by decide))) | (dsimp only; exact Kd.own_blk (Kd.R_ne HO_4.out BK271.out (by decide)))) _).trans (((cell_far (p := ⟨gb271, _, none⟩) (by first | exact Kd.own_blk (Kd.R_ne HO_4.out BK271.out (by decide)) | (rw [add_block]; exact Kd.own_blk (Kd.R_ne HO_4.out BK271.out (by decide))) | (show (Addr.add _ _).block ≠ _; rw [add_block]; exact Kd.own_blk (Kd.R_ne HO_4.out BK271.out (by decide))) | (dsimp only; exact Kd.own_blk (Kd.R_ne HO_4.out BK271.out (by decide)))) _).trans (((cell_far (p := ⟨gb271, _, none⟩) (by first | exact Kd.own_blk (Kd.R_ne HO_4.out BK271.out (by decide)) | (rw [add_block]; exact Kd.own_blk (Kd.R_ne HO_4.out BK271.out (by decide))) | (show (Addr.add _ _).block ≠ _; rw [add_block]; exact Kd.own_blk (Kd.R_ne HO_4.out BK271.out (by decide))) | (dsimp only; exact Kd.own_blk (Kd.R_ne HO_4.out BK271.out (by decide)))) _).trans (((cell_far (p := ⟨gb271, _, none⟩) (by first | exact Kd.own_blk (Kd.R_ne HO_4.out BK271.out (by decide)) | (rw [add_block]; exact Kd.own_blk (Kd.R_ne HO_4.out BK271.out (by decide))) | (show (Addr.add _ _).block ≠ _; rw [add_block]; exact Kd.own_blk (Kd.R_ne HO_4.out BK271.out (by decide))) | (dsimp only; exact Kd.own_blk (Kd.R_ne HO_4.out BK271.out (by decide)))) _).trans (((cell_far (p := ⟨gb271, _, none⟩) (by first | exact Kd.own_blk (Kd.R_ne HO_4.out BK271.out (by decide)) | (rw [add_block]; exact Kd.own_blk (Kd.R_ne HO_4.out BK271.out (by decide))) | (show (Addr.add _ _).block ≠ _; rw [add_block]; exact Kd.own_blk (Kd.R_ne HO_4.out BK271.out (by decide))) | (dsimp only; exact Kd.own_blk (Kd.R_ne HO_4.out BK271.out (by decide)))) _).trans (((cell_far (p := ⟨gb271, _, none⟩) (by first | exact Kd.own_blk (Kd.R_ne HO_4.out BK271.out (by decide)) | (rw [add_block]; exact Kd.own_blk (Kd.R_ne HO_4.out BK271.out (by decide))) | (show (Addr.add _ _).block ≠ _; rw [add_block]; exact Kd.own_blk (Kd.R_ne HO_4.out BK271.out (by decide))) | (dsimp only; exact Kd.own_blk (Kd.R_ne HO_4.out BK271.out (by decide)))) _).trans (((cell_far (p := ⟨gb271, _, none⟩) (by first | exact Kd.own_blk (Kd.R_ne HO_4.out BK271.out (by decide)) | (rw [add_block]; exact Kd.own_blk (Kd.R_ne HO_4.out BK271.out (by decide))) | (show (Addr.add _ _).block ≠ _; rw [add_block]; exact Kd.own_blk (Kd.R_ne HO_4.out BK271.out (by decide))) | (dsimp only; exact Kd.own_blk (Kd.R_ne HO_4.out BK271.out (by decide)))) _).trans (hHeld.2.1)))))))))))))), ((cell_far (p := ⟨gb271, _, none⟩) (by first | exact Kd.own_blk (Kd.R_ne HO_4.out BK271.out (by decide)) | (rw [add_block]; exact Kd.own_blk (Kd.R_ne HO_4.out BK271.out (by decide))) | (show (Addr.add _ _).block ≠ _; rw [add_block]; exact Kd.own_blk (Kd.R_ne HO_4.out BK271.out (by decide))) | (dsimp only; exact Kd.own_blk (Kd.R_ne HO_4.out BK271.out (by decide)))) _).trans (((cell_far (p := ⟨gb271, _, none⟩) (by first | exact Kd.own_blk (Kd.R_ne HO_4.out BK271.out (by decide)) | (rw [add_block]; exact Kd.own_blk (Kd.R_ne HO_4.out BK271.out (by decide))) | (show (Addr.add _ _).block ≠ _; rw [add_block]; exact Kd.own_blk (Kd.R_ne HO_4.out BK271.out (by decide))) | (dsimp only; exact Kd.own_blk (Kd.R_ne HO_4.out BK271.out (by decide)))) _).trans (((cell_far (p := ⟨gb271, _, none⟩) (by first | exact Kd.own_blk (Kd.R_ne HO_4.out BK271.out (by decide)) | (rw [add_block]; exact Kd.own_blk (Kd.R_ne HO_4.out BK271.out (by decide))) | (show (Addr.add _ _).block ≠ _; rw [add_block]; exact Kd.own_blk (Kd.R_ne HO_4.out BK271.out (by decide))) | (dsimp only; exact Kd.own_blk (Kd.R_ne HO_4.out BK271.out (by decide)))) _).trans (((cell_far (p := ⟨gb271, _, none⟩) (by first | exact Kd.own_blk (Kd.R_ne HO_4.out BK271.out (by decide)) | (rw [add_block]; exact Kd.own_blk (Kd.R_ne HO_4.out BK271.out (by decide))) | (show (Addr.add _ _).block ≠ _; rw [add_block]; exact Kd.own_blk (Kd.R_ne HO_4.out BK271.out (by decide))) | (dsimp only; exact Kd.own_blk (Kd.R_ne HO_4.out BK271.out (by decide)))) _).trans (((cell_far (p := ⟨gb271, _, none⟩) (by first | exact Kd.own_blk (Kd.R_ne HO_4.out BK271.out (by decide)) | (rw [add_block]; exact Kd.own_blk (Kd.R_ne HO_4.out BK271.out (by decide))) | (show (Addr.add _ _).block ≠ _; rw [add_block]; exact Kd.own_blk (Kd.R_ne HO_4.out BK271.out (by decide))) | (dsimp only; exact Kd.own_blk (Kd.R_ne HO_4.out BK271.out (by decide)))) _).trans (((cell_far (p := ⟨gb271, _, none⟩) (by first | exact Kd.own_blk (Kd.R_ne HO_4.out BK271.out (by decide)) | (rw [add_block]; exact Kd.own_blk (Kd.R_ne HO_4.out BK271.out (by decide))) | (show (Addr.add _ _).block ≠ _; rw [add_block]; exact Kd.own_blk (Kd.R_ne HO_4.out BK271.out (by decide))) | (dsimp only; exact Kd.own_blk (Kd.R_ne HO_4.out BK271.out (by decide)))) _).trans (((cell_far (p := ⟨gb271, _, none⟩) (by first | exact Kd.own_blk (Kd.R_ne HO_4.out BK271.out (by decide)) | (rw [add_block]; exact Kd.own_blk (Kd.R_ne HO_4.out BK271.out (by decide))) | (show (Addr.add _ _).block ≠ _; rw [add_block]; exact Kd.own_blk (Kd.R_ne HO_4.out BK271.out (by decide))) | (dsimp only; exact Kd.own_blk (Kd.R_ne HO_4.out BK271.out (by decide)))) _).trans (hHeld.2.2))))))))))))))⟩ (fun hHeld => ?_)
       clear hK K
       refine done_ (done_of HT_.out (by kernel_rfl)) ?_
       try go_wp2
       go_loopg [6] kj2 (fun kq v6 w' => ∃ (x6_2 : Int) (x272003_2 : Int), v6 = .int .i64 x6_2 ∧ Aside0 (waystoneref07_Parse.l0 kq a0 t262 x6_2 t266 t268 t270 x272003_2 0 0 0 = some (r1, r2, r3, r4, r5, r6, r7, r8)) ∧ Aside0 (kq ≤ kj2) ∧ Aside0 (Kd.R Kd.string 9 w' w.heap.size (fun _ => True) (.slice (some ad265) t262.length co18) t262) ∧ Aside0 (w'.heap[gb261]? = some (.cells #[.int .i64 0, .int .i64 0, .int .i64 0, .int .i64 0, .int .u32 0, .int .u32 0, .int .i64 0] 27 (0, 0))) ∧ Aside0 (w'.heap[gb271]? = some (.cells #[.int .i64 t266, .int .i64 t268, .int .i64 t270, .int .i64 x272003_2, .int .u32 0, .int .u32 0, .int .i64 0] 27 (0, 0))) ∧ Aside0 (Below w.heap.size w w'))
       case atStart => exact ⟨(0), (0), (by first | rfl | (simp; done) | (simp [*]; done)), H', ⟨Nat.le_refl _⟩, ⟨by (with_reducible repeat (first | apply Kd.R_alloc | apply Kd.R_drewN | apply Kd.R_drew)); exact Kd.R_mono (Kd.R_far (p := ⟨gb271, 6, none⟩) (Kd.R_far (p := ⟨gb271, 5, none⟩) (Kd.R_far (p := ⟨gb271, 4, none⟩) (Kd.R_far (p := ⟨gb271, 3, none⟩) (Kd.R_far (p := ⟨gb271, 2, none⟩) (Kd.R_far (p := ⟨gb271, 1, none⟩) (Kd.R_far (p := ⟨gb271, 0, none⟩) (Kd.R_types HO_4.out BK271.out (by decide)) (fun _ hk => hk.2) (.int .i64 t266)) (fun _ hk => hk.2) (.int .i64 t268)) (fun _ hk => hk.2) (.int .i64 t270)) (fun _ hk => hk.2) (.int .i64 0)) (fun _ hk => hk.2) (.int .u32 0)) (fun _ hk => hk.2) (.int .u32 0)) (fun _ hk => hk.2) (.int .i64 0)) (fun _ hk => trivial)⟩, ⟨by (with_reducible repeat (first | refine blk_drewN ?_ _ | refine blk_drew ?_ | refine blk_alloc ?_ _)); refine blk_far ?_ NB261_271.out _; (with_reducible repeat (first | refine blk_drewN ?_ _ | refine blk_drew ?_ | refine blk_alloc ?_ _)); refine blk_far ?_ NB261_271.out _; (with_reducible repeat (first | refine blk_drewN ?_ _ | refine blk_drew ?_ | refine blk_alloc ?_ _)); refine blk_far ?_ NB261_271.out _; (with_reducible repeat (first | refine blk_drewN ?_ _ | refine blk_drew ?_ | refine blk_alloc ?_ _)); refine blk_far ?_ NB261_271.out _; (with_reducible repeat (first | refine blk_drewN ?_ _ | refine blk_drew ?_ | refine blk_alloc ?_ _)); refine blk_far ?_ NB261_271.out _; (with_reducible repeat (first | refine blk_drewN ?_ _ | refine blk_drew ?_ | refine blk_alloc ?_ _)); refine blk_far ?_ NB261_271.out _; (with_reducible repeat (first | refine blk_drewN ?_ _ | refine blk_drew ?_ | refine blk_alloc ?_ _)); refine blk_far ?_ NB261_271.out _; (with_reducible repeat (first | refine blk_drewN ?_ _ | refine blk_drew ?_ | refine blk_alloc ?_ _)); exact BK261.out⟩, ⟨by (with_reducible repeat (first | refine blk_drewN ?_ _ | refine blk_drew ?_ | refine blk_alloc ?_ _)); refine blk_put (cs := #[.int .i64 t266, .int .i64 t268, .int .i64 t270, .int .i64 0, .int .u32 0, .int .u32 0, .int .i64 0]) ?_ 6 _ rfl; (with_reducible repeat (first | refine blk_drewN ?_ _ | refine blk_drew ?_ | refine blk_alloc ?_ _)); refine blk_put (cs := #[.int .i64 t266, .int .i64 t268, .int .i64 t270, .int .i64 0, .int .u32 0, .int .u32 0, .int .i64 0]) ?_ 5 _ rfl; (with_reducible repeat (first | refine blk_drewN ?_ _ | refine blk_drew ?_ | refine blk_alloc ?_ _)); refine blk_put (cs := #[.int .i64 t266, .int .i64 t268, .int .i64 t270, .int .i64 0, .int .u32 0, .int .u32 0, .int .i64 0]) ?_ 4 _ rfl; (with_reducible repeat (first | refine blk_drewN ?_ _ | refine blk_drew ?_ | refine blk_alloc ?_ _)); refine blk_put (cs := #[.int .i64 t266, .int .i64 t268, .int .i64 t270, .int .i64 0, .int .u32 0, .int .u32 0, .int .i64 0]) ?_ 3 _ rfl; (with_reducible repeat (first | refine blk_drewN ?_ _ | refine blk_drew ?_ | refine blk_alloc ?_ _)); refine blk_put (cs := #[.int .i64 t266, .int .i64 t268, .int .i64 0, .int .i64 0, .int .u32 0, .int .u32 0, .int .i64 0]) ?_ 2 _ rfl; (with_reducible repeat (first | refine blk_drewN ?_ _ | refine blk_drew ?_ | refine blk_alloc ?_ _)); refine blk_put (cs := #[.int .i64 t266, .int .i64 0, .int .i64 0, .int .i64 0, .int .u32 0, .int .u32 0, .int .i64 0]) ?_ 1 _ rfl; (with_reducible repeat (first | refine blk_drewN ?_ _ | refine blk_drew ?_ | refine blk_alloc ?_ _)); refine blk_put (cs := #[.int .i64 0, .int .i64 0, .int .i64 0, .int .i64 0, .int .u32 0, .int .u32 0, .int .i64 0]) ?_ 0 _ rfl; (with_reducible repeat (first | refine blk_drewN ?_ _ | refine blk_drew ?_ | refine blk_alloc ?_ _)); exact BK271.out⟩, ⟨by repeat first|(with_reducible first|exact HB.out|apply ba|apply bd|apply b1|refine bs ?_ GE261.out|refine bs ?_ GE271.out)|exact HB.out⟩⟩
       case round =>
        clear H'
        try clear c1
        try clear p2
        try clear q2
        try clear hx2
        try clear qi2
        try clear c6
        try clear c6b0
        try clear c6b1
        try clear c9
        try clear c11
        try clear c11b0
        try clear c11b1
        try clear c13
        try clear c13b0
        try clear c13b1
        try clear c15
        try clear c15b0
        try clear c15b1
        try clear p26
        try clear q26
        try clear hx26
        try clear qi26
        try clear hcz10_0
        try clear hcz10_1
        try clear hcz10_2
        try clear hcz10_3
        try clear hcz10_4
        try clear hcz10_5
        try clear hcz10_6
        try clear hfz10_0
        try clear hfz10_1
        try clear hfz10_2
        try clear hfz10_3
        try clear hfz10_4
        try clear hfz10_5
        try clear hfz10_6
        try clear hx265_0
        try clear hx267_0
        try clear hx269_0
        try clear p2
        try clear p265
        try clear p267
        try clear p269
        try clear q265
        try clear q267
        try clear q269
        obtain ⟨x6_2, x272003_2, rfl, HA, HK2, HO_4, BK261, BK271, HB⟩ := hrel
        cases gk with
        | zero => exact absurd HA.out (by simp [waystoneref07_Parse.l0])
        | succ k2 =>
         have H := HA.out
         clear HA
         simp only [waystoneref07_Parse.l0] at H
         by_cases c28 : x6_2 < 4
         ·rw [if_pos c28] at H
          have c28b0 : decide (x6_2 < 4) = true := decide_eq_true c28
          clear c28
          replace H := Option.bind_eq_some_iff.mp H
          obtain ⟨t272, A290, H⟩ := H
          try dsimp only at H
          have A29 := Aside0.mk A290
          clear A290
          by_cases c30 : 0 ≤ x6_2
          ·rw [if_pos c30] at H
           have c30b0 : decide (0 ≤ x6_2) = true := decide_eq_true c30
           clear c30
           by_cases c31 : x6_2 < (t272.length : Int)
           ·rw [if_pos c31] at H
            have c31b0 : decide (x6_2 < (t272.length : Int)) = true := decide_eq_true c31
            clear c31
            by_cases c32 : 3 < (t262.length : Int)
            ·rw [if_pos c32] at H
             have c32b0 : decide (3 < (t262.length : Int)) = true := decide_eq_true c32
             have c32b1 : decide (3 < t262.length) = true := decide_eq_true (by omega)
             clear c32
             by_cases c33 : (rdOf ByteArray.empty t272 x6_2).toList = (rdOf ByteArray.empty t262 3).toList
             ·rw [if_pos c33] at H
              have c33b0 : ((rdOf ByteArray.empty t272 x6_2).toList == (rdOf ByteArray.empty t262 3).toList) = true := beq_iff_eq.mpr c33
              have c33b1 : ((rdOf ByteArray.empty t272 x6_2).toList != (rdOf ByteArray.empty t262 3).toList) = false := bne_eq_false_iff_eq.mpr c33
              clear c33
              have H' := Aside0.mk H
              clear H
              try go_wp2
              have n0_ := Aside0.mk (Kd.R_drew HO_4.out)
              have n1_ := Aside0.mk (blk_drew BK261.out)
              have n2_ := Aside0.mk (blk_drew BK271.out)
              have n3_ := Aside0.mk (below_drew1 HB.out)
              clear HO_4
              clear BK261
              clear BK271
              clear HB
              have HO_4 := n0_
              have BK261 := n1_
              have BK271 := n2_
              have HB := n3_
              clear n0_ n1_ n2_ n3_
              have p276 : 0 ≤ (3 : Int) := (by omega)
              have q276 : 3 < (t262.length : Int) := of_decide_eq_true (by first | (with_reducible assumption) | assumption)
              obtain ⟨ad276, e276, hx276_0⟩ := Kd.at_string (Kd.R_reads' HO_4.out).2.2 3 p276 q276
              obtain rfl : ad265 = ad276 := (by injection e276)
              (try simp only [show (3 : Int).toNat = 3 from rfl, Nat.reduceMul, Nat.reduceEqDiff, Go.Addr.add, ↓reduceIte] at hx276_0)
              have qi276 : (3 < t262.length) = True := eq_true (by omega)
              (try rw [show ((3 : Int)).toNat = 3 from rfl] at hx276_0)
              replace p276 := eq_true p276
              replace q276 := eq_true q276
              refine start_ (n := 8) (S := fun w' => w'.cell? ⟨ad265.block, ad265.off + 3, none⟩ = some (.string (rdOf ByteArray.empty t262 3))) (ds := []) #[false, false, false, false, false, false, false, false] (by kernel_rfl) rfl rfl (hx276_0) (fun hHeld => ?_); refine with_tabW waystoneref07_Parse.tab8 waystoneref07_Parse.bits8 (fun HT_ HW_ => ?_)
              generalize wr.drew = w34 at HO_4 BK261 BK271 HB hx276_0 hHeld ⊢
              refine pure_ (i := 1) (N := some 39) (v := ?_) (a' := ?_) #[false, true, false, false, false, false, false, false] rfl rfl (any_of HT_.out (by kernel_rfl)) (fun _ _ _ h => h) (Or.inl ⟨by rfl, ?_⟩) ?_ ?_
              rotate_left
              ·intro w'
               go_simp
               with_reducible rfl
              rotate_left
              ·simp only [Act.put, sI_, z0_, z1_, i64_w, i32_w]
               rfl
              refine pure_ (i := 4) (N := some 42) (v := ?_) (a' := ?_) #[false, true, false, false, true, false, false, false] rfl rfl (any_of HT_.out (by kernel_rfl)) (fun _ _ _ h => h) (Or.inl ⟨by rfl, ?_⟩) ?_ ?_
              rotate_left
              ·intro w'
               go_simp
               with_reducible rfl
              rotate_left
              ·simp only [Act.put, sI_, z0_, z1_, i64_w, i32_w]
               rfl
              refine pure_ (i := 5) (N := some 43) (v := ?_) (a' := ?_) #[false, true, false, false, true, true, false, false] rfl rfl (any_of HT_.out (by kernel_rfl)) (fun _ _ _ h => h) (Or.inl ⟨by rfl, ?_⟩) ?_ ?_
              rotate_left
              ·intro w'
               go_simp
               with_reducible rfl
              rotate_left
              ·simp only [Act.put, sI_, z0_, z1_, i64_w, i32_w]
               rfl
              refine take_ (i := 6) (N := some 44) (v := ?_) (a' := ?_) #[false, true, false, false, true, true, true, false] rfl rfl (take_ofW HT_.out HW_.out (by kernel_rfl)) (fun _ _ _ h => h) (Or.inl ⟨by rfl, ?_⟩) hHeld ?_ ?_
              rotate_left
              ·intro w' s0
               go_simp
               with_reducible rfl
              rotate_left
              ·simp only [Act.put, sI_, z0_, z1_, i64_w, i32_w]
               rfl
              refine one_ (i := 0) (N := some 38) #[true, true, false, false, true, true, true, false] rfl rfl (one_of HT_.out (by kernel_rfl)) (by decide) (fun K hK => ?_)
              refine goes_ Tryz.func52 (by kernel_rfl) rfl #[] (by rfl) rfl rfl (by (try simp only [mA_, mC_, mN_]); first|done|rfl|(simp only [lD_, lT_]; rfl)) ?_
              with_reducible refine (waystoneref07_Kinds.calls  t272 _ A29.out).mono ?_
              rintro e w35 ⟨v273, rfl, ho0, hb⟩
              have HS0_ := (hb.cell (World.block_lt_of_cell? _ _ (hHeld))).trans (hHeld)
              skip
              refine ⟨_, rfl, ?_⟩
              have n0_ := Aside0.mk (Kd.R_elder' (gR HO_4.out) (Kd.R_base ho0) hb)
              have n1_ := Aside0.mk (Kd.R_lower (Kd.R_new' ho0 (Kd.R_lt (gR HO_4.out))) (below_size (by repeat first|(with_reducible first|exact HB.out|apply ba|apply bd|apply b1|refine bs ?_ GE261.out|refine bs ?_ GE271.out)|exact HB.out)))
              have n2_ := Aside0.mk (blk_below (g := gb261) (o := .cells #[.int .i64 0, .int .i64 0, .int .i64 0, .int .i64 0, .int .u32 0, .int .u32 0, .int .i64 0] 27 (0, 0)) (gK BK261.out) hb)
              have n3_ := Aside0.mk (blk_below (g := gb271) (o := .cells #[.int .i64 t266, .int .i64 t268, .int .i64 t270, .int .i64 x272003_2, .int .u32 0, .int .u32 0, .int .i64 0] 27 (0, 0)) (gK BK271.out) hb)
              have n4_ := Aside0.mk (below_step (by repeat first|(with_reducible first|exact HB.out|apply ba|apply bd|apply b1|refine bs ?_ GE261.out|refine bs ?_ GE271.out)|exact HB.out) hb)
              clear HO_4
              clear BK261
              clear BK271
              clear HB
              have HO_4 := n0_
              have HO274 := n1_
              have BK261 := n2_
              have BK271 := n3_
              have HB := n4_
              clear n0_ n1_ n2_ n3_ n4_
              (try clear hb)
              (try clear hb2)
              (try clear hk)
              (try clear hi)
              (try clear ho0)
              obtain ⟨Ao36, co36, eo36⟩ := Kd.R_slice HO274.out
              (first | subst eo36 | (injection eo36 with f1_ f2_ f3_; have f4_ := f1_.symm; have f5_ := f3_.symm; clear f1_ f2_ f3_; subst f4_; subst f5_))
              have p275 : 0 ≤ (x6_2 : Int) := of_decide_eq_true (by first | (with_reducible assumption) | assumption)
              have q275 : x6_2 < (t272.length : Int) := of_decide_eq_true (by first | (with_reducible assumption) | assumption)
              obtain ⟨ad275, e275, hx275_0⟩ := Kd.at_string (Kd.R_reads' HO274.out).2.2 x6_2 p275 q275
              cases e275
              replace p275 := eq_true p275
              replace q275 := eq_true q275
              refine hK.out _ _ (HS0_) (fun hHeld => ?_)
              clear hHeld
              refine switch_ (S' := fun w' => w'.cell? ⟨ad265.block, ad265.off + 3, none⟩ = some (.string (rdOf ByteArray.empty t262 3)) ∧ w'.cell? (ad275.add (x6_2).toNat) = some (.string (rdOf ByteArray.empty t272 x6_2))) (fun _ h_ => h_.1) ⟨HS0_, hx275_0⟩ (fun hHeld => ?_)
              clear hK K
              refine norm_ (a' := ?_) ?_ ?_
              rotate_left
              ·show Act.put _ (some 38) _ = _
               simp only [Act.put, sI_, z0_, z1_, i64_w, i32_w]
               rfl
              refine pure_ (i := 2) (N := some 40) (v := ?_) (a' := ?_) #[true, true, true, false, true, true, true, false] rfl rfl (any_of HT_.out (by kernel_rfl)) (fun _ _ _ h => h) (Or.inl ⟨by rfl, ?_⟩) ?_ ?_
              rotate_left
              ·intro w'
               go_simp
               with_reducible rfl
              rotate_left
              ·simp only [Act.put, sI_, z0_, z1_, i64_w, i32_w]
               rfl
              refine take_ (i := 3) (N := some 41) (v := ?_) (a' := ?_) #[true, true, true, true, true, true, true, false] rfl rfl (take_ofW HT_.out HW_.out (by kernel_rfl)) (fun _ _ _ h => h) (Or.inl ⟨by rfl, ?_⟩) hHeld ?_ ?_
              rotate_left
              ·rintro w' ⟨s0, s1⟩
               go_simp
               with_reducible rfl
              rotate_left
              ·simp only [Act.put, sI_, z0_, z1_, i64_w, i32_w]
               rfl
              refine pure_ (i := 7) (N := some 45) (v := ?_) (a' := ?_) #[true, true, true, true, true, true, true, true] rfl rfl (any_of HT_.out (by kernel_rfl)) (fun _ _ _ h => h) (Or.inl ⟨by rfl, ?_⟩) ?_ ?_
              rotate_left
              ·intro w'
               go_simp
               with_reducible rfl
              rotate_left
              ·simp only [Act.put, sI_, z0_, z1_, i64_w, i32_w]
               rfl
              refine done_ (done_of HT_.out (by kernel_rfl)) ?_
              have hnb37 := NB271_261.out
              have hnc37 := NB261_271.out
              have hcz38_0 : w35.cell? ⟨gb271, 0, none⟩ = some (.int .i64 t266) := (blk_cell BK271.out 0).trans rfl
              have hcz38_1 : w35.cell? ⟨gb271, 1, none⟩ = some (.int .i64 t268) := (blk_cell BK271.out 1).trans rfl
              have hcz38_2 : w35.cell? ⟨gb271, 2, none⟩ = some (.int .i64 t270) := (blk_cell BK271.out 2).trans rfl
              have hcz38_3 : w35.cell? ⟨gb271, 3, none⟩ = some (.int .i64 x272003_2) := (blk_cell BK271.out 3).trans rfl
              have hcz38_4 : w35.cell? ⟨gb271, 4, none⟩ = some (.int .u32 0) := (blk_cell BK271.out 4).trans rfl
              have hcz38_5 : w35.cell? ⟨gb271, 5, none⟩ = some (.int .u32 0) := (blk_cell BK271.out 5).trans rfl
              have hcz38_6 : w35.cell? ⟨gb271, 6, none⟩ = some (.int .i64 0) := (blk_cell BK271.out 6).trans rfl
              have hfz38_0 := blk_frozen BK271.out 0
              have hfz38_1 := blk_frozen BK271.out 1
              have hfz38_2 := blk_frozen BK271.out 2
              have hfz38_3 := blk_frozen BK271.out 3
              have hfz38_4 := blk_frozen BK271.out 4
              have hfz38_5 := blk_frozen BK271.out 5
              have hfz38_6 := blk_frozen BK271.out 6
              try go_wp2
              go_roundg k2
              case measure => have := HJ2.out; have := HK2.out; omega
              case rel => exact ⟨(wrap64 (x6_2 + 1)), (x6_2), (by first | rfl | (simp; done) | (simp [*]; done)), H', ⟨by have := HJ2.out; have := HK2.out; omega⟩, ⟨by (with_reducible repeat (first | apply Kd.R_alloc | apply Kd.R_drewN | apply Kd.R_drew)); exact Kd.R_mono (Kd.R_far (p := ⟨gb271, 3, none⟩) (Kd.R_types HO_4.out BK271.out (by decide)) (fun _ hk => hk.2) (.int .i64 x6_2)) (fun _ hk => trivial)⟩, ⟨by (with_reducible repeat (first | refine blk_drewN ?_ _ | refine blk_drew ?_ | refine blk_alloc ?_ _)); refine blk_far ?_ NB261_271.out _; (with_reducible repeat (first | refine blk_drewN ?_ _ | refine blk_drew ?_ | refine blk_alloc ?_ _)); exact BK261.out⟩, ⟨by (with_reducible repeat (first | refine blk_drewN ?_ _ | refine blk_drew ?_ | refine blk_alloc ?_ _)); refine blk_put (cs := #[.int .i64 t266, .int .i64 t268, .int .i64 t270, .int .i64 x272003_2, .int .u32 0, .int .u32 0, .int .i64 0]) ?_ 3 _ rfl; (with_reducible repeat (first | refine blk_drewN ?_ _ | refine blk_drew ?_ | refine blk_alloc ?_ _)); exact BK271.out⟩, ⟨by repeat first|(with_reducible first|exact HB.out|apply ba|apply bd|apply b1|refine bs ?_ GE261.out|refine bs ?_ GE271.out)|exact HB.out⟩⟩
             ·rw [if_neg c33] at H
              have c33b0 : ((rdOf ByteArray.empty t272 x6_2).toList == (rdOf ByteArray.empty t262 3).toList) = false := beq_eq_false_iff_ne.mpr c33
              have c33b1 : ((rdOf ByteArray.empty t272 x6_2).toList != (rdOf ByteArray.empty t262 3).toList) = true := bne_iff_ne.mpr c33
              have H' := Aside0.mk H
              clear H
              try go_wp2
              have n0_ := Aside0.mk (Kd.R_drew HO_4.out)
              have n1_ := Aside0.mk (blk_drew BK261.out)
              have n2_ := Aside0.mk (blk_drew BK271.out)
              have n3_ := Aside0.mk (below_drew1 HB.out)
              clear HO_4
              clear BK261
              clear BK271
              clear HB
              have HO_4 := n0_
              have BK261 := n1_
              have BK271 := n2_
              have HB := n3_
              clear n0_ n1_ n2_ n3_
              have p276 : 0 ≤ (3 : Int) := (by omega)
              have q276 : 3 < (t262.length : Int) := of_decide_eq_true (by first | (with_reducible assumption) | assumption)
              obtain ⟨ad276, e276, hx276_0⟩ := Kd.at_string (Kd.R_reads' HO_4.out).2.2 3 p276 q276
              obtain rfl : ad265 = ad276 := (by injection e276)
              (try simp only [show (3 : Int).toNat = 3 from rfl, Nat.reduceMul, Nat.reduceEqDiff, Go.Addr.add, ↓reduceIte] at hx276_0)
              have qi276 : (3 < t262.length) = True := eq_true (by omega)
              (try rw [show ((3 : Int)).toNat = 3 from rfl] at hx276_0)
              replace p276 := eq_true p276
              replace q276 := eq_true q276
              refine start_ (n := 8) (S := fun w' => w'.cell? ⟨ad265.block, ad265.off + 3, none⟩ = some (.string (rdOf ByteArray.empty t262 3))) (ds := []) #[false, false, false, false, false, false, false, false] (by kernel_rfl) rfl rfl (hx276_0) (fun hHeld => ?_); refine with_tabW waystoneref07_Parse.tab8 waystoneref07_Parse.bits8 (fun HT_ HW_ => ?_)
              generalize wr.drew = w39 at HO_4 BK261 BK271 HB hx276_0 hHeld ⊢
              refine pure_ (i := 1) (N := some 39) (v := ?_) (a' := ?_) #[false, true, false, false, false, false, false, false] rfl rfl (any_of HT_.out (by kernel_rfl)) (fun _ _ _ h => h) (Or.inl ⟨by rfl, ?_⟩) ?_ ?_
              rotate_left
              ·intro w'
               go_simp
               with_reducible rfl
              rotate_left
              ·simp only [Act.put, sI_, z0_, z1_, i64_w, i32_w]
               rfl
              refine pure_ (i := 4) (N := some 42) (v := ?_) (a' := ?_) #[false, true, false, false, true, false, false, false] rfl rfl (any_of HT_.out (by kernel_rfl)) (fun _ _ _ h => h) (Or.inl ⟨by rfl, ?_⟩) ?_ ?_
              rotate_left
              ·intro w'
               go_simp
               with_reducible rfl
              rotate_left
              ·simp only [Act.put, sI_, z0_, z1_, i64_w, i32_w]
               rfl
              refine pure_ (i := 5) (N := some 43) (v := ?_) (a' := ?_) #[false, true, false, false, true, true, false, false] rfl rfl (any_of HT_.out (by kernel_rfl)) (fun _ _ _ h => h) (Or.inl ⟨by rfl, ?_⟩) ?_ ?_
              rotate_left
              ·intro w'
               go_simp
               with_reducible rfl
              rotate_left
              ·simp only [Act.put, sI_, z0_, z1_, i64_w, i32_w]
               rfl
              refine take_ (i := 6) (N := some 44) (v := ?_) (a' := ?_) #[false, true, false, false, true, true, true, false] rfl rfl (take_ofW HT_.out HW_.out (by kernel_rfl)) (fun _ _ _ h => h) (Or.inl ⟨by rfl, ?_⟩) hHeld ?_ ?_
              rotate_left
              ·intro w' s0
               go_simp
               with_reducible rfl
              rotate_left
              ·simp only [Act.put, sI_, z0_, z1_, i64_w, i32_w]
               rfl
              refine one_ (i := 0) (N := some 38) #[true, true, false, false, true, true, true, false] rfl rfl (one_of HT_.out (by kernel_rfl)) (by decide) (fun K hK => ?_)
              refine goes_ Tryz.func52 (by kernel_rfl) rfl #[] (by rfl) rfl rfl (by (try simp only [mA_, mC_, mN_]); first|done|rfl|(simp only [lD_, lT_]; rfl)) ?_
              with_reducible refine (waystoneref07_Kinds.calls  t272 _ A29.out).mono ?_
              rintro e w40 ⟨v273, rfl, ho0, hb⟩
              have HS0_ := (hb.cell (World.block_lt_of_cell? _ _ (hHeld))).trans (hHeld)
              skip
              refine ⟨_, rfl, ?_⟩
              have n0_ := Aside0.mk (Kd.R_elder' (gR HO_4.out) (Kd.R_base ho0) hb)
              have n1_ := Aside0.mk (Kd.R_lower (Kd.R_new' ho0 (Kd.R_lt (gR HO_4.out))) (below_size (by repeat first|(with_reducible first|exact HB.out|apply ba|apply bd|apply b1|refine bs ?_ GE261.out|refine bs ?_ GE271.out)|exact HB.out)))
              have n2_ := Aside0.mk (blk_below (g := gb261) (o := .cells #[.int .i64 0, .int .i64 0, .int .i64 0, .int .i64 0, .int .u32 0, .int .u32 0, .int .i64 0] 27 (0, 0)) (gK BK261.out) hb)
              have n3_ := Aside0.mk (blk_below (g := gb271) (o := .cells #[.int .i64 t266, .int .i64 t268, .int .i64 t270, .int .i64 x272003_2, .int .u32 0, .int .u32 0, .int .i64 0] 27 (0, 0)) (gK BK271.out) hb)
              have n4_ := Aside0.mk (below_step (by repeat first|(with_reducible first|exact HB.out|apply ba|apply bd|apply b1|refine bs ?_ GE261.out|refine bs ?_ GE271.out)|exact HB.out) hb)
              clear HO_4
              clear BK261
              clear BK271
              clear HB
              have HO_4 := n0_
              have HO274 := n1_
              have BK261 := n2_
              have BK271 := n3_
              have HB := n4_
              clear n0_ n1_ n2_ n3_ n4_
              (try clear hb)
              (try clear hb2)
              (try clear hk)
              (try clear hi)
              (try clear ho0)
              obtain ⟨Ao41, co41, eo41⟩ := Kd.R_slice HO274.out
              (first | subst eo41 | (injection eo41 with f1_ f2_ f3_; have f4_ := f1_.symm; have f5_ := f3_.symm; clear f1_ f2_ f3_; subst f4_; subst f5_))
              have p275 : 0 ≤ (x6_2 : Int) := of_decide_eq_true (by first | (with_reducible assumption) | assumption)
              have q275 : x6_2 < (t272.length : Int) := of_decide_eq_true (by first | (with_reducible assumption) | assumption)
              obtain ⟨ad275, e275, hx275_0⟩ := Kd.at_string (Kd.R_reads' HO274.out).2.2 x6_2 p275 q275
              cases e275
              replace p275 := eq_true p275
              replace q275 := eq_true q275
              refine hK.out _ _ (HS0_) (fun hHeld => ?_)
              clear hHeld
              refine switch_ (S' := fun w' => w'.cell? ⟨ad265.block, ad265.off + 3, none⟩ = some (.string (rdOf ByteArray.empty t262 3)) ∧ w'.cell? (ad275.add (x6_2).toNat) = some (.string (rdOf ByteArray.empty t272 x6_2))) (fun _ h_ => h_.1) ⟨HS0_, hx275_0⟩ (fun hHeld => ?_)
              clear hK K
              refine norm_ (a' := ?_) ?_ ?_
              rotate_left
              ·show Act.put _ (some 38) _ = _
               simp only [Act.put, sI_, z0_, z1_, i64_w, i32_w]
               rfl
              refine pure_ (i := 2) (N := some 40) (v := ?_) (a' := ?_) #[true, true, true, false, true, true, true, false] rfl rfl (any_of HT_.out (by kernel_rfl)) (fun _ _ _ h => h) (Or.inl ⟨by rfl, ?_⟩) ?_ ?_
              rotate_left
              ·intro w'
               go_simp
               with_reducible rfl
              rotate_left
              ·simp only [Act.put, sI_, z0_, z1_, i64_w, i32_w]
               rfl
              refine take_ (i := 3) (N := some 41) (v := ?_) (a' := ?_) #[true, true, true, true, true, true, true, false] rfl rfl (take_ofW HT_.out HW_.out (by kernel_rfl)) (fun _ _ _ h => h) (Or.inl ⟨by rfl, ?_⟩) hHeld ?_ ?_
              rotate_left
              ·rintro w' ⟨s0, s1⟩
               go_simp
               with_reducible rfl
              rotate_left
              ·simp only [Act.put, sI_, z0_, z1_, i64_w, i32_w]
               rfl
              refine pure_ (i := 7) (N := some 45) (v := ?_) (a' := ?_) #[true, true, true, true, true, true, true, true] rfl rfl (any_of HT_.out (by kernel_rfl)) (fun _ _ _ h => h) (Or.inl ⟨by rfl, ?_⟩) ?_ ?_
              rotate_left
              ·intro w'
               go_simp
               with_reducible rfl
              rotate_left
              ·simp only [Act.put, sI_, z0_, z1_, i64_w, i32_w]
               rfl
              refine done_ (done_of HT_.out (by kernel_rfl)) ?_
              try go_wp2
              go_roundg k2
              case measure => have := HJ2.out; have := HK2.out; omega
              case rel => exact ⟨(wrap64 (x6_2 + 1)), (x272003_2), (by first | rfl | (simp; done) | (simp [*]; done)), H', ⟨by have := HJ2.out; have := HK2.out; omega⟩, ⟨by (with_reducible repeat (first | apply Kd.R_alloc | apply Kd.R_drewN | apply Kd.R_drew)); exact Kd.R_mono HO_4.out (fun _ hk => trivial)⟩, ⟨gK BK261.out⟩, ⟨gK BK271.out⟩, ⟨by repeat first|(with_reducible first|exact HB.out|apply ba|apply bd|apply b1|refine bs ?_ GE261.out|refine bs ?_ GE271.out)|exact HB.out⟩⟩
            ·rw [if_neg c32] at H
             exact absurd H (by simp)
           ·rw [if_neg c31] at H
            exact absurd H (by simp)
          ·rw [if_neg c30] at H
           exact absurd H (by simp)
         ·rw [if_neg c28] at H
          have c28b0 : decide (x6_2 < 4) = false := decide_eq_false c28
          clear c28
          by_cases c42 : 4 < (t262.length : Int)
          ·rw [if_pos c42] at H
           have c42b0 : decide (4 < (t262.length : Int)) = true := decide_eq_true c42
           have c42b1 : decide (4 < t262.length) = true := decide_eq_true (by omega)
           clear c42
           replace H := Option.bind_eq_some_iff.mp H
           obtain ⟨⟨t278, t279, t280⟩, A430, H⟩ := H
           try dsimp only at H
           have A43 := Aside0.mk A430
           clear A430
           have HC44 := Aside0.mk H
           clear H
           have p277 : 0 ≤ (4 : Int) := (by omega)
           have q277 : 4 < (t262.length : Int) := of_decide_eq_true (by first | (with_reducible assumption) | assumption)
           obtain ⟨ad277, e277, hx277_0⟩ := Kd.at_string (Kd.R_reads' HO_4.out).2.2 4 p277 q277
           obtain rfl : ad265 = ad277 := (by injection e277)
           (try simp only [show (4 : Int).toNat = 4 from rfl, Nat.reduceMul, Nat.reduceEqDiff, Go.Addr.add, ↓reduceIte] at hx277_0)
           have qi277 : (4 < t262.length) = True := eq_true (by omega)
           (try rw [show ((4 : Int)).toNat = 4 from rfl] at hx277_0)
           replace p277 := eq_true p277
           replace q277 := eq_true q277
           go_upto_if 59 with (first | ((with_reducible refine gate_callee (f := 63) rfl ?_); refine goesL_ (some 52) rfl rfl Tryz.func63 (by kernel_rfl) rfl #[.string (rdOf ByteArray.empty t262 4)] rfl (by (try simp only [mA_, mC_, mN_]); first|done|rfl|(simp only [lD_, lT_]; rfl)) ?_; (with_reducible refine (waystoneref02_ParseRange.calls k2 (rdOf ByteArray.empty t262 4) t278 t279 t280 _ A43.out).mono ?_); rintro e w45 ⟨rfl, hb⟩; refine ⟨_, rfl, ?_⟩; have n0_ := Aside0.mk (Kd.R_below (gR HO_4.out) hb); have n1_ := Aside0.mk (blk_below (g := gb261) (o := .cells #[.int .i64 0, .int .i64 0, .int .i64 0, .int .i64 0, .int .u32 0, .int .u32 0, .int .i64 0] 27 (0, 0)) (gK BK261.out) hb); have n2_ := Aside0.mk (blk_below (g := gb271) (o := .cells #[.int .i64 t266, .int .i64 t268, .int .i64 t270, .int .i64 x272003_2, .int .u32 0, .int .u32 0, .int .i64 0] 27 (0, 0)) (gK BK271.out) hb); have n3_ := Aside0.mk (below_step (by repeat first|(with_reducible first|exact HB.out|apply ba|apply bd|apply b1|refine bs ?_ GE261.out|refine bs ?_ GE271.out)|exact HB.out) hb); clear HO_4; clear BK261; clear BK271; clear HB; have HO_4 := n0_; have BK261 := n1_; have BK271 := n2_; have HB := n3_; clear n0_ n1_ n2_ n3_; (try clear hb); (try clear hb2); (try clear hk); (try clear hi)) | ((with_reducible refine gate_dst (N := 7) rfl ?_); refine box_event ?hg (N := 7) ?hd (cs := #[.int .u32 0, .int .u32 0]) (t := 25) ?hr ?_; (case hd => rfl); (case hg => rfl); (case hr => first | (go_simp; done) | (go_simp; rfl)); intro gb281 hg w46 hbox hb; have n0_ := Aside0.mk (Kd.R_below (gR HO_4.out) hb); have n1_ := Aside0.mk (blk_below (g := gb261) (o := .cells #[.int .i64 0, .int .i64 0, .int .i64 0, .int .i64 0, .int .u32 0, .int .u32 0, .int .i64 0] 27 (0, 0)) (gK BK261.out) hb); have n2_ := Aside0.mk (blk_below (g := gb271) (o := .cells #[.int .i64 t266, .int .i64 t268, .int .i64 t270, .int .i64 x272003_2, .int .u32 0, .int .u32 0, .int .i64 0] 27 (0, 0)) (gK BK271.out) hb); have n3_ := Aside0.mk (below_step (by repeat first|(with_reducible first|exact HB.out|apply ba|apply bd|apply b1|refine bs ?_ GE261.out|refine bs ?_ GE271.out)|exact HB.out) hb); have n4_ := Aside0.mk (hbox); have n5_ := Aside0.mk ((by rw [hg]; exact (below_size (by repeat first|(with_reducible first|exact HB.out|apply ba|apply bd|apply b1|refine bs ?_ GE261.out|refine bs ?_ GE271.out)|exact HB.out)) : w.heap.size ≤ gb281)); have n6_ := Aside0.mk ((by rw [hg]; exact (below_size (by repeat first|(with_reducible first|exact HB.out|apply ba|apply bd|apply b1|refine bs ?_ GE261.out|refine bs ?_ GE271.out)|exact HB.out)) : w.heap.size ≤ gb281)); have n7_ := Aside0.mk ((by rw [hg]; exact Nat.ne_of_lt (blk_lt (g := gb261) (o := .cells #[.int .i64 0, .int .i64 0, .int .i64 0, .int .i64 0, .int .u32 0, .int .u32 0, .int .i64 0] 27 (0, 0)) (gK BK261.out)) : gb261 ≠ gb281)); have n8_ := Aside0.mk ((by rw [hg]; exact Nat.ne_of_gt (blk_lt (g := gb261) (o := .cells #[.int .i64 0, .int .i64 0, .int .i64 0, .int .i64 0, .int .u32 0, .int .u32 0, .int .i64 0] 27 (0, 0)) (gK BK261.out)) : gb281 ≠ gb261)); have n9_ := Aside0.mk ((by rw [hg]; exact Nat.ne_of_lt (blk_lt (g := gb271) (o := .cells #[.int .i64 t266, .int .i64 t268, .int .i64 t270, .int .i64 x272003_2, .int .u32 0, .int .u32 0, .int .i64 0] 27 (0, 0)) (gK BK271.out)) : gb271 ≠ gb281)); have n10_ := Aside0.mk ((by rw [hg]; exact Nat.ne_of_gt (blk_lt (g := gb271) (o := .cells #[.int .i64 t266, .int .i64 t268, .int .i64 t270, .int .i64 x272003_2, .int .u32 0, .int .u32 0, .int .i64 0] 27 (0, 0)) (gK BK271.out)) : gb281 ≠ gb271)); clear HO_4; clear BK261; clear BK271; clear HB; have HO_4 := n0_; have BK261 := n1_; have BK271 := n2_; have HB := n3_; have BK281 := n4_; have GW281 := n5_; have GE281 := n6_; have NB261_281 := n7_; have NB281_261 := n8_; have NB271_281 := n9_; have NB281_271 := n10_; clear n0_ n1_ n2_ n3_ n4_ n5_ n6_ n7_ n8_ n9_ n10_; clear hb hbox hg; have hnb47 := NB281_261.out; have hnc47 := NB261_281.out; have hnb48 := NB281_271.out; have hnc48 := NB271_281.out; have hcz49_0 : w46.cell? ⟨gb281, 0, none⟩ = some (.int .u32 0) := (blk_cell BK281.out 0).trans rfl; have hcz49_1 : w46.cell? ⟨gb281, 1, none⟩ = some (.int .u32 0) := (blk_cell BK281.out 1).trans rfl; have hfz49_0 := blk_frozen BK281.out 0; have hfz49_1 := blk_frozen BK281.out 1; have hnb50 := NB271_261.out; have hnc50 := NB261_271.out; have hcz51_0 : w46.cell? ⟨gb271, 0, none⟩ = some (.int .i64 t266) := (blk_cell BK271.out 0).trans rfl; have hcz51_1 : w46.cell? ⟨gb271, 1, none⟩ = some (.int .i64 t268) := (blk_cell BK271.out 1).trans rfl; have hcz51_2 : w46.cell? ⟨gb271, 2, none⟩ = some (.int .i64 t270) := (blk_cell BK271.out 2).trans rfl; have hcz51_3 : w46.cell? ⟨gb271, 3, none⟩ = some (.int .i64 x272003_2) := (blk_cell BK271.out 3).trans rfl; have hcz51_4 : w46.cell? ⟨gb271, 4, none⟩ = some (.int .u32 0) := (blk_cell BK271.out 4).trans rfl; have hcz51_5 : w46.cell? ⟨gb271, 5, none⟩ = some (.int .u32 0) := (blk_cell BK271.out 5).trans rfl; have hcz51_6 : w46.cell? ⟨gb271, 6, none⟩ = some (.int .i64 0) := (blk_cell BK271.out 6).trans rfl; have hfz51_0 := blk_frozen BK271.out 0; have hfz51_1 := blk_frozen BK271.out 1; have hfz51_2 := blk_frozen BK271.out 2; have hfz51_3 := blk_frozen BK271.out 3; have hfz51_4 := blk_frozen BK271.out 4; have hfz51_5 := blk_frozen BK271.out 5; have hfz51_6 := blk_frozen BK271.out 6))
           (try simp only [Act.put, sI_, z0_, z1_])
           go_cut [] (fun wc => ∃ (kq : Nat) (x272006_43 : Int), Aside0 (waystoneref07_Parse.j2 kq a0 t280 t266 t268 t270 x272003_2 t278 t279 x272006_43 = some (r1, r2, r3, r4, r5, r6, r7, r8)) ∧ Aside0 (kq ≤ k2) ∧ Aside0 (wc.heap[gb261]? = some (.cells #[.int .i64 0, .int .i64 0, .int .i64 0, .int .i64 0, .int .u32 0, .int .u32 0, .int .i64 0] 27 (0, 0))) ∧ Aside0 (wc.heap[gb271]? = some (.cells #[.int .i64 t266, .int .i64 t268, .int .i64 t270, .int .i64 x272003_2, .int .u32 t278, .int .u32 t279, .int .i64 x272006_43] 27 (0, 0))) ∧ Aside0 (wc.heap[gb281]? = some (.cells #[.int .u32 t278, .int .u32 t279] 25 (0, 0))) ∧ Aside0 (Below w.heap.size w wc))
           case first =>
            have H := HC44.out
            clear HC44
            by_cases c52 : (t262.length : Int) = 6
            ·rw [if_pos c52] at H
             have c52b0 : ((t262.length : Int) == 6) = true := beq_iff_eq.mpr c52
             have c52b1 : ((t262.length : Int) != 6) = false := bne_eq_false_iff_eq.mpr c52
             clear c52
             (first | rw [c52b0] | (simp only [i64_w, i32_w]; rw [c52b0]) | skip)
             by_cases c53 : 5 < (t262.length : Int)
             ·rw [if_pos c53] at H
              have c53b0 : decide (5 < (t262.length : Int)) = true := decide_eq_true c53
              have c53b1 : decide (5 < t262.length) = true := decide_eq_true (by omega)
              clear c53
              replace H := Option.bind_eq_some_iff.mp H
              obtain ⟨t283, A540, H⟩ := H
              try dsimp only at H
              have A54 := Aside0.mk A540
              clear A540
              have H' := Aside0.mk H
              clear H
              have p282 : 0 ≤ (5 : Int) := (by omega)
              have q282 : 5 < (t262.length : Int) := of_decide_eq_true (by first | (with_reducible assumption) | assumption)
              obtain ⟨ad282, e282, hx282_0⟩ := Kd.at_string (Kd.R_reads' HO_4.out).2.2 5 p282 q282
              obtain rfl : ad265 = ad282 := (by injection e282)
              (try simp only [show (5 : Int).toNat = 5 from rfl, Nat.reduceMul, Nat.reduceEqDiff, Go.Addr.add, ↓reduceIte] at hx282_0)
              have qi282 : (5 < t262.length) = True := eq_true (by omega)
              (try rw [show ((5 : Int)).toNat = 5 from rfl] at hx282_0)
              have hn282_0 : ad265.block ≠ gb281 := Kd.own_blk (Kd.R_ne HO_4.out BK281.out (by decide))
              have hn282_1 : ad265.block ≠ gb281 := Kd.own_blk (Kd.R_ne HO_4.out BK281.out (by decide))
              have hn282_2 : ad265.block ≠ gb271 := Kd.own_blk (Kd.R_ne HO_4.out BK271.out (by decide))
              have hn282_3 : ad265.block ≠ gb271 := Kd.own_blk (Kd.R_ne HO_4.out BK271.out (by decide))
              replace hx282_0 := (cell_far (p := ⟨gb281, 0, none⟩) (by first | (rw [add_block]; exact hn282_0) | (show (Addr.add _ _).block ≠ _; rw [add_block]; exact hn282_0) | exact hn282_0) (.int .u32 t278)).trans hx282_0
              replace hx282_0 := (cell_far (p := ⟨gb281, 1, none⟩) (by first | (rw [add_block]; exact hn282_1) | (show (Addr.add _ _).block ≠ _; rw [add_block]; exact hn282_1) | exact hn282_1) (.int .u32 t279)).trans hx282_0
              replace hx282_0 := (cell_far (p := ⟨gb271, 4, none⟩) (by first | (rw [add_block]; exact hn282_2) | (show (Addr.add _ _).block ≠ _; rw [add_block]; exact hn282_2) | exact hn282_2) (.int .u32 t278)).trans hx282_0
              replace hx282_0 := (cell_far (p := ⟨gb271, 5, none⟩) (by first | (rw [add_block]; exact hn282_3) | (show (Addr.add _ _).block ≠ _; rw [add_block]; exact hn282_3) | exact hn282_3) (.int .u32 t279)).trans hx282_0
              clear hn282_0
              clear hn282_1
              clear hn282_2
              clear hn282_3
              replace p282 := eq_true p282
              replace q282 := eq_true q282
              go_wp2_with (first | ((with_reducible refine gate_callee (f := 62) rfl ?_); refine goesL_ (some 63) rfl rfl Tryz.func62 (by kernel_rfl) rfl #[.string (rdOf ByteArray.empty t262 5), .int .i64 9] rfl (by (try simp only [mA_, mC_, mN_]); first|done|rfl|(simp only [lD_, lT_]; rfl)) ?_; (with_reducible refine (waystoneref02_Number.calls k2 (rdOf ByteArray.empty t262 5) 9 t283 _ A54.out).mono ?_); rintro e w' ⟨rfl, ⟨nd, rfl⟩⟩; refine ⟨_, rfl, ?_⟩; have hnb55 := NB271_261.out; have hnc55 := NB261_271.out; have hnb56 := NB271_281.out; have hnc56 := NB281_271.out; have hcz57_0 : w46.cell? ⟨gb271, 0, none⟩ = some (.int .i64 t266) := (blk_cell BK271.out 0).trans rfl; have hcz57_1 : w46.cell? ⟨gb271, 1, none⟩ = some (.int .i64 t268) := (blk_cell BK271.out 1).trans rfl; have hcz57_2 : w46.cell? ⟨gb271, 2, none⟩ = some (.int .i64 t270) := (blk_cell BK271.out 2).trans rfl; have hcz57_3 : w46.cell? ⟨gb271, 3, none⟩ = some (.int .i64 x272003_2) := (blk_cell BK271.out 3).trans rfl; have hcz57_4 : w46.cell? ⟨gb271, 4, none⟩ = some (.int .u32 0) := (blk_cell BK271.out 4).trans rfl; have hcz57_5 : w46.cell? ⟨gb271, 5, none⟩ = some (.int .u32 0) := (blk_cell BK271.out 5).trans rfl; have hcz57_6 : w46.cell? ⟨gb271, 6, none⟩ = some (.int .i64 0) := (blk_cell BK271.out 6).trans rfl; have hfz57_0 := blk_frozen BK271.out 0; have hfz57_1 := blk_frozen BK271.out 1; have hfz57_2 := blk_frozen BK271.out 2; have hfz57_3 := blk_frozen BK271.out 3; have hfz57_4 := blk_frozen BK271.out 4; have hfz57_5 := blk_frozen BK271.out 5; have hfz57_6 := blk_frozen BK271.out 6))
              go_meet
              case rel => exact ⟨_, (t283), H', ⟨by have := HJ2.out; have := HK2.out; first | omega | exact Nat.le_refl _⟩, ⟨by (with_reducible repeat (first | refine blk_drewN ?_ _ | refine blk_drew ?_ | refine blk_alloc ?_ _)); refine blk_far ?_ NB261_271.out _; (with_reducible repeat (first | refine blk_drewN ?_ _ | refine blk_drew ?_ | refine blk_alloc ?_ _)); refine blk_far ?_ NB261_271.out _; (with_reducible repeat (first | refine blk_drewN ?_ _ | refine blk_drew ?_ | refine blk_alloc ?_ _)); refine blk_far ?_ NB261_271.out _; (with_reducible repeat (first | refine blk_drewN ?_ _ | refine blk_drew ?_ | refine blk_alloc ?_ _)); refine blk_far ?_ NB261_281.out _; (with_reducible repeat (first | refine blk_drewN ?_ _ | refine blk_drew ?_ | refine blk_alloc ?_ _)); refine blk_far ?_ NB261_281.out _; (with_reducible repeat (first | refine blk_drewN ?_ _ | refine blk_drew ?_ | refine blk_alloc ?_ _)); exact BK261.out⟩, ⟨by (with_reducible repeat (first | refine blk_drewN ?_ _ | refine blk_drew ?_ | refine blk_alloc ?_ _)); refine blk_put (cs := #[.int .i64 t266, .int .i64 t268, .int .i64 t270, .int .i64 x272003_2, .int .u32 t278, .int .u32 t279, .int .i64 0]) ?_ 6 _ rfl; (with_reducible repeat (first | refine blk_drewN ?_ _ | refine blk_drew ?_ | refine blk_alloc ?_ _)); refine blk_put (cs := #[.int .i64 t266, .int .i64 t268, .int .i64 t270, .int .i64 x272003_2, .int .u32 t278, .int .u32 0, .int .i64 0]) ?_ 5 _ rfl; (with_reducible repeat (first | refine blk_drewN ?_ _ | refine blk_drew ?_ | refine blk_alloc ?_ _)); refine blk_put (cs := #[.int .i64 t266, .int .i64 t268, .int .i64 t270, .int .i64 x272003_2, .int .u32 0, .int .u32 0, .int .i64 0]) ?_ 4 _ rfl; (with_reducible repeat (first | refine blk_drewN ?_ _ | refine blk_drew ?_ | refine blk_alloc ?_ _)); refine blk_far ?_ NB271_281.out _; (with_reducible repeat (first | refine blk_drewN ?_ _ | refine blk_drew ?_ | refine blk_alloc ?_ _)); refine blk_far ?_ NB271_281.out _; (with_reducible repeat (first | refine blk_drewN ?_ _ | refine blk_drew ?_ | refine blk_alloc ?_ _)); exact BK271.out⟩, ⟨by (with_reducible repeat (first | refine blk_drewN ?_ _ | refine blk_drew ?_ | refine blk_alloc ?_ _)); refine blk_far ?_ NB281_271.out _; (with_reducible repeat (first | refine blk_drewN ?_ _ | refine blk_drew ?_ | refine blk_alloc ?_ _)); refine blk_far ?_ NB281_271.out _; (with_reducible repeat (first | refine blk_drewN ?_ _ | refine blk_drew ?_ | refine blk_alloc ?_ _)); refine blk_far ?_ NB281_271.out _; (with_reducible repeat (first | refine blk_drewN ?_ _ | refine blk_drew ?_ | refine blk_alloc ?_ _)); refine blk_put (cs := #[.int .u32 t278, .int .u32 0]) ?_ 1 _ rfl; (with_reducible repeat (first | refine blk_drewN ?_ _ | refine blk_drew ?_ | refine blk_alloc ?_ _)); refine blk_put (cs := #[.int .u32 0, .int .u32 0]) ?_ 0 _ rfl; (with_reducible repeat (first | refine blk_drewN ?_ _ | refine blk_drew ?_ | refine blk_alloc ?_ _)); exact BK281.out⟩, ⟨by repeat first|(with_reducible first|exact HB.out|apply ba|apply bd|apply b1|refine bs ?_ GE261.out|refine bs ?_ GE271.out|refine bs ?_ GE281.out)|exact HB.out⟩⟩
             ·rw [if_neg c53] at H
              exact absurd H (by simp)
            ·rw [if_neg c52] at H
             have c52b0 : ((t262.length : Int) == 6) = false := beq_eq_false_iff_ne.mpr c52
             have c52b1 : ((t262.length : Int) != 6) = true := bne_iff_ne.mpr c52
             (first | rw [c52b0] | (simp only [i64_w, i32_w]; rw [c52b0]) | skip)
             have H' := Aside0.mk H
             clear H
             go_wp2
             go_meet
             case rel => exact ⟨_, (0), H', ⟨by have := HJ2.out; have := HK2.out; first | omega | exact Nat.le_refl _⟩, ⟨by (with_reducible repeat (first | refine blk_drewN ?_ _ | refine blk_drew ?_ | refine blk_alloc ?_ _)); refine blk_far ?_ NB261_271.out _; (with_reducible repeat (first | refine blk_drewN ?_ _ | refine blk_drew ?_ | refine blk_alloc ?_ _)); refine blk_far ?_ NB261_271.out _; (with_reducible repeat (first | refine blk_drewN ?_ _ | refine blk_drew ?_ | refine blk_alloc ?_ _)); refine blk_far ?_ NB261_281.out _; (with_reducible repeat (first | refine blk_drewN ?_ _ | refine blk_drew ?_ | refine blk_alloc ?_ _)); refine blk_far ?_ NB261_281.out _; (with_reducible repeat (first | refine blk_drewN ?_ _ | refine blk_drew ?_ | refine blk_alloc ?_ _)); exact BK261.out⟩, ⟨by (with_reducible repeat (first | refine blk_drewN ?_ _ | refine blk_drew ?_ | refine blk_alloc ?_ _)); refine blk_put (cs := #[.int .i64 t266, .int .i64 t268, .int .i64 t270, .int .i64 x272003_2, .int .u32 t278, .int .u32 0, .int .i64 0]) ?_ 5 _ rfl; (with_reducible repeat (first | refine blk_drewN ?_ _ | refine blk_drew ?_ | refine blk_alloc ?_ _)); refine blk_put (cs := #[.int .i64 t266, .int .i64 t268, .int .i64 t270, .int .i64 x272003_2, .int .u32 0, .int .u32 0, .int .i64 0]) ?_ 4 _ rfl; (with_reducible repeat (first | refine blk_drewN ?_ _ | refine blk_drew ?_ | refine blk_alloc ?_ _)); refine blk_far ?_ NB271_281.out _; (with_reducible repeat (first | refine blk_drewN ?_ _ | refine blk_drew ?_ | refine blk_alloc ?_ _)); refine blk_far ?_ NB271_281.out _; (with_reducible repeat (first | refine blk_drewN ?_ _ | refine blk_drew ?_ | refine blk_alloc ?_ _)); exact BK271.out⟩, ⟨by (with_reducible repeat (first | refine blk_drewN ?_ _ | refine blk_drew ?_ | refine blk_alloc ?_ _)); refine blk_far ?_ NB281_271.out _; (with_reducible repeat (first | refine blk_drewN ?_ _ | refine blk_drew ?_ | refine blk_alloc ?_ _)); refine blk_far ?_ NB281_271.out _; (with_reducible repeat (first | refine blk_drewN ?_ _ | refine blk_drew ?_ | refine blk_alloc ?_ _)); refine blk_put (cs := #[.int .u32 t278, .int .u32 0]) ?_ 1 _ rfl; (with_reducible repeat (first | refine blk_drewN ?_ _ | refine blk_drew ?_ | refine blk_alloc ?_ _)); refine blk_put (cs := #[.int .u32 0, .int .u32 0]) ?_ 0 _ rfl; (with_reducible repeat (first | refine blk_drewN ?_ _ | refine blk_drew ?_ | refine blk_alloc ?_ _)); exact BK281.out⟩, ⟨by repeat first|(with_reducible first|exact HB.out|apply ba|apply bd|apply b1|refine bs ?_ GE261.out|refine bs ?_ GE271.out|refine bs ?_ GE281.out)|exact HB.out⟩⟩
           case rest =>
            clear HC44
            try clear c1
            try clear c2
            try clear p2
            try clear q2
            try clear hx2
            try clear qi2
            try clear c3
            try clear c4
            try clear c5
            try clear c6
            try clear c6b0
            try clear c6b1
            try clear p6
            try clear c9
            try clear c11
            try clear c11b0
            try clear c11b1
            try clear c13
            try clear c13b0
            try clear c13b1
            try clear c15
            try clear c15b0
            try clear c15b1
            try clear p26
            try clear q26
            try clear hx26
            try clear qi26
            try clear p27
            try clear q27
            try clear hx27
            try clear qi27
            try clear c28
            try clear c28b0
            try clear p28
            try clear q28
            try clear hx28
            try clear qi28
            try clear c30
            try clear c30b0
            try clear c31
            try clear c31b0
            try clear c32
            try clear c32b0
            try clear c32b1
            try clear c33
            try clear c33b0
            try clear c33b1
            try clear c37
            try clear c42
            try clear c42b0
            try clear c42b1
            try clear c47
            try clear c48
            try clear c50
            try clear c52
            try clear c52b0
            try clear c52b1
            try clear c53
            try clear c53b0
            try clear c53b1
            try clear c55
            try clear c56
            try clear hcz10_0
            try clear hcz10_1
            try clear hcz10_2
            try clear hcz10_3
            try clear hcz10_4
            try clear hcz10_5
            try clear hcz10_6
            try clear hcz38_0
            try clear hcz38_1
            try clear hcz38_2
            try clear hcz38_3
            try clear hcz38_4
            try clear hcz38_5
            try clear hcz38_6
            try clear hcz49_0
            try clear hcz49_1
            try clear hcz51_0
            try clear hcz51_1
            try clear hcz51_2
            try clear hcz51_3
            try clear hcz51_4
            try clear hcz51_5
            try clear hcz51_6
            try clear hcz57_0
            try clear hcz57_1
            try clear hcz57_2
            try clear hcz57_3
            try clear hcz57_4
            try clear hcz57_5
            try clear hcz57_6
            try clear hfz10_0
            try clear hfz10_1
            try clear hfz10_2
            try clear hfz10_3
            try clear hfz10_4
            try clear hfz10_5
            try clear hfz10_6
            try clear hfz38_0
            try clear hfz38_1
            try clear hfz38_2
            try clear hfz38_3
            try clear hfz38_4
            try clear hfz38_5
            try clear hfz38_6
            try clear hfz49_0
            try clear hfz49_1
            try clear hfz51_0
            try clear hfz51_1
            try clear hfz51_2
            try clear hfz51_3
            try clear hfz51_4
            try clear hfz51_5
            try clear hfz51_6
            try clear hfz57_0
            try clear hfz57_1
            try clear hfz57_2
            try clear hfz57_3
            try clear hfz57_4
            try clear hfz57_5
            try clear hfz57_6
            try clear hx265_0
            try clear hx267_0
            try clear hx269_0
            try clear hx275_0
            try clear hx276_0
            try clear hx277_0
            try clear hx282_0
            try clear p2
            try clear p26
            try clear p265
            try clear p267
            try clear p269
            try clear p275
            try clear p276
            try clear p277
            try clear p282
            try clear q2
            try clear q26
            try clear q265
            try clear q267
            try clear q269
            try clear q275
            try clear q276
            try clear q277
            try clear q282
            obtain ⟨kq, x272006_43, HA, HJ43, BK261, BK271, BK281, HB⟩ := hcut
            cases kq with
            | zero => exact absurd HA.out (by simp [waystoneref07_Parse.j2])
            | succ kj43 =>
             have H := HA.out
             clear HA
             simp only [waystoneref07_Parse.j2] at H
             replace H := Option.bind_eq_some_iff.mp H
             obtain ⟨t284, A580, H⟩ := H
             try dsimp only at H
             have A58 := Aside0.mk A580
             clear A580
             by_cases c59 : t280 = 0
             ·rw [if_pos c59] at H
              have c59b0 : (t280 == 0) = true := beq_iff_eq.mpr c59
              have c59b1 : (t280 != 0) = false := bne_eq_false_iff_eq.mpr c59
              clear c59
              by_cases c60 : t284 = true
              ·subst c60
               rw [if_pos rfl] at H
               replace H := Option.bind_eq_some_iff.mp H
               obtain ⟨t285, A610, H⟩ := H
               try dsimp only at H
               have A61 := Aside0.mk A610
               clear A610
               by_cases c62 : t285.toList = a0.toList
               ·rw [if_pos c62] at H
                have c62b0 : (t285.toList == a0.toList) = true := beq_iff_eq.mpr c62
                have c62b1 : (t285.toList != a0.toList) = false := bne_eq_false_iff_eq.mpr c62
                clear c62
                simp only [Option.some.injEq, Prod.mk.injEq] at H
                obtain ⟨rfl, rfl, rfl, rfl, rfl, rfl, rfl, rfl⟩ := H
                have hnb63 := NB271_261.out
                have hnc63 := NB261_271.out
                have hnb64 := NB271_281.out
                have hnc64 := NB281_271.out
                have hcz65_0 : wc.cell? ⟨gb271, 0, none⟩ = some (.int .i64 t266) := (blk_cell BK271.out 0).trans rfl
                have hcz65_1 : wc.cell? ⟨gb271, 1, none⟩ = some (.int .i64 t268) := (blk_cell BK271.out 1).trans rfl
                have hcz65_2 : wc.cell? ⟨gb271, 2, none⟩ = some (.int .i64 t270) := (blk_cell BK271.out 2).trans rfl
                have hcz65_3 : wc.cell? ⟨gb271, 3, none⟩ = some (.int .i64 x272003_2) := (blk_cell BK271.out 3).trans rfl
                have hcz65_4 : wc.cell? ⟨gb271, 4, none⟩ = some (.int .u32 t278) := (blk_cell BK271.out 4).trans rfl
                have hcz65_5 : wc.cell? ⟨gb271, 5, none⟩ = some (.int .u32 t279) := (blk_cell BK271.out 5).trans rfl
                have hcz65_6 : wc.cell? ⟨gb271, 6, none⟩ = some (.int .i64 x272006_43) := (blk_cell BK271.out 6).trans rfl
                have hfz65_0 := blk_frozen BK271.out 0
                have hfz65_1 := blk_frozen BK271.out 1
                have hfz65_2 := blk_frozen BK271.out 2
                have hfz65_3 := blk_frozen BK271.out 3
                have hfz65_4 := blk_frozen BK271.out 4
                have hfz65_5 := blk_frozen BK271.out 5
                have hfz65_6 := blk_frozen BK271.out 6
                go_wp2_with (first | ((with_reducible refine gate_callee (f := 10) rfl ?_); refine goesL_ (some 66) rfl rfl Tryz.func10 (by kernel_rfl) rfl #[.agg #[.int .i64 t266, .int .i64 t268, .int .i64 t270, .int .i64 x272003_2, .int .u32 t278, .int .u32 t279, .int .i64 x272006_43]] rfl (by (try simp only [mA_, mC_, mN_]); first|done|rfl|(simp only [lD_, lT_]; rfl)) ?_; (with_reducible refine (waystoneref07_Right.calls t266 t268 t270 x272003_2 t278 t279 x272006_43 true _ A58.out).mono ?_); rintro e w66 ⟨rfl, hb⟩; refine ⟨_, rfl, ?_⟩; have n0_ := Aside0.mk (blk_below (g := gb261) (o := .cells #[.int .i64 0, .int .i64 0, .int .i64 0, .int .i64 0, .int .u32 0, .int .u32 0, .int .i64 0] 27 (0, 0)) (gK BK261.out) hb); have n1_ := Aside0.mk (blk_below (g := gb271) (o := .cells #[.int .i64 t266, .int .i64 t268, .int .i64 t270, .int .i64 x272003_2, .int .u32 t278, .int .u32 t279, .int .i64 x272006_43] 27 (0, 0)) (gK BK271.out) hb); have n2_ := Aside0.mk (blk_below (g := gb281) (o := .cells #[.int .u32 t278, .int .u32 t279] 25 (0, 0)) (gK BK281.out) hb); have n3_ := Aside0.mk (below_step (by repeat first|(with_reducible first|exact HB.out|apply ba|apply bd|apply b1|refine bs ?_ GE261.out|refine bs ?_ GE271.out|refine bs ?_ GE281.out)|exact HB.out) hb); clear BK261; clear BK271; clear BK281; clear HB; have BK261 := n0_; have BK271 := n1_; have BK281 := n2_; have HB := n3_; clear n0_ n1_ n2_ n3_; (try clear hb); (try clear hb2); (try clear hk); (try clear hi); have hcz67_0 : w66.cell? ⟨gb271, 0, none⟩ = some (.int .i64 t266) := (blk_cell BK271.out 0).trans rfl; have hcz67_1 : w66.cell? ⟨gb271, 1, none⟩ = some (.int .i64 t268) := (blk_cell BK271.out 1).trans rfl; have hcz67_2 : w66.cell? ⟨gb271, 2, none⟩ = some (.int .i64 t270) := (blk_cell BK271.out 2).trans rfl; have hcz67_3 : w66.cell? ⟨gb271, 3, none⟩ = some (.int .i64 x272003_2) := (blk_cell BK271.out 3).trans rfl; have hcz67_4 : w66.cell? ⟨gb271, 4, none⟩ = some (.int .u32 t278) := (blk_cell BK271.out 4).trans rfl; have hcz67_5 : w66.cell? ⟨gb271, 5, none⟩ = some (.int .u32 t279) := (blk_cell BK271.out 5).trans rfl; have hcz67_6 : w66.cell? ⟨gb271, 6, none⟩ = some (.int .i64 x272006_43) := (blk_cell BK271.out 6).trans rfl; have hfz67_0 := blk_frozen BK271.out 0; have hfz67_1 := blk_frozen BK271.out 1; have hfz67_2 := blk_frozen BK271.out 2; have hfz67_3 := blk_frozen BK271.out 3; have hfz67_4 := blk_frozen BK271.out 4; have hfz67_5 := blk_frozen BK271.out 5; have hfz67_6 := blk_frozen BK271.out 6) | (go_at_call 12; (with_reducible refine (waystoneref07_Text.calls kj43 t266 t268 t270 x272003_2 t278 t279 x272006_43 t285 _ A61.out).mono ?_); rintro e w68 ⟨rfl, hb⟩; have n0_ := Aside0.mk (blk_below (g := gb261) (o := .cells #[.int .i64 0, .int .i64 0, .int .i64 0, .int .i64 0, .int .u32 0, .int .u32 0, .int .i64 0] 27 (0, 0)) (gK BK261.out) hb); have n1_ := Aside0.mk (blk_below (g := gb271) (o := .cells #[.int .i64 t266, .int .i64 t268, .int .i64 t270, .int .i64 x272003_2, .int .u32 t278, .int .u32 t279, .int .i64 x272006_43] 27 (0, 0)) (gK BK271.out) hb); have n2_ := Aside0.mk (blk_below (g := gb281) (o := .cells #[.int .u32 t278, .int .u32 t279] 25 (0, 0)) (gK BK281.out) hb); have n3_ := Aside0.mk (below_step (by repeat first|(with_reducible first|exact HB.out|apply ba|apply bd|apply b1|refine bs ?_ GE261.out|refine bs ?_ GE271.out|refine bs ?_ GE281.out)|exact HB.out) hb); clear BK261; clear BK271; clear BK281; clear HB; have BK261 := n0_; have BK271 := n1_; have BK281 := n2_; have HB := n3_; clear n0_ n1_ n2_ n3_; (try clear hb); (try clear hb2); (try clear hk); (try clear hi); have hcz69_0 : w68.cell? ⟨gb271, 0, none⟩ = some (.int .i64 t266) := (blk_cell BK271.out 0).trans rfl; have hcz69_1 : w68.cell? ⟨gb271, 1, none⟩ = some (.int .i64 t268) := (blk_cell BK271.out 1).trans rfl; have hcz69_2 : w68.cell? ⟨gb271, 2, none⟩ = some (.int .i64 t270) := (blk_cell BK271.out 2).trans rfl; have hcz69_3 : w68.cell? ⟨gb271, 3, none⟩ = some (.int .i64 x272003_2) := (blk_cell BK271.out 3).trans rfl; have hcz69_4 : w68.cell? ⟨gb271, 4, none⟩ = some (.int .u32 t278) := (blk_cell BK271.out 4).trans rfl; have hcz69_5 : w68.cell? ⟨gb271, 5, none⟩ = some (.int .u32 t279) := (blk_cell BK271.out 5).trans rfl; have hcz69_6 : w68.cell? ⟨gb271, 6, none⟩ = some (.int .i64 x272006_43) := (blk_cell BK271.out 6).trans rfl; have hfz69_0 := blk_frozen BK271.out 0; have hfz69_1 := blk_frozen BK271.out 1; have hfz69_2 := blk_frozen BK271.out 2; have hfz69_3 := blk_frozen BK271.out 3; have hfz69_4 := blk_frozen BK271.out 4; have hfz69_5 := blk_frozen BK271.out 5; have hfz69_6 := blk_frozen BK271.out 6; have hnb70 := NB261_281.out; have hnc70 := NB281_261.out; have hcz71_0 : w68.cell? ⟨gb261, 0, none⟩ = some (.int .i64 0) := (blk_cell BK261.out 0).trans rfl; have hcz71_1 : w68.cell? ⟨gb261, 1, none⟩ = some (.int .i64 0) := (blk_cell BK261.out 1).trans rfl; have hcz71_2 : w68.cell? ⟨gb261, 2, none⟩ = some (.int .i64 0) := (blk_cell BK261.out 2).trans rfl; have hcz71_3 : w68.cell? ⟨gb261, 3, none⟩ = some (.int .i64 0) := (blk_cell BK261.out 3).trans rfl; have hcz71_4 : w68.cell? ⟨gb261, 4, none⟩ = some (.int .u32 0) := (blk_cell BK261.out 4).trans rfl; have hcz71_5 : w68.cell? ⟨gb261, 5, none⟩ = some (.int .u32 0) := (blk_cell BK261.out 5).trans rfl; have hcz71_6 : w68.cell? ⟨gb261, 6, none⟩ = some (.int .i64 0) := (blk_cell BK261.out 6).trans rfl; have hfz71_0 := blk_frozen BK261.out 0; have hfz71_1 := blk_frozen BK261.out 1; have hfz71_2 := blk_frozen BK261.out 2; have hfz71_3 := blk_frozen BK261.out 3; have hfz71_4 := blk_frozen BK261.out 4; have hfz71_5 := blk_frozen BK261.out 5; have hfz71_6 := blk_frozen BK261.out 6))
                refine bodyPost_ret (results_ct rfl _ _ gb261 27 #[.int .i64 t266, .int .i64 t268, .int .i64 t270, .int .i64 x272003_2, .int .u32 t278, .int .u32 t279, .int .i64 x272006_43] (0, 0) _ rfl (by (with_reducible repeat (first | refine blk_drewN ?_ _ | refine blk_drew ?_ | refine blk_alloc ?_ _)); refine blk_put (cs := #[.int .i64 t266, .int .i64 t268, .int .i64 t270, .int .i64 x272003_2, .int .u32 t278, .int .u32 t279, .int .i64 0]) ?_ 6 _ rfl; (with_reducible repeat (first | refine blk_drewN ?_ _ | refine blk_drew ?_ | refine blk_alloc ?_ _)); refine blk_put (cs := #[.int .i64 t266, .int .i64 t268, .int .i64 t270, .int .i64 x272003_2, .int .u32 t278, .int .u32 0, .int .i64 0]) ?_ 5 _ rfl; (with_reducible repeat (first | refine blk_drewN ?_ _ | refine blk_drew ?_ | refine blk_alloc ?_ _)); refine blk_put (cs := #[.int .i64 t266, .int .i64 t268, .int .i64 t270, .int .i64 x272003_2, .int .u32 0, .int .u32 0, .int .i64 0]) ?_ 4 _ rfl; (with_reducible repeat (first | refine blk_drewN ?_ _ | refine blk_drew ?_ | refine blk_alloc ?_ _)); refine blk_put (cs := #[.int .i64 t266, .int .i64 t268, .int .i64 t270, .int .i64 0, .int .u32 0, .int .u32 0, .int .i64 0]) ?_ 3 _ rfl; (with_reducible repeat (first | refine blk_drewN ?_ _ | refine blk_drew ?_ | refine blk_alloc ?_ _)); refine blk_put (cs := #[.int .i64 t266, .int .i64 t268, .int .i64 0, .int .i64 0, .int .u32 0, .int .u32 0, .int .i64 0]) ?_ 2 _ rfl; (with_reducible repeat (first | refine blk_drewN ?_ _ | refine blk_drew ?_ | refine blk_alloc ?_ _)); refine blk_put (cs := #[.int .i64 t266, .int .i64 0, .int .i64 0, .int .i64 0, .int .u32 0, .int .u32 0, .int .i64 0]) ?_ 1 _ rfl; (with_reducible repeat (first | refine blk_drewN ?_ _ | refine blk_drew ?_ | refine blk_alloc ?_ _)); refine blk_put (cs := #[.int .i64 0, .int .i64 0, .int .i64 0, .int .i64 0, .int .u32 0, .int .u32 0, .int .i64 0]) ?_ 0 _ rfl; (with_reducible repeat (first | refine blk_drewN ?_ _ | refine blk_drew ?_ | refine blk_alloc ?_ _)); exact BK261.out) Tryz.underlying27 rfl (by kernel_rfl)) rfl ?_
                exact ⟨by first | rfl | (simp [errW_none, errW_some] <;> rfl) | (simp [*, errW_none, errW_some] <;> rfl), by repeat first|(with_reducible first|exact HB.out|apply ba|apply bd|apply b1|refine bs ?_ GE261.out|refine bs ?_ GE271.out|refine bs ?_ GE281.out)|exact HB.out⟩
               ·rw [if_neg c62] at H
                have c62b0 : (t285.toList == a0.toList) = false := beq_eq_false_iff_ne.mpr c62
                have c62b1 : (t285.toList != a0.toList) = true := bne_iff_ne.mpr c62
                simp only [Option.some.injEq, Prod.mk.injEq] at H
                obtain ⟨rfl, rfl, rfl, rfl, rfl, rfl, rfl, rfl⟩ := H
                have hnb72 := NB271_261.out
                have hnc72 := NB261_271.out
                have hnb73 := NB271_281.out
                have hnc73 := NB281_271.out
                have hcz74_0 : wc.cell? ⟨gb271, 0, none⟩ = some (.int .i64 t266) := (blk_cell BK271.out 0).trans rfl
                have hcz74_1 : wc.cell? ⟨gb271, 1, none⟩ = some (.int .i64 t268) := (blk_cell BK271.out 1).trans rfl
                have hcz74_2 : wc.cell? ⟨gb271, 2, none⟩ = some (.int .i64 t270) := (blk_cell BK271.out 2).trans rfl
                have hcz74_3 : wc.cell? ⟨gb271, 3, none⟩ = some (.int .i64 x272003_2) := (blk_cell BK271.out 3).trans rfl
                have hcz74_4 : wc.cell? ⟨gb271, 4, none⟩ = some (.int .u32 t278) := (blk_cell BK271.out 4).trans rfl
                have hcz74_5 : wc.cell? ⟨gb271, 5, none⟩ = some (.int .u32 t279) := (blk_cell BK271.out 5).trans rfl
                have hcz74_6 : wc.cell? ⟨gb271, 6, none⟩ = some (.int .i64 x272006_43) := (blk_cell BK271.out 6).trans rfl
                have hfz74_0 := blk_frozen BK271.out 0
                have hfz74_1 := blk_frozen BK271.out 1
                have hfz74_2 := blk_frozen BK271.out 2
                have hfz74_3 := blk_frozen BK271.out 3
                have hfz74_4 := blk_frozen BK271.out 4
                have hfz74_5 := blk_frozen BK271.out 5
                have hfz74_6 := blk_frozen BK271.out 6
                go_wp2_with (first | ((with_reducible refine gate_callee (f := 10) rfl ?_); refine goesL_ (some 66) rfl rfl Tryz.func10 (by kernel_rfl) rfl #[.agg #[.int .i64 t266, .int .i64 t268, .int .i64 t270, .int .i64 x272003_2, .int .u32 t278, .int .u32 t279, .int .i64 x272006_43]] rfl (by (try simp only [mA_, mC_, mN_]); first|done|rfl|(simp only [lD_, lT_]; rfl)) ?_; (with_reducible refine (waystoneref07_Right.calls t266 t268 t270 x272003_2 t278 t279 x272006_43 true _ A58.out).mono ?_); rintro e w75 ⟨rfl, hb⟩; refine ⟨_, rfl, ?_⟩; have n0_ := Aside0.mk (blk_below (g := gb261) (o := .cells #[.int .i64 0, .int .i64 0, .int .i64 0, .int .i64 0, .int .u32 0, .int .u32 0, .int .i64 0] 27 (0, 0)) (gK BK261.out) hb); have n1_ := Aside0.mk (blk_below (g := gb271) (o := .cells #[.int .i64 t266, .int .i64 t268, .int .i64 t270, .int .i64 x272003_2, .int .u32 t278, .int .u32 t279, .int .i64 x272006_43] 27 (0, 0)) (gK BK271.out) hb); have n2_ := Aside0.mk (blk_below (g := gb281) (o := .cells #[.int .u32 t278, .int .u32 t279] 25 (0, 0)) (gK BK281.out) hb); have n3_ := Aside0.mk (below_step (by repeat first|(with_reducible first|exact HB.out|apply ba|apply bd|apply b1|refine bs ?_ GE261.out|refine bs ?_ GE271.out|refine bs ?_ GE281.out)|exact HB.out) hb); clear BK261; clear BK271; clear BK281; clear HB; have BK261 := n0_; have BK271 := n1_; have BK281 := n2_; have HB := n3_; clear n0_ n1_ n2_ n3_; (try clear hb); (try clear hb2); (try clear hk); (try clear hi); have hcz76_0 : w75.cell? ⟨gb271, 0, none⟩ = some (.int .i64 t266) := (blk_cell BK271.out 0).trans rfl; have hcz76_1 : w75.cell? ⟨gb271, 1, none⟩ = some (.int .i64 t268) := (blk_cell BK271.out 1).trans rfl; have hcz76_2 : w75.cell? ⟨gb271, 2, none⟩ = some (.int .i64 t270) := (blk_cell BK271.out 2).trans rfl; have hcz76_3 : w75.cell? ⟨gb271, 3, none⟩ = some (.int .i64 x272003_2) := (blk_cell BK271.out 3).trans rfl; have hcz76_4 : w75.cell? ⟨gb271, 4, none⟩ = some (.int .u32 t278) := (blk_cell BK271.out 4).trans rfl; have hcz76_5 : w75.cell? ⟨gb271, 5, none⟩ = some (.int .u32 t279) := (blk_cell BK271.out 5).trans rfl; have hcz76_6 : w75.cell? ⟨gb271, 6, none⟩ = some (.int .i64 x272006_43) := (blk_cell BK271.out 6).trans rfl; have hfz76_0 := blk_frozen BK271.out 0; have hfz76_1 := blk_frozen BK271.out 1; have hfz76_2 := blk_frozen BK271.out 2; have hfz76_3 := blk_frozen BK271.out 3; have hfz76_4 := blk_frozen BK271.out 4; have hfz76_5 := blk_frozen BK271.out 5; have hfz76_6 := blk_frozen BK271.out 6) | (go_at_call 12; (with_reducible refine (waystoneref07_Text.calls kj43 t266 t268 t270 x272003_2 t278 t279 x272006_43 t285 _ A61.out).mono ?_); rintro e w77 ⟨rfl, hb⟩; have n0_ := Aside0.mk (blk_below (g := gb261) (o := .cells #[.int .i64 0, .int .i64 0, .int .i64 0, .int .i64 0, .int .u32 0, .int .u32 0, .int .i64 0] 27 (0, 0)) (gK BK261.out) hb); have n1_ := Aside0.mk (blk_below (g := gb271) (o := .cells #[.int .i64 t266, .int .i64 t268, .int .i64 t270, .int .i64 x272003_2, .int .u32 t278, .int .u32 t279, .int .i64 x272006_43] 27 (0, 0)) (gK BK271.out) hb); have n2_ := Aside0.mk (blk_below (g := gb281) (o := .cells #[.int .u32 t278, .int .u32 t279] 25 (0, 0)) (gK BK281.out) hb); have n3_ := Aside0.mk (below_step (by repeat first|(with_reducible first|exact HB.out|apply ba|apply bd|apply b1|refine bs ?_ GE261.out|refine bs ?_ GE271.out|refine bs ?_ GE281.out)|exact HB.out) hb); clear BK261; clear BK271; clear BK281; clear HB; have BK261 := n0_; have BK271 := n1_; have BK281 := n2_; have HB := n3_; clear n0_ n1_ n2_ n3_; (try clear hb); (try clear hb2); (try clear hk); (try clear hi); have hnb78 := NB261_281.out; have hnc78 := NB281_261.out; have hcz79_0 : w77.cell? ⟨gb261, 0, none⟩ = some (.int .i64 0) := (blk_cell BK261.out 0).trans rfl; have hcz79_1 : w77.cell? ⟨gb261, 1, none⟩ = some (.int .i64 0) := (blk_cell BK261.out 1).trans rfl; have hcz79_2 : w77.cell? ⟨gb261, 2, none⟩ = some (.int .i64 0) := (blk_cell BK261.out 2).trans rfl; have hcz79_3 : w77.cell? ⟨gb261, 3, none⟩ = some (.int .i64 0) := (blk_cell BK261.out 3).trans rfl; have hcz79_4 : w77.cell? ⟨gb261, 4, none⟩ = some (.int .u32 0) := (blk_cell BK261.out 4).trans rfl; have hcz79_5 : w77.cell? ⟨gb261, 5, none⟩ = some (.int .u32 0) := (blk_cell BK261.out 5).trans rfl; have hcz79_6 : w77.cell? ⟨gb261, 6, none⟩ = some (.int .i64 0) := (blk_cell BK261.out 6).trans rfl; have hfz79_0 := blk_frozen BK261.out 0; have hfz79_1 := blk_frozen BK261.out 1; have hfz79_2 := blk_frozen BK261.out 2; have hfz79_3 := blk_frozen BK261.out 3; have hfz79_4 := blk_frozen BK261.out 4; have hfz79_5 := blk_frozen BK261.out 5; have hfz79_6 := blk_frozen BK261.out 6))
                refine bodyPost_ret (results_ct rfl _ _ gb261 27 #[.int .i64 0, .int .i64 0, .int .i64 0, .int .i64 0, .int .u32 0, .int .u32 0, .int .i64 0] (0, 0) _ rfl (by (with_reducible repeat (first | refine blk_drewN ?_ _ | refine blk_drew ?_ | refine blk_alloc ?_ _)); refine blk_put (cs := #[.int .i64 0, .int .i64 0, .int .i64 0, .int .i64 0, .int .u32 0, .int .u32 0, .int .i64 0]) ?_ 6 _ rfl; (with_reducible repeat (first | refine blk_drewN ?_ _ | refine blk_drew ?_ | refine blk_alloc ?_ _)); refine blk_put (cs := #[.int .i64 0, .int .i64 0, .int .i64 0, .int .i64 0, .int .u32 0, .int .u32 0, .int .i64 0]) ?_ 5 _ rfl; (with_reducible repeat (first | refine blk_drewN ?_ _ | refine blk_drew ?_ | refine blk_alloc ?_ _)); refine blk_put (cs := #[.int .i64 0, .int .i64 0, .int .i64 0, .int .i64 0, .int .u32 0, .int .u32 0, .int .i64 0]) ?_ 4 _ rfl; (with_reducible repeat (first | refine blk_drewN ?_ _ | refine blk_drew ?_ | refine blk_alloc ?_ _)); refine blk_put (cs := #[.int .i64 0, .int .i64 0, .int .i64 0, .int .i64 0, .int .u32 0, .int .u32 0, .int .i64 0]) ?_ 3 _ rfl; (with_reducible repeat (first | refine blk_drewN ?_ _ | refine blk_drew ?_ | refine blk_alloc ?_ _)); refine blk_put (cs := #[.int .i64 0, .int .i64 0, .int .i64 0, .int .i64 0, .int .u32 0, .int .u32 0, .int .i64 0]) ?_ 2 _ rfl; (with_reducible repeat (first | refine blk_drewN ?_ _ | refine blk_drew ?_ | refine blk_alloc ?_ _)); refine blk_put (cs := #[.int .i64 0, .int .i64 0, .int .i64 0, .int .i64 0, .int .u32 0, .int .u32 0, .int .i64 0]) ?_ 1 _ rfl; (with_reducible repeat (first | refine blk_drewN ?_ _ | refine blk_drew ?_ | refine blk_alloc ?_ _)); refine blk_put (cs := #[.int .i64 0, .int .i64 0, .int .i64 0, .int .i64 0, .int .u32 0, .int .u32 0, .int .i64 0]) ?_ 0 _ rfl; (with_reducible repeat (first | refine blk_drewN ?_ _ | refine blk_drew ?_ | refine blk_alloc ?_ _)); exact BK261.out) Tryz.underlying27 rfl (by kernel_rfl)) rfl ?_
                exact ⟨by first | rfl | (simp [errW_none, errW_some] <;> rfl) | (simp [*, errW_none, errW_some] <;> rfl), by repeat first|(with_reducible first|exact HB.out|apply ba|apply bd|apply b1|refine bs ?_ GE261.out|refine bs ?_ GE271.out|refine bs ?_ GE281.out)|exact HB.out⟩
              ·replace c60 := Bool.eq_false_iff.mpr c60
               subst c60
               rw [if_neg (show ¬ (false = true) by decide)] at H
               simp only [Option.some.injEq, Prod.mk.injEq] at H
               obtain ⟨rfl, rfl, rfl, rfl, rfl, rfl, rfl, rfl⟩ := H
               have hnb80 := NB271_261.out
               have hnc80 := NB261_271.out
               have hnb81 := NB271_281.out
               have hnc81 := NB281_271.out
               have hcz82_0 : wc.cell? ⟨gb271, 0, none⟩ = some (.int .i64 t266) := (blk_cell BK271.out 0).trans rfl
               have hcz82_1 : wc.cell? ⟨gb271, 1, none⟩ = some (.int .i64 t268) := (blk_cell BK271.out 1).trans rfl
               have hcz82_2 : wc.cell? ⟨gb271, 2, none⟩ = some (.int .i64 t270) := (blk_cell BK271.out 2).trans rfl
               have hcz82_3 : wc.cell? ⟨gb271, 3, none⟩ = some (.int .i64 x272003_2) := (blk_cell BK271.out 3).trans rfl
               have hcz82_4 : wc.cell? ⟨gb271, 4, none⟩ = some (.int .u32 t278) := (blk_cell BK271.out 4).trans rfl
               have hcz82_5 : wc.cell? ⟨gb271, 5, none⟩ = some (.int .u32 t279) := (blk_cell BK271.out 5).trans rfl
               have hcz82_6 : wc.cell? ⟨gb271, 6, none⟩ = some (.int .i64 x272006_43) := (blk_cell BK271.out 6).trans rfl
               have hfz82_0 := blk_frozen BK271.out 0
               have hfz82_1 := blk_frozen BK271.out 1
               have hfz82_2 := blk_frozen BK271.out 2
               have hfz82_3 := blk_frozen BK271.out 3
               have hfz82_4 := blk_frozen BK271.out 4
               have hfz82_5 := blk_frozen BK271.out 5
               have hfz82_6 := blk_frozen BK271.out 6
               go_wp2_with (first | ((with_reducible refine gate_callee (f := 10) rfl ?_); refine goesL_ (some 66) rfl rfl Tryz.func10 (by kernel_rfl) rfl #[.agg #[.int .i64 t266, .int .i64 t268, .int .i64 t270, .int .i64 x272003_2, .int .u32 t278, .int .u32 t279, .int .i64 x272006_43]] rfl (by (try simp only [mA_, mC_, mN_]); first|done|rfl|(simp only [lD_, lT_]; rfl)) ?_; (with_reducible refine (waystoneref07_Right.calls t266 t268 t270 x272003_2 t278 t279 x272006_43 false _ A58.out).mono ?_); rintro e w83 ⟨rfl, hb⟩; refine ⟨_, rfl, ?_⟩; have n0_ := Aside0.mk (blk_below (g := gb261) (o := .cells #[.int .i64 0, .int .i64 0, .int .i64 0, .int .i64 0, .int .u32 0, .int .u32 0, .int .i64 0] 27 (0, 0)) (gK BK261.out) hb); have n1_ := Aside0.mk (blk_below (g := gb271) (o := .cells #[.int .i64 t266, .int .i64 t268, .int .i64 t270, .int .i64 x272003_2, .int .u32 t278, .int .u32 t279, .int .i64 x272006_43] 27 (0, 0)) (gK BK271.out) hb); have n2_ := Aside0.mk (blk_below (g := gb281) (o := .cells #[.int .u32 t278, .int .u32 t279] 25 (0, 0)) (gK BK281.out) hb); have n3_ := Aside0.mk (below_step (by repeat first|(with_reducible first|exact HB.out|apply ba|apply bd|apply b1|refine bs ?_ GE261.out|refine bs ?_ GE271.out|refine bs ?_ GE281.out)|exact HB.out) hb); clear BK261; clear BK271; clear BK281; clear HB; have BK261 := n0_; have BK271 := n1_; have BK281 := n2_; have HB := n3_; clear n0_ n1_ n2_ n3_; (try clear hb); (try clear hb2); (try clear hk); (try clear hi); have hnb84 := NB261_281.out; have hnc84 := NB281_261.out; have hcz85_0 : w83.cell? ⟨gb261, 0, none⟩ = some (.int .i64 0) := (blk_cell BK261.out 0).trans rfl; have hcz85_1 : w83.cell? ⟨gb261, 1, none⟩ = some (.int .i64 0) := (blk_cell BK261.out 1).trans rfl; have hcz85_2 : w83.cell? ⟨gb261, 2, none⟩ = some (.int .i64 0) := (blk_cell BK261.out 2).trans rfl; have hcz85_3 : w83.cell? ⟨gb261, 3, none⟩ = some (.int .i64 0) := (blk_cell BK261.out 3).trans rfl; have hcz85_4 : w83.cell? ⟨gb261, 4, none⟩ = some (.int .u32 0) := (blk_cell BK261.out 4).trans rfl; have hcz85_5 : w83.cell? ⟨gb261, 5, none⟩ = some (.int .u32 0) := (blk_cell BK261.out 5).trans rfl; have hcz85_6 : w83.cell? ⟨gb261, 6, none⟩ = some (.int .i64 0) := (blk_cell BK261.out 6).trans rfl; have hfz85_0 := blk_frozen BK261.out 0; have hfz85_1 := blk_frozen BK261.out 1; have hfz85_2 := blk_frozen BK261.out 2; have hfz85_3 := blk_frozen BK261.out 3; have hfz85_4 := blk_frozen BK261.out 4; have hfz85_5 := blk_frozen BK261.out 5; have hfz85_6 := blk_frozen BK261.out 6))
               refine bodyPost_ret (results_ct rfl _ _ gb261 27 #[.int .i64 0, .int .i64 0, .int .i64 0, .int .i64 0, .int .u32 0, .int .u32 0, .int .i64 0] (0, 0) _ rfl (by (with_reducible repeat (first | refine blk_drewN ?_ _ | refine blk_drew ?_ | refine blk_alloc ?_ _)); refine blk_put (cs := #[.int .i64 0, .int .i64 0, .int .i64 0, .int .i64 0, .int .u32 0, .int .u32 0, .int .i64 0]) ?_ 6 _ rfl; (with_reducible repeat (first | refine blk_drewN ?_ _ | refine blk_drew ?_ | refine blk_alloc ?_ _)); refine blk_put (cs := #[.int .i64 0, .int .i64 0, .int .i64 0, .int .i64 0, .int .u32 0, .int .u32 0, .int .i64 0]) ?_ 5 _ rfl; (with_reducible repeat (first | refine blk_drewN ?_ _ | refine blk_drew ?_ | refine blk_alloc ?_ _)); refine blk_put (cs := #[.int .i64 0, .int .i64 0, .int .i64 0, .int .i64 0, .int .u32 0, .int .u32 0, .int .i64 0]) ?_ 4 _ rfl; (with_reducible repeat (first | refine blk_drewN ?_ _ | refine blk_drew ?_ | refine blk_alloc ?_ _)); refine blk_put (cs := #[.int .i64 0, .int .i64 0, .int .i64 0, .int .i64 0, .int .u32 0, .int .u32 0, .int .i64 0]) ?_ 3 _ rfl; (with_reducible repeat (first | refine blk_drewN ?_ _ | refine blk_drew ?_ | refine blk_alloc ?_ _)); refine blk_put (cs := #[.int .i64 0, .int .i64 0, .int .i64 0, .int .i64 0, .int .u32 0, .int .u32 0, .int .i64 0]) ?_ 2 _ rfl; (with_reducible repeat (first | refine blk_drewN ?_ _ | refine blk_drew ?_ | refine blk_alloc ?_ _)); refine blk_put (cs := #[.int .i64 0, .int .i64 0, .int .i64 0, .int .i64 0, .int .u32 0, .int .u32 0, .int .i64 0]) ?_ 1 _ rfl; (with_reducible repeat (first | refine blk_drewN ?_ _ | refine blk_drew ?_ | refine blk_alloc ?_ _)); refine blk_put (cs := #[.int .i64 0, .int .i64 0, .int .i64 0, .int .i64 0, .int .u32 0, .int .u32 0, .int .i64 0]) ?_ 0 _ rfl; (with_reducible repeat (first | refine blk_drewN ?_ _ | refine blk_drew ?_ | refine blk_alloc ?_ _)); exact BK261.out) Tryz.underlying27 rfl (by kernel_rfl)) rfl ?_
               exact ⟨by first | rfl | (simp [errW_none, errW_some] <;> rfl) | (simp [*, errW_none, errW_some] <;> rfl), by repeat first|(with_reducible first|exact HB.out|apply ba|apply bd|apply b1|refine bs ?_ GE261.out|refine bs ?_ GE271.out|refine bs ?_ GE281.out)|exact HB.out⟩
             ·rw [if_neg c59] at H
              have c59b0 : (t280 == 0) = false := beq_eq_false_iff_ne.mpr c59
              have c59b1 : (t280 != 0) = true := bne_iff_ne.mpr c59
              simp only [Option.some.injEq, Prod.mk.injEq] at H
              obtain ⟨rfl, rfl, rfl, rfl, rfl, rfl, rfl, rfl⟩ := H
              have hnb86 := NB271_261.out
              have hnc86 := NB261_271.out
              have hnb87 := NB271_281.out
              have hnc87 := NB281_271.out
              have hcz88_0 : wc.cell? ⟨gb271, 0, none⟩ = some (.int .i64 t266) := (blk_cell BK271.out 0).trans rfl
              have hcz88_1 : wc.cell? ⟨gb271, 1, none⟩ = some (.int .i64 t268) := (blk_cell BK271.out 1).trans rfl
              have hcz88_2 : wc.cell? ⟨gb271, 2, none⟩ = some (.int .i64 t270) := (blk_cell BK271.out 2).trans rfl
              have hcz88_3 : wc.cell? ⟨gb271, 3, none⟩ = some (.int .i64 x272003_2) := (blk_cell BK271.out 3).trans rfl
              have hcz88_4 : wc.cell? ⟨gb271, 4, none⟩ = some (.int .u32 t278) := (blk_cell BK271.out 4).trans rfl
              have hcz88_5 : wc.cell? ⟨gb271, 5, none⟩ = some (.int .u32 t279) := (blk_cell BK271.out 5).trans rfl
              have hcz88_6 : wc.cell? ⟨gb271, 6, none⟩ = some (.int .i64 x272006_43) := (blk_cell BK271.out 6).trans rfl
              have hfz88_0 := blk_frozen BK271.out 0
              have hfz88_1 := blk_frozen BK271.out 1
              have hfz88_2 := blk_frozen BK271.out 2
              have hfz88_3 := blk_frozen BK271.out 3
              have hfz88_4 := blk_frozen BK271.out 4
              have hfz88_5 := blk_frozen BK271.out 5
              have hfz88_6 := blk_frozen BK271.out 6
              go_wp2_with (first | ((with_reducible refine gate_callee (f := 10) rfl ?_); refine goesL_ (some 66) rfl rfl Tryz.func10 (by kernel_rfl) rfl #[.agg #[.int .i64 t266, .int .i64 t268, .int .i64 t270, .int .i64 x272003_2, .int .u32 t278, .int .u32 t279, .int .i64 x272006_43]] rfl (by (try simp only [mA_, mC_, mN_]); first|done|rfl|(simp only [lD_, lT_]; rfl)) ?_; (with_reducible refine (waystoneref07_Right.calls t266 t268 t270 x272003_2 t278 t279 x272006_43 t284 _ A58.out).mono ?_); rintro e w89 ⟨rfl, hb⟩; refine ⟨_, rfl, ?_⟩; have n0_ := Aside0.mk (blk_below (g := gb261) (o := .cells #[.int .i64 0, .int .i64 0, .int .i64 0, .int .i64 0, .int .u32 0, .int .u32 0, .int .i64 0] 27 (0, 0)) (gK BK261.out) hb); have n1_ := Aside0.mk (blk_below (g := gb271) (o := .cells #[.int .i64 t266, .int .i64 t268, .int .i64 t270, .int .i64 x272003_2, .int .u32 t278, .int .u32 t279, .int .i64 x272006_43] 27 (0, 0)) (gK BK271.out) hb); have n2_ := Aside0.mk (blk_below (g := gb281) (o := .cells #[.int .u32 t278, .int .u32 t279] 25 (0, 0)) (gK BK281.out) hb); have n3_ := Aside0.mk (below_step (by repeat first|(with_reducible first|exact HB.out|apply ba|apply bd|apply b1|refine bs ?_ GE261.out|refine bs ?_ GE271.out|refine bs ?_ GE281.out)|exact HB.out) hb); clear BK261; clear BK271; clear BK281; clear HB; have BK261 := n0_; have BK271 := n1_; have BK281 := n2_; have HB := n3_; clear n0_ n1_ n2_ n3_; (try clear hb); (try clear hb2); (try clear hk); (try clear hi); have hnb90 := NB261_281.out; have hnc90 := NB281_261.out; have hcz91_0 : w89.cell? ⟨gb261, 0, none⟩ = some (.int .i64 0) := (blk_cell BK261.out 0).trans rfl; have hcz91_1 : w89.cell? ⟨gb261, 1, none⟩ = some (.int .i64 0) := (blk_cell BK261.out 1).trans rfl; have hcz91_2 : w89.cell? ⟨gb261, 2, none⟩ = some (.int .i64 0) := (blk_cell BK261.out 2).trans rfl; have hcz91_3 : w89.cell? ⟨gb261, 3, none⟩ = some (.int .i64 0) := (blk_cell BK261.out 3).trans rfl; have hcz91_4 : w89.cell? ⟨gb261, 4, none⟩ = some (.int .u32 0) := (blk_cell BK261.out 4).trans rfl; have hcz91_5 : w89.cell? ⟨gb261, 5, none⟩ = some (.int .u32 0) := (blk_cell BK261.out 5).trans rfl; have hcz91_6 : w89.cell? ⟨gb261, 6, none⟩ = some (.int .i64 0) := (blk_cell BK261.out 6).trans rfl; have hfz91_0 := blk_frozen BK261.out 0; have hfz91_1 := blk_frozen BK261.out 1; have hfz91_2 := blk_frozen BK261.out 2; have hfz91_3 := blk_frozen BK261.out 3; have hfz91_4 := blk_frozen BK261.out 4; have hfz91_5 := blk_frozen BK261.out 5; have hfz91_6 := blk_frozen BK261.out 6))
              refine bodyPost_ret (results_ct rfl _ _ gb261 27 #[.int .i64 0, .int .i64 0, .int .i64 0, .int .i64 0, .int .u32 0, .int .u32 0, .int .i64 0] (0, 0) _ rfl (by (with_reducible repeat (first | refine blk_drewN ?_ _ | refine blk_drew ?_ | refine blk_alloc ?_ _)); refine blk_put (cs := #[.int .i64 0, .int .i64 0, .int .i64 0, .int .i64 0, .int .u32 0, .int .u32 0, .int .i64 0]) ?_ 6 _ rfl; (with_reducible repeat (first | refine blk_drewN ?_ _ | refine blk_drew ?_ | refine blk_alloc ?_ _)); refine blk_put (cs := #[.int .i64 0, .int .i64 0, .int .i64 0, .int .i64 0, .int .u32 0, .int .u32 0, .int .i64 0]) ?_ 5 _ rfl; (with_reducible repeat (first | refine blk_drewN ?_ _ | refine blk_drew ?_ | refine blk_alloc ?_ _)); refine blk_put (cs := #[.int .i64 0, .int .i64 0, .int .i64 0, .int .i64 0, .int .u32 0, .int .u32 0, .int .i64 0]) ?_ 4 _ rfl; (with_reducible repeat (first | refine blk_drewN ?_ _ | refine blk_drew ?_ | refine blk_alloc ?_ _)); refine blk_put (cs := #[.int .i64 0, .int .i64 0, .int .i64 0, .int .i64 0, .int .u32 0, .int .u32 0, .int .i64 0]) ?_ 3 _ rfl; (with_reducible repeat (first | refine blk_drewN ?_ _ | refine blk_drew ?_ | refine blk_alloc ?_ _)); refine blk_put (cs := #[.int .i64 0, .int .i64 0, .int .i64 0, .int .i64 0, .int .u32 0, .int .u32 0, .int .i64 0]) ?_ 2 _ rfl; (with_reducible repeat (first | refine blk_drewN ?_ _ | refine blk_drew ?_ | refine blk_alloc ?_ _)); refine blk_put (cs := #[.int .i64 0, .int .i64 0, .int .i64 0, .int .i64 0, .int .u32 0, .int .u32 0, .int .i64 0]) ?_ 1 _ rfl; (with_reducible repeat (first | refine blk_drewN ?_ _ | refine blk_drew ?_ | refine blk_alloc ?_ _)); refine blk_put (cs := #[.int .i64 0, .int .i64 0, .int .i64 0, .int .i64 0, .int .u32 0, .int .u32 0, .int .i64 0]) ?_ 0 _ rfl; (with_reducible repeat (first | refine blk_drewN ?_ _ | refine blk_drew ?_ | refine blk_alloc ?_ _)); exact BK261.out) Tryz.underlying27 rfl (by kernel_rfl)) rfl ?_
              exact ⟨by first | rfl | (simp [errW_none, errW_some] <;> rfl) | (simp [*, errW_none, errW_some] <;> rfl), by repeat first|(with_reducible first|exact HB.out|apply ba|apply bd|apply b1|refine bs ?_ GE261.out|refine bs ?_ GE271.out|refine bs ?_ GE281.out)|exact HB.out⟩
          ·rw [if_neg c42] at H
           exact absurd H (by simp)
      ·rw [if_neg c15] at H
       exact absurd H (by simp)
     ·rw [if_neg c13] at H
      exact absurd H (by simp)
    ·rw [if_neg c11] at H
     exact absurd H (by simp)
end Go.Proofs.YtfjamikpahmfhaaGreatDoor.P
end
