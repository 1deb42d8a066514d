/- Arguments of the rows over rules: a rule, a list of rules, opened to what the walks ask. -/
import Derived.Test.YtfjamikpahmfhaaGreatDoorXRuleAlive
import Derived.Deep.Slices
import Derived.ChangeSame
import Derived.Test.YtfjamikpahmfhaaGreatDoorXLaid
import Derived.Test.YtfjamikpahmfhaaGreatDoorCards
import Derived.Test.YtfjamikpahmfhaaGreatDoorTie
import Derived.WalkKit
import Derived.ProofKit
import Derived.OpenShut
import Derived.Deep.DeepHandedRow
import Derived.Deep.DeepWitnessRowRef
import Derived.Lib.LaidTab
import Derived.Lib.LaidU8
import Derived.Stop.LaidErr
import Derived.LaidMore
import Derived.HandedShaped
import Derived.Shelf.LaysM
set_option linter.unusedSimpArgs false
set_option linter.unusedVariables false
namespace Go.Proofs.YtfjamikpahmfhaaGreatDoor.P
open Go.ChangeShapes Go.WideShapes Go.ChangeAt Go.RowKit

theorem own : ownKnob Tryz.prog.godebug = none := by kernel_rfl
/-- The seven listed variables: every row of the seat lists just these. -/
def laidAll : List (String × DataW Unit) := [("math/bits.deBruijn32tab", Rows.laid_math_bits_deBruijn32tab), ("math/bits.deBruijn64tab", Rows.laid_math_bits_deBruijn64tab), ("internal/strconv.uint64pow10", Rows.laid_internal_strconv_uint64pow10), ("unicode/utf8.acceptRanges", Rows.laid_unicode_utf8_acceptRanges), ("strconv.ErrRange", Rows.laid_strconv_ErrRange), ("strconv.ErrSyntax", Rows.laid_strconv_ErrSyntax), ("unicode/utf8.first", Rows.laid_unicode_utf8_first)]
/-- A world for the witness: what the initialisers leave, the pinned table beside it. -/
noncomputable def laidWorld (os : Os) : World :=
  { World.doorLaid Tryz.prog 64 os with heap := (World.doorLaid Tryz.prog 64 os).heap.modify 4 fun
      | .cells _ t frozen => .cells (Pinned.utf8FirstZ.map fun z : Nat => Value.int .u8 (z : Int)).toArray t frozen
      | o => o }
theorem laid_met (os : Os) (args : Array Value) : laidMetH Tryz.prog laidAll ((laidWorld os).forCall (fun _ _ => 0) ⟨#[], args, []⟩).memory :=
  laidMetH_of_parts3 (fuel := 8) (laidMet_of_run' 8 (by kernel_rfl) (by kernel_rfl)) (by kernel_rfl) (by kernel_rfl)

/-- What a listed table gives. -/
theorem tab_of {W : World} {n : String} {k : IntKind} {zs : List Int} {g : Nat} {t e : TypeId} {m : Nat} (hg : Tryz.prog.globalNamed n = some g) (hty : (Tryz.prog.globals[g]?).map (·.type) = some t)
    (ht : Tryz.prog.underlying t = some (.array m e)) (he : Tryz.prog.underlying e = some (.int k)) (hce : Tryz.prog.cellsOf e = 1) (hct : Tryz.prog.cellsOf t = m)
    (h : Lib.VarReads Tryz.prog W n (Lib.tabData k zs)) : Lib.TabIs Tryz.prog W n k zs := by
  obtain ⟨g', t', cs, fuel, p, hg', ht', hvar, hd⟩ := h
  obtain rfl := Option.some.inj (hg.symm.trans hg')
  obtain rfl := Option.some.inj (hty.symm.trans ht')
  unfold Lib.TabIs
  rw [hvar, ← Lib.cells_of_tab ht he hce hct hd]
/-- What a listed sentinel gives. -/
theorem sent_of {W : World} {n nm : String} {d : DataW Unit} {g : Nat} {t : TypeId} {ms : Array (String × TypeId)} (hg : Tryz.prog.globalNamed n = some g) (hty : (Tryz.prog.globals[g]?).map (·.type) = some t)
    (ht : Tryz.prog.underlying t = some (.interface ms)) (h : Lib.VarReads Tryz.prog W n (.iface nm d)) : ∃ tp p, W.var? Tryz.prog n = some #[.iface tp p] := by
  obtain ⟨g', t', cs, fuel, p, hg', ht', hvar, hd⟩ := h
  obtain rfl := Option.some.inj (hg.symm.trans hg')
  obtain rfl := Option.some.inj (hty.symm.trans ht')
  obtain ⟨fuel', u, v, hcs, _, _⟩ := iface_of_trod ht hd
  refine ⟨u, v, ?_⟩
  rw [hvar, Array.eq_one_of_toList hcs]

set_option maxRecDepth 100000 in
theorem laid_of {W : World} (h0 : laidMetH Tryz.prog laidAll W) (hsh : W.ShapedOpen Tryz.prog) : Laid W := by
  have h : laidMet Tryz.prog laidAll W := by rw [MakeChecks.laidMetH_plain _ _ _ (by kernel_rfl)] at h0; exact h0
  obtain ⟨ps, hv, _⟩ := h
  have rd_ : ∀ {n : String} {d : DataW Unit}, (n, d) ∈ laidAll → Lib.VarReads Tryz.prog W n d := fun {n d} hm => Lib.LaidVars_reads hv n d hm
  refine ⟨?_, ?_, ?_, ?_, ?_, ?_⟩
  · exact cell_of_shapedOpen_int (g := 1) (zero := #[.int .i64 0]) (t := 3) hsh (of_decide_eq_true (by kernel_rfl)) (by kernel_rfl) rfl (by kernel_rfl) (by kernel_rfl) Tryz.underlying3
  · exact tab_of (g := 0) (by kernel_rfl) (by kernel_rfl) Tryz.underlying264 Tryz.underlying230 (by kernel_rfl) (by kernel_rfl) (rd_ (n := "internal/strconv.uint64pow10") (d := Rows.laid_internal_strconv_uint64pow10) (by simp [laidAll]))
  · exact sent_of (g := 2) (by kernel_rfl) (by kernel_rfl) Tryz.underlying153 (rd_ (n := "strconv.ErrSyntax") (d := Rows.laid_strconv_ErrSyntax) (by simp [laidAll]))
  · exact sent_of (g := 3) (by kernel_rfl) (by kernel_rfl) Tryz.underlying153 (rd_ (n := "strconv.ErrRange") (d := Rows.laid_strconv_ErrRange) (by simp [laidAll]))
  · have ht : Lib.TabIs Tryz.prog W "math/bits.deBruijn64tab" .u8 (Lib.deBruijn64tab.map fun n : Nat => (n : Int)) :=
      tab_of (g := 7) (by kernel_rfl) (by kernel_rfl) Tryz.underlying303 Tryz.underlying5 (by kernel_rfl) (by kernel_rfl) (rd_ (n := "math/bits.deBruijn64tab") (d := Rows.laid_math_bits_deBruijn64tab) (by simp [laidAll]))
    intro j hj
    have hc := ht.cell (g := 7) (by kernel_rfl) j (by rw [List.length_map]; exact hj)
    rw [hc]
    congr 2
    simp [List.getD_eq_getElem?_getD, hj]
  · first
    | (have ht : Lib.TabIs Tryz.prog W "math/bits.deBruijn32tab" .u8 [0, 1, 28, 2, 29, 14, 24, 3, 30, 22, 20, 15, 25, 17, 4, 8, 31, 27, 13, 23, 21, 19, 16, 7, 26, 12, 18, 6, 11, 5, 10, 9] := tab_of (g := 6) (by kernel_rfl) (by kernel_rfl) Tryz.underlying302 Tryz.underlying5 (by kernel_rfl) (by kernel_rfl) (rd_ (n := "math/bits.deBruijn32tab") (d := Rows.laid_math_bits_deBruijn32tab) (by simp [laidAll])); have hc := ht.cell (g := 6) (by kernel_rfl) 0 (by decide); exact World.block_lt_of_cell? W _ hc)
    | (have ht : Lib.TabIs Tryz.prog W "math/bits.deBruijn64tab" .u8 (Lib.deBruijn64tab.map fun n : Nat => (n : Int)) := tab_of (g := 7) (by kernel_rfl) (by kernel_rfl) Tryz.underlying303 Tryz.underlying5 (by kernel_rfl) (by kernel_rfl) (rd_ (n := "math/bits.deBruijn64tab") (d := Rows.laid_math_bits_deBruijn64tab) (by simp [laidAll])); have hc := ht.cell (g := 7) (by kernel_rfl) 0 (by decide); exact World.block_lt_of_cell? W _ hc)
end Go.Proofs.YtfjamikpahmfhaaGreatDoor.P
namespace Go.Proofs.YtfjamikpahmfhaaGreatDoor.P
open Go.ChangeShapes Go.WideShapes Go.ChangeAt Go.RowKit
open Go.Deep
open Go.Proofs.YtfjamikpahmfhaaGreatDoorW.PrintWords Go.Proofs.YtfjamikpahmfhaaGreatDoorW.PrintLast Go.Proofs.YtfjamikpahmfhaaGreatDoorW.PrintMore

/-- What the cells of a rule hold. -/
def ruleOk (r : Rl) : Prop := (-9223372036854775808 ≤ r.f0 ∧ r.f0 ≤ 9223372036854775807) ∧ okRule r
set_option maxRecDepth 100000 in
theorem open_rule {H : Type} {enc : TypeId × Value → H} {W : World} {base : Nat} {spare : Nat → Bool} {held : Bool} {n : Nat} {cs : List Value} {x : DataW H × List MemPlace} (h : DataW.trod enc Tryz.prog W base spare held n 27 cs = some x) : ∃ r : Rl, cs = rcells r ∧ ruleOk r := by
  obtain ⟨xs, n1, _, _, hl, hxl, hf⟩ := DataW.trod_struct Tryz.underlying27 h
  have hl7 : cs.length = 7 := hl.trans (by kernel_rfl)
  match cs, hl7 with
  | [c0, c1, c2, c3, c4, c5, c6], _ =>
    have i0 : DataW.trod enc Tryz.prog W base spare held n1 3 (([c0, c1, c2, c3, c4, c5, c6].drop 0).take (Tryz.prog.cellsOf 3)) = xs[0]? := hf 0 _ rfl
    have i1 : DataW.trod enc Tryz.prog W base spare held n1 3 (([c0, c1, c2, c3, c4, c5, c6].drop 1).take (Tryz.prog.cellsOf 3)) = xs[1]? := hf 1 _ rfl
    have i2 : DataW.trod enc Tryz.prog W base spare held n1 3 (([c0, c1, c2, c3, c4, c5, c6].drop 2).take (Tryz.prog.cellsOf 3)) = xs[2]? := hf 2 _ rfl
    have i3 : DataW.trod enc Tryz.prog W base spare held n1 22 (([c0, c1, c2, c3, c4, c5, c6].drop 3).take (Tryz.prog.cellsOf 22)) = xs[3]? := hf 3 _ rfl
    have i4 : DataW.trod enc Tryz.prog W base spare held n1 25 (([c0, c1, c2, c3, c4, c5, c6].drop 4).take (Tryz.prog.cellsOf 25)) = xs[4]? := hf 4 _ rfl
    have i5 : DataW.trod enc Tryz.prog W base spare held n1 3 (([c0, c1, c2, c3, c4, c5, c6].drop 6).take (Tryz.prog.cellsOf 3)) = xs[5]? := hf 5 _ rfl
    have k3 : Tryz.prog.cellsOf 3 = 1 := by kernel_rfl
    have k43 : Tryz.prog.cellsOf 22 = 1 := by kernel_rfl
    have k26 : Tryz.prog.cellsOf 25 = 2 := by kernel_rfl
    have k22 : Tryz.prog.cellsOf 23 = 1 := by kernel_rfl
    rw [k3] at i0 i1 i2 i5
    rw [k43] at i3
    rw [k26] at i4
    simp only [List.drop_zero, List.drop_succ_cons, List.take_succ_cons, List.take_zero] at i0 i1 i2 i3 i4 i5
    have hx6 : xs.length = 6 := hxl
    obtain ⟨ys0, e0⟩ : ∃ y, xs[0]? = some y := ⟨_, List.getElem?_eq_getElem (by omega)⟩
    obtain ⟨ys1, e1⟩ : ∃ y, xs[1]? = some y := ⟨_, List.getElem?_eq_getElem (by omega)⟩
    obtain ⟨ys2, e2⟩ : ∃ y, xs[2]? = some y := ⟨_, List.getElem?_eq_getElem (by omega)⟩
    obtain ⟨ys3, e3⟩ : ∃ y, xs[3]? = some y := ⟨_, List.getElem?_eq_getElem (by omega)⟩
    obtain ⟨ys4, e4⟩ : ∃ y, xs[4]? = some y := ⟨_, List.getElem?_eq_getElem (by omega)⟩
    obtain ⟨ys5, e5⟩ : ∃ y, xs[5]? = some y := ⟨_, List.getElem?_eq_getElem (by omega)⟩
    rw [e0] at i0
    rw [e1] at i1
    rw [e2] at i2
    rw [e3] at i3
    rw [e4] at i4
    rw [e5] at i5
    obtain ⟨a0, h0, -, w0⟩ := DataW.trod_int Tryz.underlying3 i0
    obtain ⟨a1, h1, -, w1⟩ := DataW.trod_int Tryz.underlying3 i1
    obtain ⟨a2, h2, -, w2⟩ := DataW.trod_int Tryz.underlying3 i2
    obtain ⟨a3, h3, -, w3⟩ := DataW.trod_int Tryz.underlying22 i3
    obtain ⟨a6, h6, -, w6⟩ := DataW.trod_int Tryz.underlying3 i5
    obtain ⟨zs, n2, _, _, _, hzl, hz⟩ := DataW.trod_struct Tryz.underlying25 i4
    have j0 : DataW.trod enc Tryz.prog W base spare held n2 23 (([c4, c5].drop 0).take (Tryz.prog.cellsOf 23)) = zs[0]? := hz 0 _ rfl
    have j1 : DataW.trod enc Tryz.prog W base spare held n2 23 (([c4, c5].drop 1).take (Tryz.prog.cellsOf 23)) = zs[1]? := hz 1 _ rfl
    rw [k22] at j0 j1
    simp only [List.drop_zero, List.drop_succ_cons, List.take_succ_cons, List.take_zero] at j0 j1
    have hz2 : zs.length = 2 := hzl
    obtain ⟨z0, g0⟩ : ∃ y, zs[0]? = some y := ⟨_, List.getElem?_eq_getElem (by omega)⟩
    obtain ⟨z1, g1⟩ : ∃ y, zs[1]? = some y := ⟨_, List.getElem?_eq_getElem (by omega)⟩
    rw [g0] at j0
    rw [g1] at j1
    obtain ⟨a4, h4, -, w4⟩ := DataW.trod_int Tryz.underlying23 j0
    obtain ⟨a5, h5, -, w5⟩ := DataW.trod_int Tryz.underlying23 j1
    cases h0
    cases h1
    cases h2
    cases h3
    cases h4
    cases h5
    cases h6
    exact ⟨⟨a0, a1, a2, a3, ⟨a4, a5⟩, a6⟩, rfl, bounds_i64 w0, bounds_u32 w4, bounds_u32 w5⟩
set_option maxRecDepth 100000 in
theorem open_rules {H : Type} {enc : TypeId × Value → H} {W : World} {base : Nat} {v : Value} {d : DataW H} {ps : List MemPlace} (hv : Value.okWide Tryz.prog W .any base 35 v) (h : DataW.Trod enc Tryz.prog W 0 (fun _ => true) true 35 v d ps) :
    ∃ (A : Option Addr) (c : Nat) (l : List Rl), v = .slice A l.length c ∧ l.length ≤ c ∧ l.length ≤ maxLen ∧ Kd.C k27 W A l.length l ∧ ∀ i : Nat, i < l.length → ruleOk (rd_T27 l (i : Int)) := by
  obtain ⟨a, len, cap, rfl⟩ := okWide_slice Tryz.underlying35 hv
  obtain ⟨fuel, hf⟩ := h
  rcases open_slice Tryz.underlying35 hf with ⟨hcs, _⟩ | ⟨ad, len', cap', m, n, D, Pl, hcs, _, hl, hm, hmm, _, hi⟩
  · simp [Value.cells] at hcs
    obtain ⟨rfl, rfl, rfl⟩ := hcs
    exact ⟨none, 0, [], rfl, Nat.le_refl _, Nat.zero_le _, ⟨rfl, by decide, fun h => absurd h (by decide)⟩, fun i hi => absurd hi (by simp)⟩
  · simp [Value.cells] at hcs
    obtain ⟨rfl, rfl, rfl⟩ := hcs
    have k45 : Tryz.prog.cellsOf 27 = 7 := by kernel_rfl
    have hmc : m = cap := by rw [hmm]; rfl
    have hx : ∀ i : Nat, ∃ r : Rl, i < len → ruleOk r ∧ ∀ j, j < 7 → W.cell? (ad.add (i * 7 + j)) = (rcells r)[j]? := by
      intro i
      by_cases hil : i < len
      · obtain ⟨cs', hc, ht⟩ := hi i (by omega)
        rw [k45] at hc
        obtain ⟨r, rfl, hr⟩ := open_rule ht
        obtain ⟨_, _, hat⟩ := World.cells?_some hc
        exact ⟨r, fun _ => ⟨hr, fun j hj => by rw [← Go.Deep.add_add]; exact hat j hj⟩⟩
      · exact ⟨z27, fun h => absurd h hil⟩
    let f : Nat → Rl := fun i => Classical.choose (hx i)
    have hfs : ∀ i, i < len → ruleOk (f i) ∧ ∀ j, j < 7 → W.cell? (ad.add (i * 7 + j)) = (rcells (f i))[j]? := fun i => Classical.choose_spec (hx i)
    have hll : ((List.range len).map f).length = len := by simp
    have hml : len ≤ maxLen := Nat.le_trans hl hm
    refine ⟨some ad, cap, (List.range len).map f, by rw [hll], by omega, by omega, ⟨rfl, by rw [hll]; exact hml, fun _ => ⟨ad, rfl, fun j p hj => ?_⟩⟩, fun i hi => ?_⟩
    · have hjl : j < len := by
        have := (List.getElem?_eq_some_iff.1 hj).1
        omega
      have hp : p = f j := by
        rw [List.getElem?_map, List.getElem?_range hjl] at hj
        exact (Option.some.inj hj).symm
      subst hp
      refine ⟨rcells (f j), rfl, k27_mk W (f j), fun i u hu => ?_⟩
      have hi7 : i < 7 := (List.getElem?_eq_some_iff.1 hu).1
      exact ((hfs j hjl).2 i hi7).trans hu
    · rw [hll] at hi
      rw [rd_getElem _ i (by rw [hll]; exact hi)]
      simp only [List.getElem_map, List.getElem_range]
      exact (hfs i hi).1
end Go.Proofs.YtfjamikpahmfhaaGreatDoor.P
