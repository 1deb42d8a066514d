/- What the rows of this seat share: a start that fits, and what the listed variables give the walks. -/
import Derived.Test.YtfjamikpahmfhaaDoorXLaid
import Derived.Test.YtfjamikpahmfhaaDoorCards
import Derived.Test.YtfjamikpahmfhaaDoorTie
import Derived.WalkKit
import Derived.ProofKit
import Derived.OpenShut
import Derived.Deep.DeepHandedRow
import Derived.Deep.DeepWitnessRowRef
import Derived.Lib.LaidTab
import Derived.Lib.LaidU8
import Derived.Stop.LaidErr
import Derived.LaidMore
import Derived.HandedShaped
import Derived.Shelf.LaysM
set_option linter.unusedVariables false
set_option linter.unusedSimpArgs false
namespace Go.Proofs.YtfjamikpahmfhaaDoor.P
open Go.ChangeShapes Go.WideShapes Go.ChangeAt Go.RowKit

theorem own : ownKnob Tryd.prog.godebug = none := by kernel_rfl
/-- The seven listed variables: every row of the seat lists just these. -/
def laidAll : List (String × DataW Unit) := [("math/bits.deBruijn32tab", Rows.laid_math_bits_deBruijn32tab), ("math/bits.deBruijn64tab", Rows.laid_math_bits_deBruijn64tab), ("internal/strconv.uint64pow10", Rows.laid_internal_strconv_uint64pow10), ("unicode/utf8.acceptRanges", Rows.laid_unicode_utf8_acceptRanges), ("strconv.ErrRange", Rows.laid_strconv_ErrRange), ("strconv.ErrSyntax", Rows.laid_strconv_ErrSyntax), ("unicode/utf8.first", Rows.laid_unicode_utf8_first)]
/-- A world for the witness: what the initialisers leave, the pinned table beside it. -/
noncomputable def laidWorld (os : Os) : World :=
  { World.doorLaid Tryd.prog 64 os with heap := (World.doorLaid Tryd.prog 64 os).heap.modify 5 fun
      | .cells _ t frozen => .cells (Pinned.utf8FirstZ.map fun z : Nat => Value.int .u8 (z : Int)).toArray t frozen
      | o => o }
theorem laid_met (os : Os) (args : Array Value) : laidMetH Tryd.prog laidAll ((laidWorld os).forCall (fun _ _ => 0) ⟨#[], args, []⟩).memory :=
  laidMetH_of_parts3 (fuel := 8) (laidMet_of_run' 8 (by kernel_rfl) (by kernel_rfl)) (by kernel_rfl) (by kernel_rfl)

/-- What a listed table gives. -/
theorem tab_of {W : World} {n : String} {k : IntKind} {zs : List Int} {g : Nat} {t e : TypeId} {m : Nat} (hg : Tryd.prog.globalNamed n = some g) (hty : (Tryd.prog.globals[g]?).map (·.type) = some t)
    (ht : Tryd.prog.underlying t = some (.array m e)) (he : Tryd.prog.underlying e = some (.int k)) (hce : Tryd.prog.cellsOf e = 1) (hct : Tryd.prog.cellsOf t = m)
    (h : Lib.VarReads Tryd.prog W n (Lib.tabData k zs)) : Lib.TabIs Tryd.prog W n k zs := by
  obtain ⟨g', t', cs, fuel, p, hg', ht', hvar, hd⟩ := h
  obtain rfl := Option.some.inj (hg.symm.trans hg')
  obtain rfl := Option.some.inj (hty.symm.trans ht')
  unfold Lib.TabIs
  rw [hvar, ← Lib.cells_of_tab ht he hce hct hd]
/-- What a listed sentinel gives. -/
theorem sent_of {W : World} {n nm : String} {d : DataW Unit} {g : Nat} {t : TypeId} {ms : Array (String × TypeId)} (hg : Tryd.prog.globalNamed n = some g) (hty : (Tryd.prog.globals[g]?).map (·.type) = some t)
    (ht : Tryd.prog.underlying t = some (.interface ms)) (h : Lib.VarReads Tryd.prog W n (.iface nm d)) : ∃ tp p, W.var? Tryd.prog n = some #[.iface tp p] := by
  obtain ⟨g', t', cs, fuel, p, hg', ht', hvar, hd⟩ := h
  obtain rfl := Option.some.inj (hg.symm.trans hg')
  obtain rfl := Option.some.inj (hty.symm.trans ht')
  obtain ⟨fuel', u, v, hcs, _, _⟩ := iface_of_trod ht hd
  refine ⟨u, v, ?_⟩
  rw [hvar, Array.eq_one_of_toList hcs]

set_option maxRecDepth 100000 in
theorem laid_of {W : World} (h0 : laidMetH Tryd.prog laidAll W) (hsh : W.ShapedOpen Tryd.prog) : Laid W := by
  have h : laidMet Tryd.prog laidAll W := by rw [MakeChecks.laidMetH_plain _ _ _ (by kernel_rfl)] at h0; exact h0
  obtain ⟨ps, hv, _⟩ := h
  have rd_ : ∀ {n : String} {d : DataW Unit}, (n, d) ∈ laidAll → Lib.VarReads Tryd.prog W n d := fun {n d} hm => Lib.LaidVars_reads hv n d hm
  refine ⟨?_, ?_, ?_, ?_, ?_, ?_⟩
  · exact cell_of_shapedOpen_int (g := 0) (zero := #[.int .i64 0]) (t := 3) hsh (of_decide_eq_true (by kernel_rfl)) (by kernel_rfl) rfl (by kernel_rfl) (by kernel_rfl) Tryd.underlying3
  · exact tab_of (g := 4) (by kernel_rfl) (by kernel_rfl) Tryd.underlying138 Tryd.underlying95 (by kernel_rfl) (by kernel_rfl) (rd_ (n := "internal/strconv.uint64pow10") (d := Rows.laid_internal_strconv_uint64pow10) (by simp [laidAll]))
  · exact sent_of (g := 2) (by kernel_rfl) (by kernel_rfl) Tryd.underlying86 (rd_ (n := "strconv.ErrSyntax") (d := Rows.laid_strconv_ErrSyntax) (by simp [laidAll]))
  · exact sent_of (g := 3) (by kernel_rfl) (by kernel_rfl) Tryd.underlying86 (rd_ (n := "strconv.ErrRange") (d := Rows.laid_strconv_ErrRange) (by simp [laidAll]))
  · have ht : Lib.TabIs Tryd.prog W "math/bits.deBruijn64tab" .u8 (Lib.deBruijn64tab.map fun n : Nat => (n : Int)) :=
      tab_of (g := 1) (by kernel_rfl) (by kernel_rfl) Tryd.underlying129 Tryd.underlying5 (by kernel_rfl) (by kernel_rfl) (rd_ (n := "math/bits.deBruijn64tab") (d := Rows.laid_math_bits_deBruijn64tab) (by simp [laidAll]))
    intro j hj
    have hc := ht.cell (g := 1) (by kernel_rfl) j (by rw [List.length_map]; exact hj)
    rw [hc]
    congr 2
    simp [List.getD_eq_getElem?_getD, hj]
  · have ht : Lib.TabIs Tryd.prog W "math/bits.deBruijn32tab" .u8 [0, 1, 28, 2, 29, 14, 24, 3, 30, 22, 20, 15, 25, 17, 4, 8, 31, 27, 13, 23, 21, 19, 16, 7, 26, 12, 18, 6, 11, 5, 10, 9] :=
      tab_of (g := 7) (by kernel_rfl) (by kernel_rfl) Tryd.underlying153 Tryd.underlying5 (by kernel_rfl) (by kernel_rfl) (rd_ (n := "math/bits.deBruijn32tab") (d := Rows.laid_math_bits_deBruijn32tab) (by simp [laidAll]))
    have hc := ht.cell (g := 7) (by kernel_rfl) 0 (by decide)
    exact World.block_lt_of_cell? W _ hc
end Go.Proofs.YtfjamikpahmfhaaDoor.P
