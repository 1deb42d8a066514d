/- Arguments of rows: a rule, an array of two numbers, opened to what the walks ask. -/
import Derived.Test.YtfjamikpahmfhaaGreatDoorXRowRules
set_option linter.unusedVariables false
set_option linter.unusedSimpArgs false
namespace Go.Proofs.YtfjamikpahmfhaaGreatDoor.P
open Go.ChangeShapes Go.WideShapes Go.ChangeAt Go.RowKit
open Go.Deep

set_option maxRecDepth 100000 in
theorem open_rule_arg {H : Type} {enc : TypeId × Value → H} {W : World} {base : Nat} {v : Value} {d : DataW H} {ps : List MemPlace} (hv : Value.okWide Tryz.prog W .any base 27 v) (h : DataW.Trod enc Tryz.prog W 0 (fun _ => true) true 27 v d ps) :
    ∃ x : Rl, v = .agg #[.int .i64 x.f0, .int .i64 x.f1, .int .i64 x.f2, .int .i64 x.f3, .int .u32 x.f4.f0, .int .u32 x.f4.f1, .int .i64 x.f5] ∧ ruleOk x := by
  obtain ⟨cs, rfl, hsz⟩ := okWide_struct Tryz.underlying27 hv
  obtain ⟨fuel, hf⟩ := h
  obtain ⟨r, hr, ho⟩ := open_rule hf
  refine ⟨r, ?_, ho⟩
  have hc : cs = (rcells r).toArray := Array.ext' hr
  rw [hc]
  rfl
theorem okWide_array {P : Program} {w : World} {r : Reach} {base : Nat} {t : TypeId} {v : Value} {n : Nat} {e : TypeId} (ht : P.underlying t = some (.array n e)) (h : Value.okWide P w r base t v) : ∃ cs, v = .agg cs ∧ cs.size = P.cellsOf t := by
  simp only [Value.okWide, ht] at h
  obtain ⟨cs, h1, h2, _⟩ := h
  exact ⟨cs, h1, h2⟩
set_option maxRecDepth 100000 in
theorem open_arr2 {H : Type} {enc : TypeId × Value → H} {W : World} {base : Nat} {v : Value} {d : DataW H} {ps : List MemPlace} (hv : Value.okWide Tryz.prog W .any base 36 v) (h : DataW.Trod enc Tryz.prog W 0 (fun _ => true) true 36 v d ps) :
    ∃ a b : Int, v = .agg #[.int .i64 a, .int .i64 b] ∧ (Lit.int .i64 a).wf = true ∧ (Lit.int .i64 b).wf = true := by
  obtain ⟨cs, rfl, hsz⟩ := okWide_array Tryz.underlying36 hv
  obtain ⟨fuel, hf⟩ := h
  obtain ⟨xs, n1, _, _, hl, hxl, hi⟩ := DataW.trod_array Tryz.underlying36 hf
  have k3 : Tryz.prog.cellsOf 3 = 1 := by kernel_rfl
  have k36 : Tryz.prog.cellsOf 36 = 2 := by kernel_rfl
  rw [k36] at hsz
  have i0 := hi 0 (by decide)
  have i1 := hi 1 (by decide)
  rw [k3] at i0 i1
  have hx2 : xs.length = 2 := hxl
  obtain ⟨c0, c1, rfl⟩ : ∃ c0 c1, cs = #[c0, c1] := by
    match cs, hsz with
    | ⟨[c0, c1]⟩, _ => exact ⟨c0, c1, rfl⟩
  obtain ⟨z0, g0⟩ : ∃ y, xs[0]? = some y := ⟨_, List.getElem?_eq_getElem (by omega)⟩
  obtain ⟨z1, g1⟩ : ∃ y, xs[1]? = some y := ⟨_, List.getElem?_eq_getElem (by omega)⟩
  rw [g0] at i0
  rw [g1] at i1
  simp only [Value.cells, Nat.zero_mul, Nat.one_mul, List.drop_zero, List.drop_succ_cons, List.take_succ_cons, List.take_zero] at i0 i1
  obtain ⟨a, h0, -, w0⟩ := DataW.trod_int Tryz.underlying3 i0
  obtain ⟨b, h1, -, w1⟩ := DataW.trod_int Tryz.underlying3 i1
  cases h0
  cases h1
  exact ⟨a, b, rfl, w0, w1⟩
end Go.Proofs.YtfjamikpahmfhaaGreatDoor.P
