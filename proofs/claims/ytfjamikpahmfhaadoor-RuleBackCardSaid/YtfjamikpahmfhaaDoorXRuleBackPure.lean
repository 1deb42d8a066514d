/- Plain law of RuleBack: a right rule's text is parsed as it; two right ones have one text just if they are one. -/
import Derived.Test.YtfjamikpahmfhaaDoorXRuleAlive
import Derived.Test.YtfjamikpahmfhaaDoorPWaystonelaw07RuleBack
set_option linter.unusedSimpArgs false
set_option linter.unusedVariables false
namespace Go.Proofs.YtfjamikpahmfhaaDoor.P
open Go.RowKit Go.Proofs.YtfjamikpahmfhaaDoor.T Go.Proofs.YtfjamikpahmfhaaDoorW.PrintWords Go.Proofs.YtfjamikpahmfhaaDoorW.PrintLast Go.Proofs.YtfjamikpahmfhaaDoorW.PrintMore

theorem textT_inj (x y : Rl) (hx : okRule x) (hy : okRule y) (rx : rightB x = true) (ry : rightB y = true) (h : textT x = textT y) : x = y := by
  have h1 := parse_text_rule x hx rx
  have h2 := parse_text_rule y hy ry
  rw [h, h2] at h1
  have h3 := Option.some.inj h1
  simp only [Prod.mk.injEq] at h3
  obtain ⟨e0, e1, e2, e3, e4, e5, e6, _⟩ := h3
  obtain ⟨x0, x1, x2, x3, ⟨x4, x5⟩, x6⟩ := x
  obtain ⟨y0, y1, y2, y3, ⟨y4, y5⟩, y6⟩ := y
  simp only at e0 e1 e2 e3 e4 e5 e6
  subst e0 e1 e2 e3 e4 e5 e6
  rfl
theorem ruleBack_pure (x y : Rl) (hx : okRule x) (hy : okRule y) :
    waystonelaw07_RuleBack.f 400 x.f0 x.f1 x.f2 x.f3 x.f4.f0 x.f4.f1 x.f5 y.f0 y.f1 y.f2 y.f3 y.f4.f0 y.f4.f1 y.f5 = some true := by
  have hj : ∀ b : Bool, b = true → waystonelaw07_RuleBack.j0 400 b x.f0 x.f1 x.f2 x.f3 x.f4.f0 x.f4.f1 x.f5 y.f0 y.f1 y.f2 y.f3 y.f4.f0 y.f4.f1 y.f5 = some true := fun b hb => by
    subst hb
    rw [show (400 : Nat) = 399 + 1 from rfl]
    simp only [waystonelaw07_RuleBack.j0]
    rw [if_pos trivial, alive07_ge 399 (by omega)]
    rfl
  unfold waystonelaw07_RuleBack.f
  rw [rightRule_f x]
  simp only [Option.bind_some]
  cases rx : rightB x
  · rw [if_neg (by decide)]
    exact hj true rfl
  · rw [if_pos rfl, rightRule_f y]
    simp only [Option.bind_some]
    cases ry : rightB y
    · exact hj _ rfl
    · obtain ⟨_, _, _, tx⟩ := ruleText_f x hx rx
      obtain ⟨_, _, _, ty⟩ := ruleText_f y hy ry
      rw [show (400 : Nat) = 399 + 1 from rfl]
      simp only [waystonelaw07_RuleBack.j0]
      rw [if_neg (by decide), tx]
      simp only [Option.bind_some]
      rw [parse_text_rule x hx rx]
      simp only [Option.bind_some]
      rw [alive07_ge 399 (by omega)]
      simp only [Option.bind_some, if_pos trivial, beq_self_eq_true, Bool.and_self, ty]
      congr 1
      by_cases he : x = y
      · subst he
        simp
      · have hne : ((textT x).toList == (textT y).toList) = false := by
          apply beq_eq_false_iff_ne.2
          intro h
          apply he
          apply textT_inj x y hx hy rx ry
          rw [byte_toList, byte_toList] at h
          exact ByteArray.ext (Array.ext' h)
        have hE : (x.f0 == y.f0 && (x.f1 == y.f1 && (x.f2 == y.f2 && (x.f3 == y.f3 && ((x.f4.f0 == y.f4.f0 && (x.f4.f1 == y.f4.f1)) && (x.f5 == y.f5)))))) = false := by
          cases hb : (x.f0 == y.f0 && (x.f1 == y.f1 && (x.f2 == y.f2 && (x.f3 == y.f3 && ((x.f4.f0 == y.f4.f0 && (x.f4.f1 == y.f4.f1)) && (x.f5 == y.f5))))))
          · rfl
          · exfalso
            apply he
            simp only [Bool.and_eq_true, beq_iff_eq] at hb
            obtain ⟨e0, e1, e2, e3, ⟨e4, e5⟩, e6⟩ := hb
            obtain ⟨x0, x1, x2, x3, ⟨x4, x5⟩, x6⟩ := x
            obtain ⟨y0, y1, y2, y3, ⟨y4, y5⟩, y6⟩ := y
            simp only at e0 e1 e2 e3 e4 e5 e6
            subst e0 e1 e2 e3 e4 e5 e6
            rfl
        rw [hne, hE]
        rfl
end Go.Proofs.YtfjamikpahmfhaaDoor.P
