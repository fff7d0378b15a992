/- Plain Lean: what ExprSums computes is true for every input. -/
import Derived.Test.YteommchgnocgnaaFLaw08ExprSums
import Derived.Test.YteommchgnocgnaaEvA
namespace Go.Proofs.Yteommchgnocgnaa.Pure
open Go.RowKit Go.Proofs.Yteommchgnocgnaa.PE Go.Proofs.YteommchgnocgnaaW.PrintWords Go.Proofs.YteommchgnocgnaaW.PrintLast
set_option linter.unusedVariables false

theorem ExprSums : towncrierlaw08_ExprSums.Pure := by
  intro a b c ha hb hc
  have ha1 := int_bounds ha
  have hb1 := int_bounds hb
  refine ⟨2, ?_⟩
  unfold towncrierlaw08_ExprSums.f
  by_cases hc2 : c < 2
  · simp [towncrierlaw08_awake.f, hc2, towncrierlaw08_ExprSums.j0]
  by_cases hc4 : c > 4
  · simp [towncrierlaw08_awake.f, hc2, hc4, towncrierlaw08_ExprSums.j0]
  have h3 : c = 2 ∨ c = 3 ∨ c = 4 := by omega
  have key : ∀ s : Bool, (s = true → (sumT c a b).2 = true) → towncrierlaw08_ExprSums.j1 1 a b c (evalE ⟨#[97]⟩ 0 [] [⟨0, 0, ⟨0, a, ⟨#[]⟩⟩⟩, ⟨0, 0, ⟨0, b, ⟨#[]⟩⟩⟩, ⟨c, 0, ⟨0, 0, ⟨#[]⟩⟩⟩]).2.2.2 s (evalE ⟨#[97]⟩ 0 [] [⟨0, 0, ⟨0, a, ⟨#[]⟩⟩⟩, ⟨0, 0, ⟨0, b, ⟨#[]⟩⟩⟩, ⟨c, 0, ⟨0, 0, ⟨#[]⟩⟩⟩]).1 (evalE ⟨#[97]⟩ 0 [] [⟨0, 0, ⟨0, a, ⟨#[]⟩⟩⟩, ⟨0, 0, ⟨0, b, ⟨#[]⟩⟩⟩, ⟨c, 0, ⟨0, 0, ⟨#[]⟩⟩⟩]).2.1 (evalE ⟨#[97]⟩ 0 [] [⟨0, 0, ⟨0, a, ⟨#[]⟩⟩⟩, ⟨0, 0, ⟨0, b, ⟨#[]⟩⟩⟩, ⟨c, 0, ⟨0, 0, ⟨#[]⟩⟩⟩]).2.2.1 = some true := by
    intro s hs
    rw [evalE_sum a b c h3]
    by_cases h : (sumT c a b).2 = true
    · rw [if_pos h]
      rcases h3 with rfl | rfl | rfl
      · have := (sum_plus ha1.1 ha1.2 hb1.1 hb1.2).1 h
        simp only [towncrierlaw08_ExprSums.j1, if_true, this.1]
        rw [this.2]
      · have := (sum_minus ha1.1 ha1.2 hb1.1 hb1.2).1 h
        simp only [towncrierlaw08_ExprSums.j1, if_true, this.1]
        rw [if_neg (by decide), this.2]
      · have := (sum_times ha1.1 ha1.2 hb1.1 hb1.2).1 h
        simp only [towncrierlaw08_ExprSums.j1, if_true]
        rw [if_neg (by decide), if_neg (by decide)]
        by_cases hb0 : b = 0
        · rw [if_pos hb0, this.1 hb0]; rfl
        · rw [if_neg hb0, if_pos (this.2 hb0).1, if_pos (this.2 hb0).2]
    · rw [if_neg h]
      have hsf : s = false := by cases s; rfl; exact absurd (hs rfl) h
      subst hsf
      simp only [towncrierlaw08_ExprSums.j1]
      rw [if_neg (by decide), if_pos (by trivial), if_neg (by decide)]; decide +kernel
  have small : a < 1073741824 → a > -1073741824 → b < 1073741824 → b > -1073741824 → (sumT c a b).2 = true := by
    intro s1 s2 s3 s4
    by_cases h : (sumT c a b).2 = true
    · exact h
    · rcases h3 with rfl | rfl | rfl
      · exact absurd ⟨s1, s2, s3, s4⟩ ((sum_plus ha1.1 ha1.2 hb1.1 hb1.2).2 h)
      · exact absurd ⟨s1, s2, s3, s4⟩ ((sum_minus ha1.1 ha1.2 hb1.1 hb1.2).2 h)
      · exact absurd ⟨s1, s2, s3, s4⟩ ((sum_times ha1.1 ha1.2 hb1.1 hb1.2).2 h)
  simp only [towncrierlaw08_awake.f, Option.bind_some, if_true, if_neg hc2, decide_eq_false hc4, towncrierlaw08_ExprSums.j0]
  rw [if_neg (by decide)]
  simp only [expr_Eval.f, Option.bind_some]
  by_cases s1 : a < 1073741824
  · rw [if_pos s1]
    by_cases s2 : a > -1073741824
    · rw [if_pos s2]
      by_cases s3 : b < 1073741824
      · rw [if_pos s3]
        exact key _ (fun s4 => small s1 s2 s3 (of_decide_eq_true s4))
      · rw [if_neg s3]; exact key false (fun h => by cases h)
    · rw [if_neg s2]; exact key false (fun h => by cases h)
  · rw [if_neg s1]; exact key false (fun h => by cases h)

end Go.Proofs.Yteommchgnocgnaa.Pure
