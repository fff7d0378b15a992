/- Plain Lean: what ExprForm computes is true for every input. -/
import Derived.Test.YteommchgnocgnaaEvF
import Derived.Test.YteommchgnocgnaaFLaw08ExprForm
namespace Go.Proofs.Yteommchgnocgnaa.Pure
open Go.RowKit Go.Proofs.Yteommchgnocgnaa.PE Go.Proofs.YteommchgnocgnaaW.PrintWords Go.Proofs.YteommchgnocgnaaW.PrintLast
set_option linter.unusedVariables false

theorem form_body {nm : ByteArray} {at_ : Int} {vs : List S38} {x : S38} {c : Int} (hx : mayB x.f0 x.f1 x.f2 = true) (hw : WFi x.f1) (h2 : ¬ c < 2) (h10 : ¬ c ≥ 10) (k : Nat) (u : Bool) :
    towncrierlaw08_ExprForm.j0 (k + 1) c u false nm at_ vs x.f0 x.f1 x.f2 = some true := by
  simp only [towncrierlaw08_ExprForm.j0]
  rw [if_neg (by decide)]
  have hb := thing_back hx hw
  simp only [expr_Eval.f, Option.bind_some]
  rw [evalE_nil, evalE_two hx, evalE_code h2 h10, evalE_one hx]
  dsimp only
  rw [if_pos rfl, if_pos rfl, if_pos rfl, if_pos rfl, hb.1, hb.2.1, hb.2.2]
  rw [if_pos (by simp)]
  simp [expr_Holds.f, expr_Eval.f]
theorem ExprForm (nm : ByteArray) (at_ : Int) (vs : List S38) (hg : ∀ p ∈ vs, good38 p) (hn : nm.size ≤ maxLen) (ha : WFi at_) (x : S38) (hgx : good38 x) (c : Int) (w : WFi c) : ∃ k, towncrierlaw08_ExprForm.f k nm at_ vs x.f0 x.f1 x.f2 c = some true := by
  refine ⟨13, ?_⟩
  obtain ⟨b, hb⟩ := few06_some nm at_ vs
  unfold towncrierlaw08_ExprForm.f
  rw [hb]
  simp only [towncrierlaw08_awake.f, Option.bind_some, if_true]
  cases b with
  | false => rfl
  | true =>
    rw [if_pos rfl]
    by_cases h40 : (x.f2.size : Int) > 40
    · rw [if_pos h40]; rfl
    · rw [if_neg h40]
      have em : value_May.f x.f0 x.f1 x.f2 = some (mayB x.f0 x.f1 x.f2) := rfl
      rw [em]
      simp only [Option.bind_some]
      by_cases hm : mayB x.f0 x.f1 x.f2 = true
      · rw [if_pos hm]
        by_cases h2 : c < 2
        · rw [if_pos h2]; rfl
        · rw [if_neg h2]
          by_cases h10 : c ≥ 10
          · rw [decide_eq_true h10]; rfl
          · rw [decide_eq_false h10]; exact form_body hm hgx.2.1 h2 h10 12 true
      · rw [if_neg hm]; rfl

end Go.Proofs.Yteommchgnocgnaa.Pure
