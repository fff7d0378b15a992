/- Plain Lean: what ExprLoads computes is true for every input. -/
import Derived.Test.YteommchgnocgnaaEvF
import Derived.Test.YteommchgnocgnaaFLaw08ExprLoads
namespace Go.Proofs.Yteommchgnocgnaa.Pure
open Go.RowKit Go.Proofs.Yteommchgnocgnaa.PE Go.Proofs.YteommchgnocgnaaW.PrintWords Go.Proofs.YteommchgnocgnaaW.PrintLast
set_option linter.unusedVariables false

theorem loads_body {nm : ByteArray} {at_ : Int} {vs : List S38} {a : Int} (hg : ∀ p ∈ vs, good38 p) (h0 : 0 ≤ a) (h1 : a ≤ 5) (k : Nat) (u : Bool) :
    towncrierlaw08_ExprLoads.j0 (k + 1) a u false nm at_ vs = some true := by
  simp only [towncrierlaw08_ExprLoads.j0]
  rw [if_neg (by decide)]
  simp only [expr_Eval.f, Option.bind_some]
  rw [evalE_load h0 h1]
  by_cases hm : mayEv nm at_ vs = true
  · rw [if_pos hm]
    by_cases hl : (vs.length : Int) ≤ a
    · rw [if_pos hl]
      dsimp only
      rw [if_neg (by decide), if_pos (show a ≥ (vs.length : Int) from hl), if_pos rfl]; decide +kernel
    · rw [if_neg hl]
      dsimp only
      rw [if_neg (by decide), if_neg (show ¬ a ≥ (vs.length : Int) from hl), if_pos rfl, if_pos h0, if_pos (by omega)]
      have hmem := rd38_mem h0 (show a < (vs.length : Int) by omega)
      have hb := thing_back ((mayEv_vals hm).2 _ hmem) (hg _ hmem).2.1
      rw [hb.1, hb.2.1, hb.2.2]
      simp
  · rw [if_neg hm]
    dsimp only
    rw [if_pos rfl]; decide +kernel
theorem ExprLoads (nm : ByteArray) (at_ : Int) (vs : List S38) (hg : ∀ p ∈ vs, good38 p) (hn : nm.size ≤ maxLen) (ha : WFi at_) (a : Int) (w : WFi a) : ∃ k, towncrierlaw08_ExprLoads.f k nm at_ vs a = some true := by
  refine ⟨13, ?_⟩
  obtain ⟨b, hb⟩ := few06_some nm at_ vs
  unfold towncrierlaw08_ExprLoads.f
  rw [hb]
  simp only [towncrierlaw08_awake.f, Option.bind_some, if_true]
  cases b with
  | false => rfl
  | true =>
    rw [if_pos rfl]
    by_cases h0 : a < 0
    · rw [if_pos h0]; rfl
    · rw [if_neg h0]
      by_cases h5 : a > 5
      · rw [decide_eq_true h5]; rfl
      · rw [decide_eq_false h5]; exact loads_body hg (by omega) (by omega) 12 true

end Go.Proofs.Yteommchgnocgnaa.Pure
