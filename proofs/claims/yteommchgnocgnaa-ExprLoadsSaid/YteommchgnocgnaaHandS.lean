import Derived.Test.YteommchgnocgnaaPE0
import Derived.Laws.Cover1
namespace Go.Proofs.Yteommchgnocgnaa.PE
open Go.RowKit Go.Proofs.YteommchgnocgnaaW.PrintWords Go.Proofs.YteommchgnocgnaaW.PrintLast Go.Proofs.YteommchgnocgnaaW.PrintMore
set_option linter.unusedVariables false
set_option linter.unusedSimpArgs false

def cmpS (a b : ByteArray) : Int := if Op.bytesLess a.toList b.toList = true then -1 else if (a.toList == b.toList) = true then 0 else 1
def cmp_Compare_string.f (a0 : ByteArray) (a1 : ByteArray) : Option (Int) := some (cmpS a0 a1)
set_option maxHeartbeats 8000000 in
set_option maxRecDepth 100000 in
theorem cmp_Compare_string.calls (a0 : ByteArray) (a1 : ByteArray) (r : Int) (w : World) (h : cmp_Compare_string.f a0 a1 = some r) :
    Calls Try.prog 61 #[.string a0, .string a1] w fun e w' => e = .returned (.int .i64 r) ∧ Drawn0 w w' := by
  obtain rfl := Option.some.inj h
  clear h
  unfold cmpS
  cases h1 : Op.bytesLess a0.toList a1.toList with
  | true =>
    rw [if_pos rfl]
    go_enter Try.func61, Try.ntmps61
    go_wp2
    go_ret
    exact ⟨rfl, Drawn0.refl _⟩
  | false =>
    rw [if_neg (by decide)]
    cases h2 : (a0.toList == a1.toList) with
    | true =>
      rw [if_pos rfl]
      go_enter Try.func61, Try.ntmps61
      go_wp2
      go_ret
      exact ⟨rfl, Drawn0.refl _⟩
    | false =>
      rw [if_neg (by decide)]
      go_enter Try.func61, Try.ntmps61
      go_wp2
      go_ret
      exact ⟨rfl, Drawn0.refl _⟩
end Go.Proofs.Yteommchgnocgnaa.PE
