import Derived.Test.YteommchgnocgnaaHandA
import Derived.Test.YteommchgnocgnaaPE1
namespace Go.Proofs.Yteommchgnocgnaa.PE
open Go.RowKit Go.Proofs.YteommchgnocgnaaW.PrintWords Go.Proofs.YteommchgnocgnaaW.PrintLast Go.Proofs.YteommchgnocgnaaW.PrintMore
attribute [local go_sem high] eqA38
set_option linter.unusedVariables false
set_option linter.unusedSimpArgs false

/-- May a part of an expression be? -/
def opOk (c a k n : Int) (s : ByteArray) : Bool :=
  decide (0 ≤ c) && (decide (c < 10) && (decide (0 ≤ a) && (decide (a < 6) && ((c == 1 || a == 0) && ((c == 0 || (k == 0 && (n == 0 && s.toList.isEmpty))) && mayB k n s)))))


theorem opOk_no {c a k n : Int} {s : ByteArray} (h : c < 0 ∨ 10 ≤ c ∨ a < 0 ∨ 6 ≤ a ∨ (c ≠ 1 ∧ a ≠ 0)) : opOk c a k n s = false := by
  unfold opOk
  simp only [Bool.and_eq_false_iff, Bool.or_eq_false_iff, decide_eq_false_iff_not, beq_eq_false_iff_ne]
  rcases h with h | h | h | h | h
  · left; omega
  · right; left; omega
  · right; right; left; omega
  · right; right; right; left; omega
  · right; right; right; right; left; exact h
theorem opOk_z {c a k n : Int} {s : ByteArray} (h : c ≠ 0) (hz : (k == 0 && (n == 0 && s.toList.isEmpty)) = false) : opOk c a k n s = false := by
  unfold opOk
  rw [hz, beq_eq_false_iff_ne.mpr h]; simp
theorem opOk_yes {c a k n : Int} {s : ByteArray} (h1 : 0 ≤ c) (h2 : c < 10) (h3 : 0 ≤ a) (h4 : a < 6) (h5 : c = 1 ∨ a = 0) (hz : c = 0 ∨ (k == 0 && (n == 0 && s.toList.isEmpty)) = true) : opOk c a k n s = mayB k n s := by
  unfold opOk
  rw [decide_eq_true h1, decide_eq_true h2, decide_eq_true h3, decide_eq_true h4]
  have e5 : (c == 1 || a == 0) = true := by simpa using h5
  rw [e5]
  have e6 : (c == 0 || (k == 0 && (n == 0 && s.toList.isEmpty))) = true := by
    rcases hz with h | h
    · subst h; rfl
    · rw [h, Bool.or_true]
  rw [e6]; rfl

set_option maxHeartbeats 8000000 in
set_option maxRecDepth 100000 in
theorem expr_may1.calls (c a k n : Int) (s : ByteArray) (w : World) (R : Bool) (hR : Aside0 (R = !opOk c a k n s)) :
    Calls Try.prog 78 #[.agg #[.int .i64 c, .int .i64 a, .int .i64 k, .int .i64 n, .string s]] w fun e w' => e = .returned (.bool R) ∧ Below w.heap.size w w' := by
  have hu38 := Try.underlying38
  have hu50 := Try.underlying50
  have hB := (Below.refl w.heap.size w).alloc (Nat.le_refl _) (.cells #[.int .i64 c, .int .i64 a, .int .i64 k, .int .i64 n, .string s] 50)
  replace hB := Aside0.mk hB
  by_cases c1 : c = 1
  · subst c1
    by_cases g3 : a < 0
    · have f3 : decide (a < 0) = true := decide_eq_true g3
      have hr : R = true := by rw [hR.out, opOk_no (by omega)]; rfl
      replace hr := Aside0.mk hr; clear hR
      try clear g1
      try clear g2
      try clear g3
      try clear g4
      try clear gz
      try clear ga
      go_enter Try.func78, Try.ntmps78
      go_wp2
      go_ret
      exact ⟨by rw [hr.out]; rfl, hB.out⟩
    have f3 : decide (a < 0) = false := decide_eq_false g3
    by_cases g4 : 6 ≤ a
    · have f4 : decide (6 ≤ a) = true := decide_eq_true g4
      have hr : R = true := by rw [hR.out, opOk_no (by omega)]; rfl
      replace hr := Aside0.mk hr; clear hR
      try clear g1
      try clear g2
      try clear g3
      try clear g4
      try clear gz
      try clear ga
      go_enter Try.func78, Try.ntmps78
      go_wp2
      go_ret
      exact ⟨by rw [hr.out]; rfl, hB.out⟩
    have f4 : decide (6 ≤ a) = false := decide_eq_false g4
    cases gz : (k == 0 && (n == 0 && s.toList.isEmpty)) with
    | false =>
      have fz := gz
      have hr : R = true := by rw [hR.out, opOk_z (by omega) gz]; rfl
      replace hr := Aside0.mk hr; clear hR
      try clear g1
      try clear g2
      try clear g3
      try clear g4
      try clear gz
      try clear ga
      go_enter Try.func78, Try.ntmps78
      go_wp2
      go_ret
      exact ⟨by rw [hr.out]; rfl, hB.out⟩
    | true =>
      obtain ⟨rfl, rfl, hs⟩ : k = 0 ∧ n = 0 ∧ s.toList.isEmpty = true := by simpa using gz
      have hr : R = !mayB 0 0 s := by rw [hR.out, opOk_yes (by omega) (by omega) (by omega) (by omega) (by omega) (.inr gz)]
      replace hr := Aside0.mk hr; clear hR
      try clear g1
      try clear g2
      try clear g3
      try clear g4
      try clear gz
      try clear ga
      go_enter Try.func78, Try.ntmps78
      go_wp2_with (go_at_call 29; refine (value_May.calls _ _ _ _ _ rfl).mono ?_; rintro e w' ⟨rfl, hb⟩; replace hb := Aside0.mk (below_step hB.out hb))
      go_ret
      exact ⟨by rw [hr.out]; rfl, hb.out⟩
  have b1 : (c == 1) = false := beq_eq_false_iff_ne.mpr c1
  by_cases c0 : c = 0
  · subst c0; clear c1 b1
    by_cases g3 : a < 0
    · have f3 : decide (a < 0) = true := decide_eq_true g3
      have hr : R = true := by rw [hR.out, opOk_no (by omega)]; rfl
      replace hr := Aside0.mk hr; clear hR
      try clear g1
      try clear g2
      try clear g3
      try clear g4
      try clear gz
      try clear ga
      go_enter Try.func78, Try.ntmps78
      go_wp2
      go_ret
      exact ⟨by rw [hr.out]; rfl, hB.out⟩
    have f3 : decide (a < 0) = false := decide_eq_false g3
    by_cases g4 : 6 ≤ a
    · have f4 : decide (6 ≤ a) = true := decide_eq_true g4
      have hr : R = true := by rw [hR.out, opOk_no (by omega)]; rfl
      replace hr := Aside0.mk hr; clear hR
      try clear g1
      try clear g2
      try clear g3
      try clear g4
      try clear gz
      try clear ga
      go_enter Try.func78, Try.ntmps78
      go_wp2
      go_ret
      exact ⟨by rw [hr.out]; rfl, hB.out⟩
    have f4 : decide (6 ≤ a) = false := decide_eq_false g4
    by_cases ga : a = 0
    · subst ga; clear g3 g4 f3 f4
      have hr : R = !mayB k n s := by rw [hR.out, opOk_yes (by omega) (by omega) (by omega) (by omega) (by omega) (.inl rfl)]
      replace hr := Aside0.mk hr; clear hR
      try clear g1
      try clear g2
      try clear g3
      try clear g4
      try clear gz
      try clear ga
      go_enter Try.func78, Try.ntmps78
      go_wp2_with (go_at_call 29; refine (value_May.calls _ _ _ _ _ rfl).mono ?_; rintro e w' ⟨rfl, hb⟩; replace hb := Aside0.mk (below_step hB.out hb))
      go_ret
      exact ⟨by rw [hr.out]; rfl, hb.out⟩
    have fa : (a == 0) = false := beq_eq_false_iff_ne.mpr ga
    have hr : R = true := by rw [hR.out, opOk_no (by omega)]; rfl
    replace hr := Aside0.mk hr; clear hR
    try clear g1
    try clear g2
    try clear g3
    try clear g4
    try clear gz
    try clear ga
    go_enter Try.func78, Try.ntmps78
    go_wp2
    go_ret
    exact ⟨by rw [hr.out]; rfl, hB.out⟩
  have b0 : (c == 0) = false := beq_eq_false_iff_ne.mpr c0
  by_cases g1 : c < 0
  · have f1 : decide (c < 0) = true := decide_eq_true g1
    clear c1 c0
    have hr : R = true := by rw [hR.out, opOk_no (by omega)]; rfl
    replace hr := Aside0.mk hr; clear hR
    try clear g1
    try clear g2
    try clear g3
    try clear g4
    try clear gz
    try clear ga
    go_enter Try.func78, Try.ntmps78
    go_wp2
    go_ret
    exact ⟨by rw [hr.out]; rfl, hB.out⟩
  have f1 : decide (c < 0) = false := decide_eq_false g1
  by_cases g2 : 10 ≤ c
  · have f2 : decide (10 ≤ c) = true := decide_eq_true g2
    clear c1 c0
    have hr : R = true := by rw [hR.out, opOk_no (by omega)]; rfl
    replace hr := Aside0.mk hr; clear hR
    try clear g1
    try clear g2
    try clear g3
    try clear g4
    try clear gz
    try clear ga
    go_enter Try.func78, Try.ntmps78
    go_wp2
    go_ret
    exact ⟨by rw [hr.out]; rfl, hB.out⟩
  have f2 : decide (10 ≤ c) = false := decide_eq_false g2
  by_cases g3 : a < 0
  · have f3 : decide (a < 0) = true := decide_eq_true g3
    have hr : R = true := by rw [hR.out, opOk_no (by omega)]; rfl
    replace hr := Aside0.mk hr; clear hR
    try clear g1
    try clear g2
    try clear g3
    try clear g4
    try clear gz
    try clear ga
    go_enter Try.func78, Try.ntmps78
    go_wp2
    go_ret
    exact ⟨by rw [hr.out]; rfl, hB.out⟩
  have f3 : decide (a < 0) = false := decide_eq_false g3
  by_cases g4 : 6 ≤ a
  · have f4 : decide (6 ≤ a) = true := decide_eq_true g4
    have hr : R = true := by rw [hR.out, opOk_no (by omega)]; rfl
    replace hr := Aside0.mk hr; clear hR
    try clear g1
    try clear g2
    try clear g3
    try clear g4
    try clear gz
    try clear ga
    go_enter Try.func78, Try.ntmps78
    go_wp2
    go_ret
    exact ⟨by rw [hr.out]; rfl, hB.out⟩
  have f4 : decide (6 ≤ a) = false := decide_eq_false g4
  by_cases ga : a = 0
  case neg =>
    have fa : (a == 0) = false := beq_eq_false_iff_ne.mpr ga
    have hr : R = true := by rw [hR.out, opOk_no (by omega)]; rfl
    replace hr := Aside0.mk hr; clear hR
    try clear g1
    try clear g2
    try clear g3
    try clear g4
    try clear gz
    try clear ga
    go_enter Try.func78, Try.ntmps78
    go_wp2
    go_ret
    exact ⟨by rw [hr.out]; rfl, hB.out⟩
  subst ga; clear g3 g4 f3 f4
  cases gz : (k == 0 && (n == 0 && s.toList.isEmpty)) with
  | false =>
    have fz := gz
    have hr : R = true := by rw [hR.out, opOk_z (by omega) gz]; rfl
    replace hr := Aside0.mk hr; clear hR
    try clear g1
    try clear g2
    try clear g3
    try clear g4
    try clear gz
    try clear ga
    go_enter Try.func78, Try.ntmps78
    go_wp2
    go_ret
    exact ⟨by rw [hr.out]; rfl, hB.out⟩
  | true =>
    obtain ⟨rfl, rfl, hs⟩ : k = 0 ∧ n = 0 ∧ s.toList.isEmpty = true := by simpa using gz
    have hr : R = !mayB 0 0 s := by rw [hR.out, opOk_yes (by omega) (by omega) (by omega) (by omega) (by omega) (.inr gz)]
    replace hr := Aside0.mk hr; clear hR
    try clear g1
    try clear g2
    try clear g3
    try clear g4
    try clear gz
    try clear ga
    go_enter Try.func78, Try.ntmps78
    go_wp2_with (go_at_call 29; refine (value_May.calls _ _ _ _ _ rfl).mono ?_; rintro e w' ⟨rfl, hb⟩; replace hb := Aside0.mk (below_step hB.out hb))
    go_ret
    exact ⟨by rw [hr.out]; rfl, hb.out⟩
end Go.Proofs.Yteommchgnocgnaa.PE
