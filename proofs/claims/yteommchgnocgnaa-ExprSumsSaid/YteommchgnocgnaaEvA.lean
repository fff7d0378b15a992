/- Plain laws of what an expression comes to (evalE): values that are pushed, sums. No program is in sight. -/
import Derived.Test.YteommchgnocgnaaHandX
namespace Go.Proofs.Yteommchgnocgnaa.PE
open Go.RowKit Go.Proofs.YteommchgnocgnaaW.PrintWords Go.Proofs.YteommchgnocgnaaW.PrintLast Go.Proofs.YteommchgnocgnaaW.PrintMore
set_option linter.unusedVariables false
set_option linter.unusedSimpArgs false

theorem nameA : nameB ⟨#[97]⟩ = true := by decide +kernel
theorem mayEvA : mayEv ⟨#[97]⟩ 0 [] = true := by decide +kernel
theorem mayB_int (n : Int) : mayB 0 n ⟨#[]⟩ = true := by kernel_rfl
theorem opOk_push (n : Int) : opOk 0 0 0 n ⟨#[]⟩ = true := by kernel_rfl
theorem opOk_sum {c : Int} (h : c = 2 ∨ c = 3 ∨ c = 4) : opOk c 0 0 0 ⟨#[]⟩ = true := by
  rcases h with rfl | rfl | rfl <;> kernel_rfl
theorem twoT_num {c : Int} (hc : c ≠ 6 ∧ c ≠ 5 ∧ ¬ (c = 7 ∨ c = 8)) (p q : Int) : twoT c (.num p) (.num q) = if (sumT c p q).2 = true then (some (.num (sumT c p q).1), 0) else (none, 6) := by
  unfold twoT
  rw [if_pos (show tK (Thing.num p) = tK (Thing.num q) from rfl), if_neg hc.1, if_neg hc.2.1, if_neg hc.2.2]
theorem evalE_sum (a b c : Int) (h : c = 2 ∨ c = 3 ∨ c = 4) :
    evalE ⟨#[97]⟩ 0 [] [⟨0, 0, ⟨0, a, ⟨#[]⟩⟩⟩, ⟨0, 0, ⟨0, b, ⟨#[]⟩⟩⟩, ⟨c, 0, ⟨0, 0, ⟨#[]⟩⟩⟩] = if (sumT c a b).2 = true then (0, (sumT c a b).1, ⟨#[]⟩, 0) else (0, 0, ⟨#[]⟩, 6) := by
  have h1 : mayE [⟨0, 0, ⟨0, a, ⟨#[]⟩⟩⟩, ⟨0, 0, ⟨0, b, ⟨#[]⟩⟩⟩, ⟨c, 0, ⟨0, 0, ⟨#[]⟩⟩⟩] = true := by
    unfold mayE opBad
    simp [opOk_push, opOk_sum h]
  unfold evalE
  rw [if_pos h1, if_pos mayEvA]
  have hc : c ≠ 0 ∧ c ≠ 1 ∧ c ≠ 9 ∧ c ≠ 6 ∧ c ≠ 5 ∧ ¬ (c = 7 ∨ c = 8) := by omega
  cases hs : (sumT c a b).2 <;>
  simp [evalT, throughL, partL, laid2, twoT_num hc.2.2.2, thingOf, hc, tK, tN, tS, hs]

theorem int_bounds {n : Int} (h : (Lit.int .i64 n).wf = true) : -9223372036854775808 ≤ n ∧ n < 9223372036854775808 := by
  have h1 : (decide (IntKind.i64.min ≤ n) && decide (n ≤ IntKind.i64.max)) = true := h
  rw [Bool.and_eq_true] at h1
  have a := of_decide_eq_true h1.1
  have b := of_decide_eq_true h1.2
  have e1 : IntKind.i64.min = -9223372036854775808 := by decide +kernel
  have e2 : IntKind.i64.max = 9223372036854775807 := by decide +kernel
  omega

theorem wrap64_id {n : Int} (h1 : -9223372036854775808 ≤ n) (h2 : n < 9223372036854775808) : wrap64 n = n := by unfold wrap64; omega
theorem wrap64_eq (n : Int) : ∃ q : Int, wrap64 n = n + q * 18446744073709551616 := ⟨-((n + 9223372036854775808) / 18446744073709551616), by unfold wrap64; omega⟩
theorem wrap64_lo (n : Int) : -9223372036854775808 ≤ wrap64 n := by unfold wrap64; omega
theorem wrap64_hi (n : Int) : wrap64 n < 9223372036854775808 := by unfold wrap64; omega

theorem sum_plus {a b : Int} (ha : -9223372036854775808 ≤ a) (ha' : a < 9223372036854775808) (hb : -9223372036854775808 ≤ b) (hb' : b < 9223372036854775808) :
    ((sumT 2 a b).2 = true → wrap64 ((sumT 2 a b).1 - b) = a ∧ (decide (b ≥ 0) == decide ((sumT 2 a b).1 ≥ a)) = true) ∧
    ((sumT 2 a b).2 ≠ true → ¬ (a < 1073741824 ∧ a > -1073741824 ∧ b < 1073741824 ∧ b > -1073741824)) := by
  have e : sumT 2 a b = (wrap64 (a + b), (decide (wrap64 (a + b) > a) == decide (b > 0))) := rfl
  rw [e]
  simp only [ne_eq, beq_iff_eq, decide_eq_decide]
  unfold wrap64
  refine ⟨fun h => ⟨by omega, ?_⟩, fun h => ?_⟩ <;> omega
theorem sum_minus {a b : Int} (ha : -9223372036854775808 ≤ a) (ha' : a < 9223372036854775808) (hb : -9223372036854775808 ≤ b) (hb' : b < 9223372036854775808) :
    ((sumT 3 a b).2 = true → wrap64 ((sumT 3 a b).1 + b) = a ∧ (decide (b ≥ 0) == decide ((sumT 3 a b).1 ≤ a)) = true) ∧
    ((sumT 3 a b).2 ≠ true → ¬ (a < 1073741824 ∧ a > -1073741824 ∧ b < 1073741824 ∧ b > -1073741824)) := by
  have e : sumT 3 a b = (wrap64 (a - b), (decide (wrap64 (a - b) < a) == decide (b > 0))) := rfl
  rw [e]
  simp only [ne_eq, beq_iff_eq, decide_eq_decide]
  unfold wrap64
  refine ⟨fun h => ⟨by omega, ?_⟩, fun h => ?_⟩ <;> omega
theorem tdiv_small {n b : Int} : -(n.natAbs : Int) ≤ n.tdiv b ∧ n.tdiv b ≤ n.natAbs := by
  have h := Int.natAbs_tdiv n b
  have h2 : (n.tdiv b).natAbs ≤ n.natAbs := by rw [h]; exact Nat.div_le_self _ _
  omega
theorem sum_times {a b : Int} (ha : -9223372036854775808 ≤ a) (ha' : a < 9223372036854775808) (hb : -9223372036854775808 ≤ b) (hb' : b < 9223372036854775808) :
    ((sumT 4 a b).2 = true → (b = 0 → (sumT 4 a b).1 = 0) ∧ (b ≠ 0 → wrap64 ((sumT 4 a b).1.tdiv b) = a ∧ (sumT 4 a b).1.tmod b = 0)) ∧
    ((sumT 4 a b).2 ≠ true → ¬ (a < 1073741824 ∧ a > -1073741824 ∧ b < 1073741824 ∧ b > -1073741824)) := by
  by_cases a0 : a = 0
  · subst a0
    have e : sumT 4 0 b = (0, true) := rfl
    rw [e]
    refine ⟨fun _ => ⟨fun _ => rfl, fun _ => ⟨?_, ?_⟩⟩, fun h => absurd rfl h⟩
    · rw [Int.zero_tdiv]; exact wrap64_id (by omega) (by omega)
    · exact Int.zero_tmod b
  by_cases b0 : b = 0
  · subst b0
    have e : sumT 4 a 0 = (0, true) := by unfold sumT expr_sum.f; simp [a0]
    rw [e]
    exact ⟨fun _ => ⟨fun _ => rfl, fun h => absurd rfl h⟩, fun h => absurd rfl h⟩
  have e : sumT 4 a b = (wrap64 (a * b), decide (wrap64 ((wrap64 (a * b)).tdiv b) = a ∧ ¬ (b = -1 ∧ a = wrap64 (a * b)) ∧ ¬ (a = -1 ∧ b = wrap64 (a * b)))) := by
    unfold sumT expr_sum.f
    rw [if_neg (by decide), if_neg (by decide), if_neg a0, if_neg b0]
    by_cases h1 : wrap64 ((wrap64 (a * b)).tdiv b) = a
    · rw [if_pos h1]
      by_cases h2 : b = -1
      · rw [if_pos h2]
        by_cases h3 : a = wrap64 (a * b)
        · rw [if_pos h3]; rw [decide_eq_false (by intro h; exact h.2.1 ⟨h2, h3⟩)]; rfl
        · rw [if_neg h3]
          by_cases h4 : a = -1
          · rw [if_pos h4]
            by_cases h5 : b = wrap64 (a * b)
            · rw [decide_eq_false (by intro h; exact h.2.2 ⟨h4, h5⟩)]; simp [← h5]
            · rw [decide_eq_true ⟨h1, fun h => h3 h.2, fun h => h5 h.2⟩]; simp [h5]
          · rw [if_neg h4, decide_eq_true ⟨h1, fun h => h3 h.2, fun h => h4 h.1⟩]; rfl
      · rw [if_neg h2]
        by_cases h4 : a = -1
        · rw [if_pos h4]
          by_cases h5 : b = wrap64 (a * b)
          · rw [decide_eq_false (by intro h; exact h.2.2 ⟨h4, h5⟩)]; simp [← h5]
          · rw [decide_eq_true ⟨h1, fun h => h2 h.1, fun h => h5 h.2⟩]; simp [h5]
        · rw [if_neg h4, decide_eq_true ⟨h1, fun h => h2 h.1, fun h => h4 h.1⟩]; rfl
    · rw [if_neg h1, decide_eq_false (by intro h; exact h1 h.1)]; rfl
  rw [e]
  have hlo := wrap64_lo (a * b)
  have hhi := wrap64_hi (a * b)
  obtain ⟨q, hq⟩ := wrap64_eq (a * b)
  refine ⟨fun h => ⟨fun h' => absurd h' b0, fun _ => ?_⟩, fun h hs => ?_⟩
  · obtain ⟨h1, h2, h3⟩ := of_decide_eq_true h
    refine ⟨h1, ?_⟩
    show (wrap64 (a * b)).tmod b = 0
    generalize hn : wrap64 (a * b) = n at *
    have hts := @tdiv_small n b
    have hdm := Int.mul_tdiv_add_tmod n b
    have hml : n.tmod b < b.natAbs ∧ -(b.natAbs : Int) < n.tmod b := by
      have hm := Int.natAbs_tmod n b
      have hb1 : 0 < b.natAbs := by omega
      have := Nat.mod_lt n.natAbs hb1
      omega
    have ht : n.tdiv b = a := by
      by_cases hx : n.tdiv b < 9223372036854775808
      · rw [wrap64_id (by omega) hx] at h1; exact h1
      · exfalso
        have hn1 : n = -9223372036854775808 := by omega
        have ht1 : n.tdiv b = 9223372036854775808 := by omega
        rw [ht1] at h1
        have ha1 : a = -9223372036854775808 := by rw [← h1]; unfold wrap64; omega
        have hnat : n.natAbs / b.natAbs = 9223372036854775808 := by
          have := Int.natAbs_tdiv n b
          rw [ht1] at this; exact this.symm
        have hb2 : b.natAbs = 1 := by
          have h5 : n.natAbs = 9223372036854775808 := by omega
          rw [h5] at hnat
          have h6 := Nat.div_mul_le_self 9223372036854775808 b.natAbs
          rw [hnat] at h6
          omega
        have hb3 : b = 1 ∨ b = -1 := by omega
        rcases hb3 with hb3 | hb3
        · subst hb3; rw [Int.tdiv_one] at ht1; omega
        · exact h2 ⟨hb3, by omega⟩
    rw [ht] at hdm
    have : n.tmod b = q * 18446744073709551616 := by
      have : b * a = a * b := Int.mul_comm _ _
      omega
    omega
  · apply h
    obtain ⟨s1, s2, s3, s4⟩ := hs
    have hm : (a * b).natAbs ≤ 1073741824 * 1073741824 := by
      rw [Int.natAbs_mul]
      exact Nat.mul_le_mul (by omega) (by omega)
    have hw : wrap64 (a * b) = a * b := wrap64_id (by omega) (by omega)
    apply decide_eq_true
    rw [hw, Int.mul_tdiv_cancel _ b0, wrap64_id ha ha']
    refine ⟨rfl, fun h => ?_, fun h => ?_⟩
    · obtain ⟨rfl, h⟩ := h; omega
    · obtain ⟨rfl, h⟩ := h; omega

end Go.Proofs.Yteommchgnocgnaa.PE
