import Derived.Test.YteommchgnocgnaaPE0
namespace Go.Proofs.Yteommchgnocgnaa.PE
open Go.RowKit Go.Proofs.YteommchgnocgnaaW.PrintWords Go.Proofs.YteommchgnocgnaaW.PrintLast Go.Proofs.YteommchgnocgnaaW.PrintMore
set_option linter.unusedVariables false
set_option linter.unusedSimpArgs false

/-- What value.held hands back. -/
def heldV (k n : Int) (s : ByteArray) : Value :=
  if k = 0 then (if s.toList.isEmpty = true then .iface 3 (.int .i64 n) else .nilIface)
  else if k = 1 then (if s.toList.isEmpty = true then (if IntKind.u64.wrap n < 2 then .iface 4 (.bool (n == 1)) else .nilIface) else .nilIface)
  else if k = 2 then (if n = 0 then (if (s.size : Int) ≤ 40 then .iface 9 (.string s) else .nilIface) else .nilIface)
  else if k = 3 then (if s.toList.isEmpty = true then (if 0 ≤ n then (if n ≤ 1125899906842624 then .iface 131 (.int .i64 n) else .nilIface) else .nilIface) else .nilIface)
  else .nilIface

set_option maxHeartbeats 8000000 in
set_option maxRecDepth 100000 in
theorem value_held.calls (k n : Int) (s : ByteArray) (w : World) : Calls Try.prog 58 #[.agg #[.int .i64 k, .int .i64 n, .string s]] w fun e w' => e = .returned (heldV k n s) ∧ Below w.heap.size w w' := by
  have hu38 := Try.underlying38
  unfold heldV
  have hB := (Below.refl w.heap.size w).alloc (Nat.le_refl _) (.cells #[.int .i64 k, .int .i64 n, .string s] 38)
  by_cases c0 : k = 0
  · subst c0
    by_cases cs : s.toList.isEmpty = true
    · rw [if_pos rfl, if_pos cs]
      go_enter Try.func58, Try.ntmps58
      go_wp2
      go_ret
      exact ⟨rfl, hB⟩
    · rw [if_pos rfl, if_neg cs]
      replace cs := Bool.eq_false_iff.mpr cs
      go_enter Try.func58, Try.ntmps58
      go_wp2
      go_ret
      exact ⟨rfl, hB⟩
  rw [if_neg c0]
  have b0 : (k == 0) = false := beq_eq_false_iff_ne.mpr c0
  by_cases c1 : k = 1
  · subst c1; clear c0 b0
    by_cases cs : s.toList.isEmpty = true
    · rw [if_pos rfl, if_pos cs]
      by_cases cn : IntKind.u64.wrap n < 2
      · rw [if_pos cn]
        have cn' : decide (IntKind.u64.wrap n < 2) = true := decide_eq_true cn
        clear cn
        go_enter Try.func58, Try.ntmps58
        go_wp2
        go_ret
        exact ⟨rfl, hB⟩
      · rw [if_neg cn]
        have cn' : decide (IntKind.u64.wrap n < 2) = false := decide_eq_false cn
        clear cn
        go_enter Try.func58, Try.ntmps58
        go_wp2
        go_ret
        exact ⟨rfl, hB⟩
    · rw [if_pos rfl, if_neg cs]
      replace cs := Bool.eq_false_iff.mpr cs
      go_enter Try.func58, Try.ntmps58
      go_wp2
      go_ret
      exact ⟨rfl, hB⟩
  rw [if_neg c1]
  have b1 : (k == 1) = false := beq_eq_false_iff_ne.mpr c1
  by_cases c2 : k = 2
  · subst c2; clear c0 b0 c1 b1
    rw [if_pos rfl]
    by_cases cn : n = 0
    · subst cn
      rw [if_pos rfl]
      by_cases cz : (s.size : Int) ≤ 40
      · rw [if_pos cz]
        have cn' : decide ((s.size : Int) ≤ 40) = true := decide_eq_true cz
        clear cz
        go_enter Try.func58, Try.ntmps58
        go_wp2
        go_ret
        exact ⟨rfl, hB⟩
      · rw [if_neg cz]
        have cn' : decide ((s.size : Int) ≤ 40) = false := decide_eq_false cz
        clear cz
        go_enter Try.func58, Try.ntmps58
        go_wp2
        go_ret
        exact ⟨rfl, hB⟩
    · rw [if_neg cn]
      have bn : (n == 0) = false := beq_eq_false_iff_ne.mpr cn
      clear cn
      go_enter Try.func58, Try.ntmps58
      go_wp2
      go_ret
      exact ⟨rfl, hB⟩
  rw [if_neg c2]
  have b2 : (k == 2) = false := beq_eq_false_iff_ne.mpr c2
  have b2' : (k != 2) = true := bne_iff_ne.mpr c2
  by_cases c3 : k = 3
  · subst c3; clear c0 b0 c1 b1 c2 b2 b2'
    by_cases cs : s.toList.isEmpty = true
    · rw [if_pos rfl, if_pos cs]
      by_cases cn : 0 ≤ n
      · rw [if_pos cn]
        have cn' : decide (0 ≤ n) = true := decide_eq_true cn
        clear cn
        by_cases cm : n ≤ 1125899906842624
        · rw [if_pos cm]
          have cm' : decide (n ≤ 1125899906842624) = true := decide_eq_true cm
          clear cm
          go_enter Try.func58, Try.ntmps58
          go_wp2
          go_ret
          exact ⟨rfl, hB⟩
        · rw [if_neg cm]
          have cm' : decide (n ≤ 1125899906842624) = false := decide_eq_false cm
          clear cm
          go_enter Try.func58, Try.ntmps58
          go_wp2
          go_ret
          exact ⟨rfl, hB⟩
      · rw [if_neg cn]
        have cn' : decide (0 ≤ n) = false := decide_eq_false cn
        clear cn
        go_enter Try.func58, Try.ntmps58
        go_wp2
        go_ret
        exact ⟨rfl, hB⟩
    · rw [if_pos rfl, if_neg cs]
      replace cs := Bool.eq_false_iff.mpr cs
      go_enter Try.func58, Try.ntmps58
      go_wp2
      go_ret
      exact ⟨rfl, hB⟩
  rw [if_neg c3]
  have b3 : (k == 3) = false := beq_eq_false_iff_ne.mpr c3
  clear c0 c1 c2 c3
  by_cases cs : s.toList.isEmpty = true
  · go_enter Try.func58, Try.ntmps58
    go_wp2
    go_ret
    exact ⟨rfl, hB⟩
  · replace cs := Bool.eq_false_iff.mpr cs
    go_enter Try.func58, Try.ntmps58
    go_wp2
    go_ret
    exact ⟨rfl, hB⟩

def mayB (k n : Int) (s : ByteArray) : Bool := match heldV k n s with | .nilIface => false | _ => true
theorem heldV_nil {k n : Int} {s : ByteArray} (h : mayB k n s = false) : heldV k n s = .nilIface := by
  unfold mayB heldV at *
  repeat' split
  all_goals simp_all
theorem heldV_some {k n : Int} {s : ByteArray} (h : mayB k n s = true) : ∃ T v, heldV k n s = .iface T v := by
  unfold mayB heldV at *
  repeat' split
  all_goals simp_all
def value_May.f (a0_0 : Int) (a0_1 : Int) (a0_2 : ByteArray) : Option (Bool) := some (mayB a0_0 a0_1 a0_2)
set_option maxHeartbeats 8000000 in
set_option maxRecDepth 100000 in
theorem value_May.calls (k n : Int) (s : ByteArray) (r : Bool) (w : World) (h : value_May.f k n s = some r) : Calls Try.prog 29 #[.agg #[.int .i64 k, .int .i64 n, .string s]] w fun e w' => e = .returned (.bool r) ∧ Below w.heap.size w w' := by
  have hu38 := Try.underlying38
  have hB := (Below.refl w.heap.size w).alloc (Nat.le_refl _) (.cells #[.int .i64 k, .int .i64 n, .string s] 38)
  obtain rfl := Option.some.inj h
  clear h
  cases hm : mayB k n s with
  | false =>
    have hv := Aside0.mk (heldV_nil hm)
    clear hm
    go_enter Try.func29, Try.ntmps29
    go_wp2_with fail
    refine (value_held.calls k n s _).mono ?_
    rintro e w1 ⟨rfl, hb⟩
    rw [hv.out]
    go_wp2
    go_ret
    exact ⟨rfl, below_step hB hb⟩
  | true =>
    obtain ⟨T, v, hv⟩ := heldV_some hm
    replace hv := Aside0.mk hv
    clear hm
    go_enter Try.func29, Try.ntmps29
    go_wp2_with fail
    refine (value_held.calls k n s _).mono ?_
    rintro e w1 ⟨rfl, hb⟩
    rw [hv.out]
    go_wp2
    go_ret
    exact ⟨rfl, below_step hB hb⟩
end Go.Proofs.Yteommchgnocgnaa.PE
