import Derived.Test.YteommchgnocgnaaPE0

namespace Go.Proofs.Yteommchgnocgnaa.PE
open Go.RowKit Go.Proofs.YteommchgnocgnaaW.PrintWords Go.Proofs.YteommchgnocgnaaW.PrintLast Go.Proofs.YteommchgnocgnaaW.PrintMore
set_option linter.unusedVariables false
set_option linter.unusedSimpArgs false

def putL (n : Nat) : List Int := if h : n < 128 then [(n : Int)] else Go.bits .or .u8 ((n : Int) % 256) 128 :: putL (n / 128)
termination_by n
decreasing_by omega
theorem putL_small {n : Nat} (h : n < 128) : putL n = [(n : Int)] := by rw [putL, dif_pos h]
theorem putL_big {n : Nat} (h : 128 ≤ n) : putL n = Go.bits .or .u8 ((n : Int) % 256) 128 :: putL (n / 128) := by rw [putL, dif_neg (by omega)]
theorem putL_len (m : Nat) : ∀ n, n < 128 ^ (m + 1) → (putL n).length ≤ m + 1 := by
  induction m with
  | zero => intro n h; rw [putL_small (by simpa using h)]; simp
  | succ m ih =>
    intro n h
    by_cases hs : n < 128
    · rw [putL_small hs]; simp
    · rw [putL_big (by omega)]
      have := ih (n / 128) (by rw [Nat.div_lt_iff_lt_mul (by omega)]; rw [Nat.pow_succ] at h; exact h)
      simp only [List.length_cons]; omega

def le_Put.f (a0 : Int) : Option (List Int) := if 0 ≤ a0 then (if a0 < 18446744073709551616 then some (putL a0.toNat) else none) else none

set_option maxHeartbeats 8000000 in
set_option maxRecDepth 100000 in
theorem le_Put.calls (a0 : Int) (r : List Int) (w : World) (h : le_Put.f a0 = some r) :
    Calls Try.prog 48 #[.int .u64 a0] w fun e w' => ∃ v0_ : Value, e = .returned (v0_) ∧ Kd.R (Kd.int .u8) 5 w' w.heap.size (fun _ => True) v0_ r ∧ Below w.heap.size w w' := by
  have HB := Aside0.mk (Below.refl w.heap.size w)
  unfold le_Put.f at h
  by_cases h0 : 0 ≤ a0
  case neg => rw [if_neg h0] at h; exact absurd h (by simp)
  rw [if_pos h0] at h
  by_cases h1 : a0 < 18446744073709551616
  case neg => rw [if_neg h1] at h; exact absurd h (by simp)
  rw [if_pos h1] at h
  obtain ⟨a, rfl⟩ := Int.eq_ofNat_of_zero_le h0
  have hlen := putL_len 9 a (by omega)
  obtain ⟨L, hL⟩ : ∃ L, L = putL a := ⟨_, rfl⟩
  rw [Int.toNat_natCast, ← hL] at h
  rw [← hL] at hlen
  obtain rfl := Option.some.inj h
  clear h h0
  have HL := Aside0.mk hL
  have HL2 := Aside0.mk hlen
  have HL3 := Aside0.mk h1
  clear hL hlen h1
  go_enter Try.func48, Try.ntmps48
  go_wp2
  go_step3
  go_wp2
  go_step3
  go_wp2
  go_loopg [0, 3] a (fun kq v0 v3 w' => ∃ (x : Nat) (x3_1 : List Int), v0 = .int .u64 (x : Int) ∧ Aside0 (x3_1 ++ putL x = L) ∧ Aside0 (x ≤ a) ∧ Aside0 (x = kq) ∧ Aside0 (Kd.R (Kd.int .u8) 5 w' w.heap.size (fun _ => True) v3 x3_1) ∧ Aside0 (Below w.heap.size w w'))
  case atStart => exact ⟨a, [], rfl, ⟨by rw [List.nil_append]; exact HL.out.symm⟩, ⟨Nat.le_refl _⟩, ⟨rfl⟩, ⟨Kd.R_nil _ _ _ _ _⟩, HB⟩
  case round =>
    obtain ⟨x, x3_1, rfl, HA, HK1, HG, HO_3, HB⟩ := hrel
    by_cases c2 : x < 128
    · have c2b0 : decide ((x : Int) < 128) = true := decide_eq_true (by omega)
      have hA := HA.out
      rw [putL_small c2] at hA
      have LM := Aside0.mk (show x3_1.length < 140737488355328 by have h1 := congrArg List.length hA; have h2 := HL2.out; simp at h1; omega)
      have hmod : ((x : Int)) % 256 = (x : Int) := by omega
      have hA2 := Aside0.mk hA
      have hm2 := Aside0.mk hmod
      clear hA hmod HA c2
      go_wp2_with (first | ((with_reducible refine gate_builtin (b := .append) (xs := #[.tmp 6, .tmp 9]) rfl ?_); at_builtin; refine Kd.R_append (Kd.int .u8) (w0 := w) w.heap.size rfl (.tmp 6) (.tmp 9) 29 5 (.int .u8 0) 1 rfl Try.underlying29 info5 rfl (by decide) (by omega) u3 x3_1 ((x : Int) % 256) [.int .u8 ((x : Int) % 256)] (fun _ => True) (fun _ => False) rfl rfl ?aP (fun _ hk => hk.elim) ?aF ?aO ?aB ?aS ?aL ?_; (case aP => exact rfl); (case aB => exact (by repeat (first | (with_reducible first | exact HB.out | apply below_alloc | apply pw_below_drewN | apply below_drew1) | exact HB.out))); (case aF => exact (fun _ _ => trivial)); (case aO => exact (by (with_reducible repeat (first | apply Kd.R_alloc | apply Kd.R_drewN | apply Kd.R_drew)); exact HO_3.out)); (case aS => exact (below_size (by repeat (first | (with_reducible first | exact HB.out | apply below_alloc | apply pw_below_drewN | apply below_drew1) | exact HB.out)))); (case aL => have := LM.out; omega); intro v295 w6 ho hb hg hat; have n0_ := Aside0.mk (hb); have n1_ := Aside0.mk (ho); clear HB; clear HO_3; have HB := n0_; have HO296 := n1_; clear n0_ n1_; clear ho hb hg hat))
      rw [Exit.noGoto_ret]
      go_ret
      have ho := HO296.out
      rw [hm2.out, hA2.out] at ho
      exact ⟨_, rfl, ho, HB.out⟩
    · have c2b0 : decide ((x : Int) < 128) = false := decide_eq_false (by omega)
      have hA := HA.out
      rw [putL_big (by omega)] at hA
      have LM := Aside0.mk (show x3_1.length < 140737488355328 by have h1 := congrArg List.length hA; have h2 := HL2.out; simp at h1; omega)
      have hA2 := Aside0.mk hA
      have C2 := Aside0.mk c2
      clear hA HA c2
      go_wp2_with (first | ((with_reducible refine gate_builtin (b := .append) (xs := #[.tmp 11, .tmp 15]) rfl ?_); at_builtin; refine Kd.R_append (Kd.int .u8) (w0 := w) w.heap.size rfl (.tmp 11) (.tmp 15) 29 5 (.int .u8 0) 1 rfl Try.underlying29 info5 rfl (by decide) (by omega) u3 x3_1 (Go.bits .or .u8 ((x : Int) % 256) 128) [.int .u8 (Go.bits .or .u8 ((x : Int) % 256) 128)] (fun _ => True) (fun _ => False) rfl rfl ?aP (fun _ hk => hk.elim) ?aF ?aO ?aB ?aS ?aL ?_; (case aP => exact rfl); (case aB => exact (by repeat (first | (with_reducible first | exact HB.out | apply below_alloc | apply pw_below_drewN | apply below_drew1) | exact HB.out))); (case aF => exact (fun _ _ => trivial)); (case aO => exact (by (with_reducible repeat (first | apply Kd.R_alloc | apply Kd.R_drewN | apply Kd.R_drew)); exact HO_3.out)); (case aS => exact (below_size (by repeat (first | (with_reducible first | exact HB.out | apply below_alloc | apply pw_below_drewN | apply below_drew1) | exact HB.out)))); (case aL => have := LM.out; omega); intro v295 w6 ho hb hg hat; have n0_ := Aside0.mk (hb); have n1_ := Aside0.mk (ho); clear HB; clear HO_3; have HB := n0_; have HO296 := n1_; clear n0_ n1_; clear ho hb hg hat))
      go_roundg (x / 128)
      case measure => have := HG.out; have := C2.out; omega
      case rel => exact ⟨x / 128, _, by first | rfl | (simp; done) | (simp [*]; done), ⟨by rw [List.append_assoc]; exact hA2.out⟩, ⟨by have := HK1.out; omega⟩, ⟨rfl⟩, HO296, HB⟩
end Go.Proofs.Yteommchgnocgnaa.PE
