import Derived.Test.YteommchgnocgnaaHandV
namespace Go.Proofs.Yteommchgnocgnaa.PE
open Go.RowKit Go.Proofs.YteommchgnocgnaaW.PrintWords Go.Proofs.YteommchgnocgnaaW.PrintLast Go.Proofs.YteommchgnocgnaaW.PrintMore
set_option linter.unusedVariables false
set_option linter.unusedSimpArgs false

theorem atT {w : World} {gv n : Nat} {ys : List Thing} (h : Kd.C kT w (some ⟨gv, 0, none⟩) n ys) (i : Nat) (hi : i < n) : w.cell? ⟨gv, i, none⟩ = some (thingV (ys.getD i zT)) := by
  obtain ⟨ad, c, e, hl, hK, hc⟩ := Kd.C_get h zT (i : Int) (by omega) (by omega)
  cases e
  have hK' : c = [thingV (ys.getD (i : Int).toNat zT)] := hK
  subst hK'
  have := hc 0 _ rfl
  rw [Int.toNat_natCast] at this
  have e2 : (⟨gv, 0, none⟩ : Addr).add (i * kT.sz + 0) = ⟨gv, i, none⟩ := by
    show Addr.add _ (i * 1 + 0) = _
    simp [Addr.add]
    intro h; exact h.symm
  rw [e2] at this
  exact this

set_option maxHeartbeats 8000000 in
set_option maxRecDepth 100000 in
theorem part_push (W0 : World) (g : Nat) (xs : List Thing) (vv : Value) (kd : Bool) (a k n : Int) (s : ByteArray) (w : World) (hp : Pile W0 w g xs vv kd) (hl : xs.length < 1000) :
    Calls Try.prog 80 #[.pointer (some ⟨g, 0, none⟩), .agg #[.int .i64 0, .int .i64 a, .int .i64 k, .int .i64 n, .string s]] w fun e w' => e = .returned (.int .i64 0) ∧ Pile W0 w' g (xs ++ [thingOf k n s]) vv kd ∧ Stays w w' g := by
  have hu50 := Try.underlying50
  have hu38 := Try.underlying38
  have HP := Aside0.mk (hp.below (below_alloc (Below.refl _ _) (.cells #[.int .i64 0, .int .i64 a, .int .i64 k, .int .i64 n, .string s] 50)))
  have HS := Aside0.mk (Stays.below (g := g) (below_alloc (Below.refl w.heap.size w) (.cells #[.int .i64 0, .int .i64 a, .int .i64 k, .int .i64 n, .string s] 50)))
  have HL := Aside0.mk hl
  clear hp hl
  go_enter Try.func80, Try.ntmps80
  go_wp2_with (fail)
  refine (expr_of.calls _ _ _ _).mono ?_
  rintro e w1 ⟨rfl, hb⟩
  go_wp2_with (fail)
  refine (pile_lay.calls W0 g xs _ kd (thingOf k n s) _ (HP.out.below hb) HL.out).mono ?_
  rintro e w2 ⟨rfl, hp2, hs2⟩
  go_wp2
  go_ret
  exact ⟨rfl, hp2, (HS.out.trans (.below hb)).trans hs2⟩

set_option maxHeartbeats 8000000 in
set_option maxRecDepth 100000 in
theorem part_none (W0 : World) (g : Nat) (xs : List Thing) (A : Option Addr) (cv m : Nat) (kd : Bool) (a k n : Int) (s : ByteArray) (w : World) (hp : Pile W0 w g xs (.slice A m cv) kd) (ha : (m : Int) ≤ a) :
    Calls Try.prog 80 #[.pointer (some ⟨g, 0, none⟩), .agg #[.int .i64 1, .int .i64 a, .int .i64 k, .int .i64 n, .string s]] w fun e w' => e = .returned (.int .i64 3) ∧ Pile W0 w' g xs (.slice A m cv) kd ∧ Stays w w' g := by
  have hu50 := Try.underlying50
  have hu82 := Try.underlying82
  have hp1 := hp.below (below_alloc (Below.refl _ _) (.cells #[.int .i64 1, .int .i64 a, .int .i64 k, .int .i64 n, .string s] 50))
  have hc1 := hp1.vcell
  have HP := Aside0.mk hp1
  have f1 : decide ((m : Int) ≤ a) = true := decide_eq_true ha
  have HS := Aside0.mk (Stays.below (g := g) (below_alloc (Below.refl w.heap.size w) (.cells #[.int .i64 1, .int .i64 a, .int .i64 k, .int .i64 n, .string s] 50)))
  clear hp hp1 ha
  go_enter Try.func80, Try.ntmps80
  go_wp2_with (fail)
  go_quiet (fail)
  go_wp2
  go_ret
  exact ⟨rfl, HP.out.drewN _, HS.out.trans (.below (pw_below_drewN (Below.refl _ _) _))⟩

set_option maxHeartbeats 8000000 in
set_option maxRecDepth 100000 in
theorem pile_not_no (W0 : World) (g : Nat) (vv : Value) (kd : Bool) (w : World) (hp : Pile W0 w g [] vv kd) :
    Calls Try.prog 105 #[.pointer (some ⟨g, 0, none⟩)] w fun e w' => e = .returned (.int .i64 2) ∧ w = w' := by
  have hc := Aside0.mk (pile_take_no W0 g [] vv kd 1 w hp (by simp) (by omega))
  clear hp
  go_enter Try.func105, Try.ntmps105
  go_wp2_with (fail)
  refine (hc.out).mono ?_
  rintro e w1 ⟨rfl, rfl⟩
  go_wp2
  go_ret
  exact ⟨rfl, rfl⟩

def notOf : Thing → Option Thing
  | .tru b => some (.tru !b)
  | _ => none
set_option maxHeartbeats 8000000 in
set_option maxRecDepth 100000 in
theorem pile_not_yes (W0 : World) (g : Nat) (xs : List Thing) (x : Thing) (vv : Value) (kd : Bool) (w : World) (hp : Pile W0 w g (xs ++ [x]) vv kd) (hl : xs.length < 1000) :
    Calls Try.prog 105 #[.pointer (some ⟨g, 0, none⟩)] w fun e w' => e = .returned (.int .i64 (if (notOf x).isSome then 0 else 5)) ∧ Pile W0 w' g (xs ++ (notOf x).toList) vv kd ∧ Stays w w' g := by
  have ta1 := ta_n_tru
  have ta2 := ta_t_tru
  have ta3 := ta_o_tru
  have hc := pile_take_yes W0 g (xs ++ [x]) vv kd 1 w hp (by simp) (by omega) (by omega) (by simp; omega)
  have e1 : (xs ++ [x]).length - 1 = xs.length := by simp
  rw [e1, List.drop_left, List.take_left] at hc
  replace hc := Aside0.mk hc
  have HL := Aside0.mk hl
  clear hp hl e1
  go_enter Try.func105, Try.ntmps105
  go_wp2_with (fail)
  refine (hc.out).mono ?_
  rintro e w1 ⟨gv, c', rfl, hC, hp1, hs1⟩
  have hx0 : w1.cell? ⟨gv, 0, none⟩ = some (thingV x) := atT hC 0 (by omega)
  have HP := Aside0.mk hp1
  have HS := Aside0.mk hs1
  clear hC hp1 hs1
  cases x with
  | num n =>
    unfold thingV at hx0
    go_wp2
    go_ret
    exact ⟨rfl, by simpa [notOf] using HP.out, HS.out⟩
  | oth k n s =>
    unfold thingV at hx0
    go_wp2
    go_ret
    exact ⟨rfl, by simpa [notOf] using HP.out, HS.out⟩
  | tru b =>
    unfold thingV at hx0
    go_wp2_with (fail)
    refine (pile_lay.calls W0 g xs _ kd (.tru !b) _ HP.out HL.out).mono ?_
    rintro e w2 ⟨rfl, hp2, hs2⟩
    go_wp2
    go_ret
    exact ⟨rfl, hp2, HS.out.trans hs2⟩
end Go.Proofs.Yteommchgnocgnaa.PE
