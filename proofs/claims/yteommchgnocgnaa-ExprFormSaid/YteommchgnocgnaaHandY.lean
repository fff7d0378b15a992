import Derived.Test.YteommchgnocgnaaHandW
namespace Go.Proofs.Yteommchgnocgnaa.PE
open Go.RowKit Go.Proofs.YteommchgnocgnaaW.PrintWords Go.Proofs.YteommchgnocgnaaW.PrintLast Go.Proofs.YteommchgnocgnaaW.PrintMore
set_option linter.unusedVariables false
set_option linter.unusedSimpArgs false

/-- What is laid of what comes of two; of kinds alone no number is too great. -/
def laid2 (kd : Bool) (r : Option Thing × Int) : Option Thing × Int := if kd = true ∧ r.2 = 6 then (some (.num 0), 0) else r
/-- A part: the error's number, and the pile. -/
def partL (vs : List S38) (kd : Bool) (xs : List Thing) (x : S50) : Int × List Thing :=
  if x.f0 = 0 then (0, xs ++ [thingOf x.f2.f0 x.f2.f1 x.f2.f2])
  else if x.f0 = 1 then (if (vs.length : Int) ≤ x.f1 then (3, xs) else (0, xs ++ [thingOf (rd_T38 vs x.f1).f0 (rd_T38 vs x.f1).f1 (rd_T38 vs x.f1).f2]))
  else if x.f0 = 9 then (if xs.length < 1 then (2, xs) else ((if (notOf (xs.getD (xs.length - 1) zT)).isSome then 0 else 5), xs.take (xs.length - 1) ++ (notOf (xs.getD (xs.length - 1) zT)).toList))
  else if xs.length < 2 then (2, xs)
  else ((laid2 kd (twoT x.f0 (xs.getD (xs.length - 2) zT) (xs.getD (xs.length - 1) zT))).2, xs.take (xs.length - 2) ++ (if (laid2 kd (twoT x.f0 (xs.getD (xs.length - 2) zT) (xs.getD (xs.length - 1) zT))).2 = 0 then (laid2 kd (twoT x.f0 (xs.getD (xs.length - 2) zT) (xs.getD (xs.length - 1) zT))).1.toList else []))

theorem last_split {xs : List Thing} (h : ¬ xs.length < 1) : xs = xs.take (xs.length - 1) ++ [xs.getD (xs.length - 1) zT] := by
  have h1 : xs.length - 1 < xs.length := by omega
  have := List.take_succ_eq_append_getElem h1
  rw [show xs.length - 1 + 1 = xs.length from by omega, List.take_length] at this
  rw [List.getD_eq_getElem?_getD, List.getElem?_eq_getElem h1, Option.getD_some]
  exact this
theorem last2_split {xs : List Thing} (h : ¬ xs.length < 2) : xs = xs.take (xs.length - 2) ++ [xs.getD (xs.length - 2) zT, xs.getD (xs.length - 1) zT] := by
  have h1 : xs.length - 2 < xs.length := by omega
  have h2 : xs.length - 1 < xs.length := by omega
  have e1 := List.take_succ_eq_append_getElem h1
  have e2 := List.take_succ_eq_append_getElem h2
  rw [show xs.length - 2 + 1 = xs.length - 1 from by omega] at e1
  rw [show xs.length - 1 + 1 = xs.length from by omega, List.take_length, e1] at e2
  rw [List.getD_eq_getElem?_getD, List.getElem?_eq_getElem h1, Option.getD_some, List.getD_eq_getElem?_getD, List.getElem?_eq_getElem h2, Option.getD_some]
  rw [List.append_assoc] at e2
  exact e2
theorem okT_get {xs : List Thing} (h : ∀ t ∈ xs, okT t) (i : Nat) : okT (xs.getD i zT) := by
  rw [List.getD_eq_getElem?_getD]
  cases e : xs[i]? with
  | none => trivial
  | some t => exact h t (List.mem_of_getElem? e)
theorem twoT_ok {c : Int} {x y : Thing} {ro : Option Thing} {re : Int} (h : twoT c x y = (ro, re)) : (re = 0 → ∃ t, ro = some t) ∧ (∀ t, ro = some t → okT t) := by
  unfold twoT at h
  repeat' split at h
  all_goals (injection h with h1 h2; subst h1; subst h2; constructor)
  all_goals first
    | (intro h; exact absurd h (by decide))
    | (intro _; exact ⟨_, rfl⟩)
    | (intro t h; injection h with h; subst h; trivial)
    | (intro t h; exact absurd h (by simp))

theorem partL_ok {vs : List S38} {kd : Bool} {xs : List Thing} {x : S50} (h : ∀ t ∈ xs, okT t) : ∀ t ∈ (partL vs kd xs x).2, okT t := by
  have snoc : ∀ {ys : List Thing} {t : Thing}, (∀ t ∈ ys, okT t) → okT t → ∀ u ∈ ys ++ [t], okT u := by
    intro ys t h1 h2 u hu
    rcases List.mem_append.1 hu with h3 | h3
    · exact h1 u h3
    · rw [List.mem_singleton.1 h3]; exact h2
  have tk : ∀ n, ∀ t ∈ xs.take n, okT t := fun n t ht => h t (List.mem_of_mem_take ht)
  unfold partL
  split
  · exact snoc h (okT_of _ _ _)
  split
  · split
    · exact h
    · exact snoc h (okT_of _ _ _)
  split
  · split
    · exact h
    · cases hn : notOf (xs.getD (xs.length - 1) zT) with
      | none => simpa using tk _
      | some t =>
        refine snoc (tk _) ?_
        revert hn
        cases xs.getD (xs.length - 1) zT <;> simp [notOf]
        rintro rfl; trivial
  split
  · exact h
  · obtain ⟨ro, re, hr⟩ : ∃ ro re, twoT x.f0 (xs.getD (xs.length - 2) zT) (xs.getD (xs.length - 1) zT) = (ro, re) := ⟨_, _, rfl⟩
    rw [hr]
    unfold laid2
    split
    · exact snoc (tk _) trivial
    · split
      · rename_i hz
        obtain ⟨t, rfl⟩ := (twoT_ok hr).1 hz
        exact snoc (tk _) ((twoT_ok hr).2 t rfl)
      · simpa using tk _
theorem partL_len {vs : List S38} {kd : Bool} {xs : List Thing} {x : S50} : (partL vs kd xs x).2.length ≤ xs.length + 1 := by
  unfold partL
  repeat' split
  all_goals (simp only [List.length_append, List.length_take, List.length_cons, List.length_nil, Option.length_toList])
  all_goals first | omega | (split <;> omega)

theorem expr_part.calls (W0 : World) (g : Nat) (xs : List Thing) (A : Option Addr) (cv : Nat) (vs : List S38) (kd : Bool) (x : S50) (w : World) (hp : Pile W0 w g xs (.slice A vs.length cv) kd) (hv : ∀ W, KeepBut W0 W g none → Kd.C k38 W A vs.length vs) (hok : ∀ t ∈ xs, okT t) (hl : xs.length < 900) (h0 : 0 ≤ x.f1) :
    Calls Try.prog 80 #[.pointer (some ⟨g, 0, none⟩), .agg #[.int .i64 x.f0, .int .i64 x.f1, .int .i64 x.f2.f0, .int .i64 x.f2.f1, .string x.f2.f2]] w fun e w' => e = .returned (.int .i64 (partL vs kd xs x).1) ∧ Pile W0 w' g (partL vs kd xs x).2 (.slice A vs.length cv) kd ∧ Stays w w' g := by
  obtain ⟨c, a, k, n, s, rfl⟩ : ∃ c a k n s, x = ⟨c, a, ⟨k, n, s⟩⟩ := ⟨x.f0, x.f1, x.f2.f0, x.f2.f1, x.f2.f2, rfl⟩
  unfold partL
  dsimp only
  by_cases c0 : c = 0
  · subst c0; rw [if_pos rfl]
    exact part_push W0 g xs _ kd a k n s w hp (by omega)
  rw [if_neg c0]
  by_cases c1 : c = 1
  · subst c1; rw [if_pos rfl]
    by_cases ha : (vs.length : Int) ≤ a
    · rw [if_pos ha]
      exact part_none W0 g xs A cv vs.length kd a k n s w hp ha
    · rw [if_neg ha]
      exact part_load W0 g xs A cv vs kd a k n s w hp hv (by omega) h0 (by omega)
  rw [if_neg c1]
  by_cases c9 : c = 9
  · subst c9; rw [if_pos rfl]
    by_cases hn : xs.length < 1
    · rw [if_pos hn]
      obtain rfl : xs = [] := List.eq_nil_of_length_eq_zero (by omega)
      exact part_not_no W0 g _ kd a k n s w hp
    · rw [if_neg hn]
      have hs := last_split hn
      refine part_not W0 g (xs.take (xs.length - 1)) (xs.getD (xs.length - 1) zT) _ kd a k n s w (by rw [← hs]; exact hp) (by rw [List.length_take]; omega)
  rw [if_neg c9]
  by_cases hn : xs.length < 2
  · rw [if_pos hn]
    exact part_two_no W0 g xs _ kd c a k n s c0 c1 c9 w hp hn
  · rw [if_neg hn]
    have hs := last2_split hn
    have hx := okT_get hok (xs.length - 2)
    have hy := okT_get hok (xs.length - 1)
    have hp2 : Pile W0 w g (xs.take (xs.length - 2) ++ [xs.getD (xs.length - 2) zT, xs.getD (xs.length - 1) zT]) (.slice A vs.length cv) kd := by rw [← hs]; exact hp
    have hlen : (xs.take (xs.length - 2)).length < 998 := by rw [List.length_take]; omega
    obtain ⟨ro, re, hr⟩ : ∃ ro re, twoT c (xs.getD (xs.length - 2) zT) (xs.getD (xs.length - 1) zT) = (ro, re) := ⟨_, _, rfl⟩
    rw [hr]
    unfold laid2
    by_cases hk : kd = true ∧ re = 6
    · obtain ⟨rfl, rfl⟩ := hk
      rw [if_pos ⟨rfl, rfl⟩]
      exact part_two_A W0 g _ _ _ hx hy _ c a k n s c0 c1 c9 w hp2 hlen ro hr
    · rw [if_neg hk]
      dsimp only
      by_cases hz : re = 0
      · subst hz
        obtain ⟨t, rfl⟩ := (twoT_ok hr).1 rfl
        rw [if_pos rfl]
        exact part_two_B W0 g _ _ _ hx hy _ kd c a k n s c0 c1 c9 w hp2 hlen t hr
      · rw [if_neg hz]
        exact part_two_C W0 g _ _ _ hx hy _ kd c a k n s c0 c1 c9 w hp2 hlen ro re hr hz (fun h1 h2 => hk ⟨h1, h2⟩)
end Go.Proofs.Yteommchgnocgnaa.PE
