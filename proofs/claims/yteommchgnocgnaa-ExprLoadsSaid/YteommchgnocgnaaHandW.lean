import Derived.Test.YteommchgnocgnaaHandV2
namespace Go.Proofs.Yteommchgnocgnaa.PE
open Go.RowKit Go.Proofs.YteommchgnocgnaaW.PrintWords Go.Proofs.YteommchgnocgnaaW.PrintLast Go.Proofs.YteommchgnocgnaaW.PrintMore
set_option linter.unusedVariables false
set_option linter.unusedSimpArgs false

set_option maxHeartbeats 8000000 in
set_option maxRecDepth 100000 in
theorem part_not (W0 : World) (g : Nat) (xs : List Thing) (x : Thing) (vv : Value) (kd : Bool) (a k n : Int) (s : ByteArray) (w : World) (hp : Pile W0 w g (xs ++ [x]) vv kd) (hl : xs.length < 1000) :
    Calls Try.prog 80 #[.pointer (some ⟨g, 0, none⟩), .agg #[.int .i64 9, .int .i64 a, .int .i64 k, .int .i64 n, .string s]] w fun e w' => e = .returned (.int .i64 (if (notOf x).isSome then 0 else 5)) ∧ Pile W0 w' g (xs ++ (notOf x).toList) vv kd ∧ Stays w w' g := by
  have hu50 := Try.underlying50
  have HP := Aside0.mk (hp.below (below_alloc (Below.refl _ _) (.cells #[.int .i64 9, .int .i64 a, .int .i64 k, .int .i64 n, .string s] 50)))
  have HS := Aside0.mk (Stays.below (g := g) (below_alloc (Below.refl w.heap.size w) (.cells #[.int .i64 9, .int .i64 a, .int .i64 k, .int .i64 n, .string s] 50)))
  have HL := Aside0.mk hl
  clear hp hl
  have HC := Aside0.mk (pile_not_yes W0 g xs x vv kd _ HP.out HL.out)
  obtain ⟨E, hE⟩ : ∃ E : Int, E = if (notOf x).isSome then 0 else 5 := ⟨_, rfl⟩
  rw [← hE] at HC
  rw [← hE]
  clear hE
  go_enter Try.func80, Try.ntmps80
  go_wp2_with (fail)
  refine (HC.out).mono ?_
  rintro e w1 ⟨rfl, hp1, hs1⟩
  go_wp2
  go_ret
  exact ⟨rfl, hp1, HS.out.trans hs1⟩

set_option maxHeartbeats 8000000 in
set_option maxRecDepth 100000 in
theorem part_not_no (W0 : World) (g : Nat) (vv : Value) (kd : Bool) (a k n : Int) (s : ByteArray) (w : World) (hp : Pile W0 w g [] vv kd) :
    Calls Try.prog 80 #[.pointer (some ⟨g, 0, none⟩), .agg #[.int .i64 9, .int .i64 a, .int .i64 k, .int .i64 n, .string s]] w fun e w' => e = .returned (.int .i64 2) ∧ Pile W0 w' g [] vv kd ∧ Stays w w' g := by
  have hu50 := Try.underlying50
  have HP := Aside0.mk (hp.below (below_alloc (Below.refl _ _) (.cells #[.int .i64 9, .int .i64 a, .int .i64 k, .int .i64 n, .string s] 50)))
  have HS := Aside0.mk (Stays.below (g := g) (below_alloc (Below.refl w.heap.size w) (.cells #[.int .i64 9, .int .i64 a, .int .i64 k, .int .i64 n, .string s] 50)))
  clear hp
  go_enter Try.func80, Try.ntmps80
  go_wp2_with (fail)
  refine (pile_not_no W0 g vv kd _ HP.out).mono ?_
  rintro e w1 ⟨rfl, rfl⟩
  go_wp2
  go_ret
  exact ⟨rfl, HP.out, HS.out⟩

set_option maxHeartbeats 8000000 in
set_option maxRecDepth 100000 in
theorem part_two_no (W0 : World) (g : Nat) (xs : List Thing) (vv : Value) (kd : Bool) (c a k n : Int) (s : ByteArray) (h0 : c ≠ 0) (h1 : c ≠ 1) (h9 : c ≠ 9) (w : World) (hp : Pile W0 w g xs vv kd) (hl : xs.length < 2) :
    Calls Try.prog 80 #[.pointer (some ⟨g, 0, none⟩), .agg #[.int .i64 c, .int .i64 a, .int .i64 k, .int .i64 n, .string s]] w fun e w' => e = .returned (.int .i64 2) ∧ Pile W0 w' g xs vv kd ∧ Stays w w' g := by
  have hu50 := Try.underlying50
  have b0 : (c == 0) = false := beq_eq_false_iff_ne.mpr h0
  have b1 : (c == 1) = false := beq_eq_false_iff_ne.mpr h1
  have b9 : (c == 9) = false := beq_eq_false_iff_ne.mpr h9
  have HP := Aside0.mk (hp.below (below_alloc (Below.refl _ _) (.cells #[.int .i64 c, .int .i64 a, .int .i64 k, .int .i64 n, .string s] 50)))
  have HS := Aside0.mk (Stays.below (g := g) (below_alloc (Below.refl w.heap.size w) (.cells #[.int .i64 c, .int .i64 a, .int .i64 k, .int .i64 n, .string s] 50)))
  have HC := Aside0.mk (pile_take_no W0 g xs vv kd 2 _ HP.out hl (by omega))
  clear hp hl h0 h1 h9
  go_enter Try.func80, Try.ntmps80
  go_wp2_with (fail)
  refine (HC.out).mono ?_
  rintro e w1 ⟨rfl, rfl⟩
  go_wp2
  go_ret
  exact ⟨rfl, HP.out, HS.out⟩


set_option maxHeartbeats 16000000 in
set_option maxRecDepth 100000 in
theorem part_two_A (W0 : World) (g : Nat) (xs : List Thing) (x y : Thing) (hx : okT x) (hy : okT y) (vv : Value) (c a k n : Int) (s : ByteArray) (h0 : c ≠ 0) (h1 : c ≠ 1) (h9 : c ≠ 9) (w : World) (hp : Pile W0 w g (xs ++ [x, y]) vv true) (hl : xs.length < 998)
    (ro : Option Thing) (hr : twoT c x y = (ro, 6)) :
    Calls Try.prog 80 #[.pointer (some ⟨g, 0, none⟩), .agg #[.int .i64 c, .int .i64 a, .int .i64 k, .int .i64 n, .string s]] w fun e w' => e = .returned (.int .i64 0) ∧ Pile W0 w' g (xs ++ [.num 0]) vv true ∧ Stays w w' g := by
  have hu50 := Try.underlying50
  have hu82 := Try.underlying82
  have b0 : (c == 0) = false := beq_eq_false_iff_ne.mpr h0
  have b1 : (c == 1) = false := beq_eq_false_iff_ne.mpr h1
  have b9 : (c == 9) = false := beq_eq_false_iff_ne.mpr h9
  have HP := Aside0.mk (hp.below (below_alloc (Below.refl _ _) (.cells #[.int .i64 c, .int .i64 a, .int .i64 k, .int .i64 n, .string s] 50)))
  have HS := Aside0.mk (Stays.below (g := g) (below_alloc (Below.refl w.heap.size w) (.cells #[.int .i64 c, .int .i64 a, .int .i64 k, .int .i64 n, .string s] 50)))
  have HX := Aside0.mk (blk_new w (.cells #[.int .i64 c, .int .i64 a, .int .i64 k, .int .i64 n, .string s] 50))
  have HN := Aside0.mk (show w.heap.size ≠ g by have := hp.gt; omega)
  have hc := pile_take_yes W0 g (xs ++ [x, y]) vv true 2 _ HP.out (by simp) (by omega) (by omega) (by simp; omega)
  have e1 : (xs ++ [x, y]).length - 2 = xs.length := by simp
  rw [e1, List.drop_left, List.take_left] at hc
  have HC := Aside0.mk hc
  have HL := Aside0.mk hl
  have H2 : Aside0 (∀ W, Calls Try.prog 107 #[.int .i64 c, thingV x, thingV y] W fun e w' => e = .returned (.tuple #[optV ro, .int .i64 6]) ∧ Below W.heap.size W w') := ⟨fun W => by
    have h := expr_two.calls c x y hx hy W
    rw [hr] at h
    exact h⟩
  clear hp hl h0 h1 h9 hc e1 hr hx hy
  go_enter Try.func80, Try.ntmps80
  go_wp2_with (fail)
  refine (HC.out).mono ?_
  rintro e w1 ⟨gv, c', rfl, hC, hp1, hs1⟩
  have hx0 : w1.cell? ⟨gv, 0, none⟩ = some (thingV x) := atT hC 0 (by omega)
  have hx1 : w1.cell? ⟨gv, 1, none⟩ = some (thingV y) := atT hC 1 (by omega)
  have hxc : w1.cell? ⟨w.heap.size, 0, none⟩ = some (.int .i64 c) := (blk_cell (hs1.2 _ _ _ (by decide) HN.out HX.out) 0).trans rfl
  replace HP := Aside0.mk hp1
  replace HS := Aside0.mk (HS.out.trans hs1)
  clear hC hp1 hs1 HC HX
  obtain ⟨VX, hVX⟩ : ∃ V, V = thingV x := ⟨_, rfl⟩
  obtain ⟨VY, hVY⟩ : ∃ V, V = thingV y := ⟨_, rfl⟩
  rw [← hVX] at hx0
  rw [← hVY] at hx1
  rw [← hVX, ← hVY] at H2
  clear hVX hVY
  go_wp2_with (fail)
  go_region_held3 (fun w' => w'.cell? ⟨gv, 0, none⟩ = some VX ∧ w'.cell? ⟨gv, 1, none⟩ = some VY ∧ w'.cell? ⟨w.heap.size, 0, none⟩ = some (.int .i64 c))
    (first
      | (exact ⟨hx0, hx1, hxc⟩)
      | (go_split_ands; exact ⟨keepS hb ‹_›, keepS hb ‹_›, keepS hb ‹_›⟩))
    (first
      | (go_at_call 107; refine (H2.out _).mono ?_; rintro e w3 ⟨rfl, hb⟩; have HP3 := Aside0.mk ((HP.out.below (below_drew (Below.refl _ _))).below hb); have HS3 := Aside0.mk ((HS.out.trans (.below (below_drew (Below.refl _ _)))).trans (.below hb))))
  have hck := HP3.out.kcell
  clear HP HS hx0 hx1 hxc H2
  obtain ⟨VR, hVR⟩ : ∃ V, V = optV ro := ⟨_, rfl⟩
  rw [← hVR]
  clear hVR
  go_wp2_with (fail)
  refine (pile_lay.calls W0 g xs _ true (.num 0) _ HP3.out (by have := HL.out; omega)).mono ?_
  rintro e w4 ⟨rfl, hp4, hs4⟩
  go_wp2
  go_ret
  exact ⟨rfl, hp4, HS3.out.trans hs4⟩


set_option maxHeartbeats 16000000 in
set_option maxRecDepth 100000 in
theorem part_two_B (W0 : World) (g : Nat) (xs : List Thing) (x y : Thing) (hx : okT x) (hy : okT y) (vv : Value) (kd : Bool) (c a k n : Int) (s : ByteArray) (h0 : c ≠ 0) (h1 : c ≠ 1) (h9 : c ≠ 9) (w : World) (hp : Pile W0 w g (xs ++ [x, y]) vv kd) (hl : xs.length < 998)
    (t : Thing) (hr : twoT c x y = (some t, 0)) :
    Calls Try.prog 80 #[.pointer (some ⟨g, 0, none⟩), .agg #[.int .i64 c, .int .i64 a, .int .i64 k, .int .i64 n, .string s]] w fun e w' => e = .returned (.int .i64 0) ∧ Pile W0 w' g (xs ++ [t]) vv kd ∧ Stays w w' g := by
  have hu50 := Try.underlying50
  have hu82 := Try.underlying82
  have b0 : (c == 0) = false := beq_eq_false_iff_ne.mpr h0
  have b1 : (c == 1) = false := beq_eq_false_iff_ne.mpr h1
  have b9 : (c == 9) = false := beq_eq_false_iff_ne.mpr h9
  have HP := Aside0.mk (hp.below (below_alloc (Below.refl _ _) (.cells #[.int .i64 c, .int .i64 a, .int .i64 k, .int .i64 n, .string s] 50)))
  have HS := Aside0.mk (Stays.below (g := g) (below_alloc (Below.refl w.heap.size w) (.cells #[.int .i64 c, .int .i64 a, .int .i64 k, .int .i64 n, .string s] 50)))
  have HX := Aside0.mk (blk_new w (.cells #[.int .i64 c, .int .i64 a, .int .i64 k, .int .i64 n, .string s] 50))
  have HN := Aside0.mk (show w.heap.size ≠ g by have := hp.gt; omega)
  have hc := pile_take_yes W0 g (xs ++ [x, y]) vv kd 2 _ HP.out (by simp) (by omega) (by omega) (by simp; omega)
  have e1 : (xs ++ [x, y]).length - 2 = xs.length := by simp
  rw [e1, List.drop_left, List.take_left] at hc
  have HC := Aside0.mk hc
  have HL := Aside0.mk hl
  have H2 : Aside0 (∀ W, Calls Try.prog 107 #[.int .i64 c, thingV x, thingV y] W fun e w' => e = .returned (.tuple #[thingV t, .int .i64 0]) ∧ Below W.heap.size W w') := ⟨fun W => by
    have h := expr_two.calls c x y hx hy W
    rw [hr] at h
    exact h⟩
  clear hp hl h0 h1 h9 hc e1 hr hx hy
  go_enter Try.func80, Try.ntmps80
  go_wp2_with (fail)
  refine (HC.out).mono ?_
  rintro e w1 ⟨gv, c', rfl, hC, hp1, hs1⟩
  have hx0 : w1.cell? ⟨gv, 0, none⟩ = some (thingV x) := atT hC 0 (by omega)
  have hx1 : w1.cell? ⟨gv, 1, none⟩ = some (thingV y) := atT hC 1 (by omega)
  have hxc : w1.cell? ⟨w.heap.size, 0, none⟩ = some (.int .i64 c) := (blk_cell (hs1.2 _ _ _ (by decide) HN.out HX.out) 0).trans rfl
  replace HP := Aside0.mk hp1
  replace HS := Aside0.mk (HS.out.trans hs1)
  clear hC hp1 hs1 HC HX
  obtain ⟨VX, hVX⟩ : ∃ V, V = thingV x := ⟨_, rfl⟩
  obtain ⟨VY, hVY⟩ : ∃ V, V = thingV y := ⟨_, rfl⟩
  rw [← hVX] at hx0
  rw [← hVY] at hx1
  rw [← hVX, ← hVY] at H2
  clear hVX hVY
  go_wp2_with (fail)
  go_region_held3 (fun w' => w'.cell? ⟨gv, 0, none⟩ = some VX ∧ w'.cell? ⟨gv, 1, none⟩ = some VY ∧ w'.cell? ⟨w.heap.size, 0, none⟩ = some (.int .i64 c))
    (first
      | (exact ⟨hx0, hx1, hxc⟩)
      | (go_split_ands; exact ⟨keepS hb ‹_›, keepS hb ‹_›, keepS hb ‹_›⟩))
    (first
      | (go_at_call 107; refine (H2.out _).mono ?_; rintro e w3 ⟨rfl, hb⟩; have HP3 := Aside0.mk ((HP.out.below (below_drew (Below.refl _ _))).below hb); have HS3 := Aside0.mk ((HS.out.trans (.below (below_drew (Below.refl _ _)))).trans (.below hb))))
  have hck := HP3.out.kcell
  clear HP HS hx0 hx1 hxc H2
  cases kd
  all_goals
    go_wp2_with (fail)
    refine (pile_lay.calls W0 g xs _ _ t _ HP3.out (by have := HL.out; omega)).mono ?_
    rintro e w4 ⟨rfl, hp4, hs4⟩
    go_wp2
    go_ret
    exact ⟨rfl, hp4, HS3.out.trans hs4⟩


set_option maxHeartbeats 16000000 in
set_option maxRecDepth 100000 in
theorem part_two_C (W0 : World) (g : Nat) (xs : List Thing) (x y : Thing) (hx : okT x) (hy : okT y) (vv : Value) (kd : Bool) (c a k n : Int) (s : ByteArray) (h0 : c ≠ 0) (h1 : c ≠ 1) (h9 : c ≠ 9) (w : World) (hp : Pile W0 w g (xs ++ [x, y]) vv kd) (hl : xs.length < 998)
    (ro : Option Thing) (re : Int) (hr : twoT c x y = (ro, re)) (hz : re ≠ 0) (hk : kd = true → re ≠ 6) :
    Calls Try.prog 80 #[.pointer (some ⟨g, 0, none⟩), .agg #[.int .i64 c, .int .i64 a, .int .i64 k, .int .i64 n, .string s]] w fun e w' => e = .returned (.int .i64 re) ∧ Pile W0 w' g (xs ++ []) vv kd ∧ Stays w w' g := by
  have hu50 := Try.underlying50
  have hu82 := Try.underlying82
  have b0 : (c == 0) = false := beq_eq_false_iff_ne.mpr h0
  have b1 : (c == 1) = false := beq_eq_false_iff_ne.mpr h1
  have b9 : (c == 9) = false := beq_eq_false_iff_ne.mpr h9
  have HP := Aside0.mk (hp.below (below_alloc (Below.refl _ _) (.cells #[.int .i64 c, .int .i64 a, .int .i64 k, .int .i64 n, .string s] 50)))
  have HS := Aside0.mk (Stays.below (g := g) (below_alloc (Below.refl w.heap.size w) (.cells #[.int .i64 c, .int .i64 a, .int .i64 k, .int .i64 n, .string s] 50)))
  have HX := Aside0.mk (blk_new w (.cells #[.int .i64 c, .int .i64 a, .int .i64 k, .int .i64 n, .string s] 50))
  have HN := Aside0.mk (show w.heap.size ≠ g by have := hp.gt; omega)
  have hc := pile_take_yes W0 g (xs ++ [x, y]) vv kd 2 _ HP.out (by simp) (by omega) (by omega) (by simp; omega)
  have e1 : (xs ++ [x, y]).length - 2 = xs.length := by simp
  rw [e1, List.drop_left, List.take_left] at hc
  have HC := Aside0.mk hc
  have HL := Aside0.mk hl
  have H2 : Aside0 (∀ W, Calls Try.prog 107 #[.int .i64 c, thingV x, thingV y] W fun e w' => e = .returned (.tuple #[optV ro, .int .i64 re]) ∧ Below W.heap.size W w') := ⟨fun W => by
    have h := expr_two.calls c x y hx hy W
    rw [hr] at h
    exact h⟩
  have z0 : (re == 0) = false := beq_eq_false_iff_ne.mpr hz
  have z0' : (re != 0) = true := bne_iff_ne.mpr hz
  have HK := Aside0.mk hk
  clear hz hk
  clear hp hl h0 h1 h9 hc e1 hr hx hy
  go_enter Try.func80, Try.ntmps80
  go_wp2_with (fail)
  refine (HC.out).mono ?_
  rintro e w1 ⟨gv, c', rfl, hC, hp1, hs1⟩
  have hx0 : w1.cell? ⟨gv, 0, none⟩ = some (thingV x) := atT hC 0 (by omega)
  have hx1 : w1.cell? ⟨gv, 1, none⟩ = some (thingV y) := atT hC 1 (by omega)
  have hxc : w1.cell? ⟨w.heap.size, 0, none⟩ = some (.int .i64 c) := (blk_cell (hs1.2 _ _ _ (by decide) HN.out HX.out) 0).trans rfl
  replace HP := Aside0.mk hp1
  replace HS := Aside0.mk (HS.out.trans hs1)
  clear hC hp1 hs1 HC HX
  obtain ⟨VX, hVX⟩ : ∃ V, V = thingV x := ⟨_, rfl⟩
  obtain ⟨VY, hVY⟩ : ∃ V, V = thingV y := ⟨_, rfl⟩
  rw [← hVX] at hx0
  rw [← hVY] at hx1
  rw [← hVX, ← hVY] at H2
  clear hVX hVY
  go_wp2_with (fail)
  go_region_held3 (fun w' => w'.cell? ⟨gv, 0, none⟩ = some VX ∧ w'.cell? ⟨gv, 1, none⟩ = some VY ∧ w'.cell? ⟨w.heap.size, 0, none⟩ = some (.int .i64 c))
    (first
      | (exact ⟨hx0, hx1, hxc⟩)
      | (go_split_ands; exact ⟨keepS hb ‹_›, keepS hb ‹_›, keepS hb ‹_›⟩))
    (first
      | (go_at_call 107; refine (H2.out _).mono ?_; rintro e w3 ⟨rfl, hb⟩; have HP3 := Aside0.mk ((HP.out.below (below_drew (Below.refl _ _))).below hb); have HS3 := Aside0.mk ((HS.out.trans (.below (below_drew (Below.refl _ _)))).trans (.below hb))))
  have hck := HP3.out.kcell
  clear HP HS hx0 hx1 hxc H2
  obtain ⟨VR, hVR⟩ : ∃ V, V = optV ro := ⟨_, rfl⟩
  rw [← hVR]
  clear hVR
  cases kd with
  | false =>
    go_wp2
    go_ret
    exact ⟨rfl, by simpa using HP3.out, HS3.out⟩
  | true =>
    have z6 : (re == 6) = false := beq_eq_false_iff_ne.mpr (HK.out rfl)
    go_wp2
    go_ret
    exact ⟨rfl, by simpa using HP3.out, HS3.out⟩

end Go.Proofs.Yteommchgnocgnaa.PE
