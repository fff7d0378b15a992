-- Written by a program of this session (drive.py, over the kit's printer): contracts of the functions that the printer takes, beside contracts proved by hand.
import Derived.Test.YteommchgnocgnaaPE0
import Derived.Test.YteommchgnocgnaaPE1
import Derived.Test.YteommchgnocgnaaHandAw
import Derived.Test.YteommchgnocgnaaHandX
namespace Go.Proofs.Yteommchgnocgnaa.PE
open Go.RowKit Go.Proofs.YteommchgnocgnaaW.PrintWords Go.Proofs.YteommchgnocgnaaW.PrintLast Go.Proofs.YteommchgnocgnaaW.PrintMore
attribute [local go_sem] max2_int min2_int max_two min_two max_three min_three max_four min_four   -- for this text's walks alone
set_option linter.unusedVariables false
set_option linter.unusedSimpArgs false

attribute [local go_sem high] eqA38
-- NOT PRINTED: function 4 (towncrierlaw08_ExprBack)

/-! ### towncrierlaw08_ExprSums: function 5 -/
mutual
def towncrierlaw08_ExprSums.j0 : Nat → Int → Int → Int → Bool → Bool → Option (Bool)
  | 0, _, _, _, _, _ => none
  | k + 1, x0, x1, x2, x7, x22 => if x22 = true then (some x7) else ((expr_Eval.f (⟨#[97]⟩ : ByteArray) 0 ([] : List (S38)) (([(⟨0, 0, (⟨0, x0, (⟨#[]⟩ : ByteArray)⟩ : S38)⟩ : S50), (⟨0, 0, (⟨0, x1, (⟨#[]⟩ : ByteArray)⟩ : S38)⟩ : S50), (⟨x2, 0, (⟨0, 0, (⟨#[]⟩ : ByteArray)⟩ : S38)⟩ : S50)] : List (S50)))).bind fun bt421 => (if x0 < 1073741824 then (if x0 > (-1073741824) then (if x1 < 1073741824 then (towncrierlaw08_ExprSums.j1 k x0 x1 x2 bt421.2.2.2 (decide (x1 > (-1073741824))) bt421.1 bt421.2.1 bt421.2.2.1) else (towncrierlaw08_ExprSums.j1 k x0 x1 x2 bt421.2.2.2 false bt421.1 bt421.2.1 bt421.2.2.1)) else (towncrierlaw08_ExprSums.j1 k x0 x1 x2 bt421.2.2.2 false bt421.1 bt421.2.1 bt421.2.2.1)) else (towncrierlaw08_ExprSums.j1 k x0 x1 x2 bt421.2.2.2 false bt421.1 bt421.2.1 bt421.2.2.1)))
def towncrierlaw08_ExprSums.j1 : Nat → Int → Int → Int → Int → Bool → Int → Int → ByteArray → Option (Bool)
  | 0, _, _, _, _, _, _, _, _ => none
  | k + 1, x0, x1, x2, x10, x11, x426000, x426001, x426002 => if x10 = 0 then (if x2 = 2 then (if (wrap64 (x426001 - x1)) = x0 then (some ((decide (x1 ≥ 0)) == (decide (x426001 ≥ x0)))) else (some false)) else (if x2 = 3 then (if (wrap64 (x426001 + x1)) = x0 then (some ((decide (x1 ≥ 0)) == (decide (x426001 ≤ x0)))) else (some false)) else (if x1 = 0 then (some (x426001 == 0)) else (if (wrap64 (Int.tdiv x426001 x1)) = x0 then (if (Int.tmod x426001 x1) = 0 then (some true) else (some false)) else (some false))))) else (if x10 = 6 then (if x11 = true then (some false) else (some (x426000 == 0 && (x426001 == 0 && (x426002.toList == ([] : List UInt8)))))) else (some false))
end
def towncrierlaw08_ExprSums.f (k : Nat) (a0 : Int) (a1 : Int) (a2 : Int) : Option (Bool) := (towncrierlaw08_awake.f).bind fun t417 => (if t417 = true then (if a2 < 2 then (towncrierlaw08_ExprSums.j0 k a0 a1 a2 t417 true) else (towncrierlaw08_ExprSums.j0 k a0 a1 a2 t417 (decide (a2 > 4)))) else (towncrierlaw08_ExprSums.j0 k a0 a1 a2 t417 true))
theorem towncrierlaw08_ExprSums.mono_l : ∀ k, (∀ y0 y1 y2 y3 y4, LeO (towncrierlaw08_ExprSums.j0 k y0 y1 y2 y3 y4) (towncrierlaw08_ExprSums.j0 (k + 1) y0 y1 y2 y3 y4)) ∧ (∀ y0 y1 y2 y3 y4 y5 y6 y7, LeO (towncrierlaw08_ExprSums.j1 k y0 y1 y2 y3 y4 y5 y6 y7) (towncrierlaw08_ExprSums.j1 (k + 1) y0 y1 y2 y3 y4 y5 y6 y7))
  | 0 => ⟨fun _ _ _ _ _ r h => by simp [towncrierlaw08_ExprSums.j0] at h, fun _ _ _ _ _ _ _ _ r h => by simp [towncrierlaw08_ExprSums.j1] at h⟩
  | k + 1 => by
    obtain ⟨ih0, ih1⟩ := towncrierlaw08_ExprSums.mono_l k
    refine ⟨?_, ?_⟩
    · intro y0 y1 y2 y3 y4
      unfold towncrierlaw08_ExprSums.j0
      repeat' first
      | (with_reducible exact ih0 _ _ _ _ _)
      | (with_reducible exact ih1 _ _ _ _ _ _ _ _)
      | (with_reducible exact LeO.refl _)
      | (with_reducible exact LeO.none _)
      | (with_reducible refine LeO.ite ?_ ?_)
      | (with_reducible refine LeO.bind ?_ (fun _ => ?_))
      | exact ih0 _ _ _ _ _
      | exact ih1 _ _ _ _ _ _ _ _
      | exact LeO.none _
      | refine LeO.ite ?_ ?_
      | refine LeO.bind ?_ (fun _ => ?_)
    · intro y0 y1 y2 y3 y4 y5 y6 y7
      unfold towncrierlaw08_ExprSums.j1
      repeat' first
      | (with_reducible exact ih0 _ _ _ _ _)
      | (with_reducible exact ih1 _ _ _ _ _ _ _ _)
      | (with_reducible exact LeO.refl _)
      | (with_reducible exact LeO.none _)
      | (with_reducible refine LeO.ite ?_ ?_)
      | (with_reducible refine LeO.bind ?_ (fun _ => ?_))
      | exact ih0 _ _ _ _ _
      | exact ih1 _ _ _ _ _ _ _ _
      | exact LeO.none _
      | refine LeO.ite ?_ ?_
      | refine LeO.bind ?_ (fun _ => ?_)
theorem towncrierlaw08_ExprSums.mono : ∀ a0 a1 a2 k, LeO (towncrierlaw08_ExprSums.f k a0 a1 a2) (towncrierlaw08_ExprSums.f (k + 1) a0 a1 a2) := by
  intro a0 a1 a2 k
  obtain ⟨ih0, ih1⟩ := towncrierlaw08_ExprSums.mono_l k
  unfold towncrierlaw08_ExprSums.f
  repeat' first
      | (with_reducible exact ih0 _ _ _ _ _)
      | (with_reducible exact ih1 _ _ _ _ _ _ _ _)
      | (with_reducible exact LeO.refl _)
      | (with_reducible exact LeO.none _)
      | (with_reducible refine LeO.ite ?_ ?_)
      | (with_reducible refine LeO.bind ?_ (fun _ => ?_))
      | exact ih0 _ _ _ _ _
      | exact ih1 _ _ _ _ _ _ _ _
      | exact LeO.none _
      | refine LeO.ite ?_ ?_
      | refine LeO.bind ?_ (fun _ => ?_)
set_option maxHeartbeats 8000000 in
set_option maxRecDepth 100000 in
theorem towncrierlaw08_ExprSums.calls (k : Nat) (a0 : Int) (a1 : Int) (a2 : Int) (r : Bool) (w : World) (h : towncrierlaw08_ExprSums.f k a0 a1 a2 = some r) :
    Calls Try.prog 5 #[.int .i64 a0, .int .i64 a1, .int .i64 a2] w fun e w' => e = .returned (.bool r) ∧ Below w.heap.size w w' := by
  have hu38 := Try.underlying38
  have hu50 := Try.underlying50
  have hu27 := Try.underlying27
  have HB := Aside0.mk (Below.refl w.heap.size w)
  have H : ((towncrierlaw08_awake.f).bind fun t417 => (if t417 = true then (if a2 < 2 then (towncrierlaw08_ExprSums.j0 k a0 a1 a2 t417 true) else (towncrierlaw08_ExprSums.j0 k a0 a1 a2 t417 (decide (a2 > 4)))) else (towncrierlaw08_ExprSums.j0 k a0 a1 a2 t417 true))) = some r := h
  clear h
  replace H := Option.bind_eq_some_iff.mp H
  obtain ⟨t417, A40, H⟩ := H
  replace H : (if t417 = true then (if a2 < 2 then (towncrierlaw08_ExprSums.j0 k a0 a1 a2 t417 true) else (towncrierlaw08_ExprSums.j0 k a0 a1 a2 t417 (decide (a2 > 4)))) else (towncrierlaw08_ExprSums.j0 k a0 a1 a2 t417 true)) = some r := H
  have A4 := Aside0.mk A40
  clear A40
  have HC5 := Aside0.mk H
  clear H
  go_enter Try.func5, Try.ntmps5
  go_upto_region 2 with (first | ((with_reducible refine gate_callee (f := 13) rfl ?_); refine goesL_ (some 12) rfl rfl Try.func13 (by kernel_rfl) rfl #[] rfl (by (try simp only [List.map_toArray, List.map_cons, List.map_nil]); first | done | rfl | (simp only [List.length_drop, List.length_take]; rfl)) ?_; (with_reducible refine (towncrierlaw08_awake.calls  t417 _ A4.out).mono ?_); rintro e w6 ⟨rfl, hb⟩; refine ⟨_, rfl, ?_⟩; have n0_ := Aside0.mk (below_step (by repeat (first | (with_reducible first | exact HB.out | apply below_alloc | apply pw_below_drewN | apply below_drew1) | exact HB.out)) hb); clear HB; have HB := n0_; clear n0_; (try clear hb); (try clear hb2); (try clear hk); (try clear hi)))
  (try simp only [Act.put, List.setIfInBounds_toArray, List.set_cons_zero, List.set_cons_succ])
  go_cut [22] (fun v22 wc => ∃ (kq : Nat) (x22_4 : Bool), v22 = .bool x22_4 ∧ Aside0 (towncrierlaw08_ExprSums.j0 kq a0 a1 a2 t417 x22_4 = some r) ∧ Aside0 (kq ≤ k) ∧ Aside0 (Below w.heap.size w wc))
  case first =>
    have H := HC5.out
    clear HC5
    by_cases c7 : t417 = true
    · subst c7
      have H1 : (if a2 < 2 then (towncrierlaw08_ExprSums.j0 k a0 a1 a2 true true) else (towncrierlaw08_ExprSums.j0 k a0 a1 a2 true (decide (a2 > 4)))) = some r := by rw [if_pos rfl] at H; exact H
      clear H
      have H := H1
      clear H1
      by_cases c8 : a2 < 2
      · rw [if_pos c8] at H
        have c8b0 : decide (a2 < 2) = true := decide_eq_true c8
        clear c8
        (first | rw [c8b0] | (simp only [i64_w, i32_w]; rw [c8b0]) | skip)
        have H' := Aside0.mk H
        clear H
        go_wp2
        go_meet
        case rel => exact ⟨_, (true), (by first | rfl | (simp; done) | (simp [*]; done)), H', ⟨by first | omega | exact Nat.le_refl _⟩, ⟨by repeat (first | (with_reducible first | exact HB.out | apply below_alloc | apply pw_below_drewN | apply below_drew1) | exact HB.out)⟩⟩
      · rw [if_neg c8] at H
        have c8b0 : decide (a2 < 2) = false := decide_eq_false c8
        clear c8
        (first | rw [c8b0] | (simp only [i64_w, i32_w]; rw [c8b0]) | skip)
        have H' := Aside0.mk H
        clear H
        go_wp2
        go_meet
        case rel => exact ⟨_, (decide (a2 > 4)), (by first | rfl | (simp; done) | (simp [*]; done)), H', ⟨by first | omega | exact Nat.le_refl _⟩, ⟨by repeat (first | (with_reducible first | exact HB.out | apply below_alloc | apply pw_below_drewN | apply below_drew1) | exact HB.out)⟩⟩
    · replace c7 := Bool.eq_false_iff.mpr c7
      subst c7
      have H1 : (towncrierlaw08_ExprSums.j0 k a0 a1 a2 false true) = some r := by rw [if_neg (show ¬ (false = true) by decide)] at H; exact H
      clear H
      have H := H1
      clear H1
      have H' := Aside0.mk H
      clear H
      go_wp2
      go_meet
      case rel => exact ⟨_, (true), (by first | rfl | (simp; done) | (simp [*]; done)), H', ⟨by first | omega | exact Nat.le_refl _⟩, ⟨by repeat (first | (with_reducible first | exact HB.out | apply below_alloc | apply pw_below_drewN | apply below_drew1) | exact HB.out)⟩⟩
  case rest =>
    clear HC5
    try clear c1
    try clear p2
    try clear c5
    try clear c7
    try clear c8
    try clear c8b0
    obtain ⟨kq, x22_4, rfl, HA, HJ4, HB⟩ := hcut
    cases kq with
    | zero => exact absurd HA.out (by simp [towncrierlaw08_ExprSums.j0])
    | succ kj4 =>
      have H := HA.out
      clear HA
      simp only [towncrierlaw08_ExprSums.j0] at H
      by_cases c9 : x22_4 = true
      · subst c9
        have H1 : (some t417) = some r := by rw [if_pos rfl] at H; exact H
        clear H
        have H := H1
        clear H1
        obtain rfl := Option.some.inj H
        go_wp2
        go_ret
        exact ⟨by first | rfl | (simp [errW_none, errW_some] <;> rfl) | (simp [*, errW_none, errW_some] <;> rfl), by repeat (first | (with_reducible first | exact HB.out | apply below_alloc | apply pw_below_drewN | apply below_drew1) | exact HB.out)⟩
      · replace c9 := Bool.eq_false_iff.mpr c9
        subst c9
        have H1 : ((expr_Eval.f (⟨#[97]⟩ : ByteArray) 0 ([] : List (S38)) (([(⟨0, 0, (⟨0, a0, (⟨#[]⟩ : ByteArray)⟩ : S38)⟩ : S50), (⟨0, 0, (⟨0, a1, (⟨#[]⟩ : ByteArray)⟩ : S38)⟩ : S50), (⟨a2, 0, (⟨0, 0, (⟨#[]⟩ : ByteArray)⟩ : S38)⟩ : S50)] : List (S50)))).bind fun bt421 => (if a0 < 1073741824 then (if a0 > (-1073741824) then (if a1 < 1073741824 then (towncrierlaw08_ExprSums.j1 kj4 a0 a1 a2 bt421.2.2.2 (decide (a1 > (-1073741824))) bt421.1 bt421.2.1 bt421.2.2.1) else (towncrierlaw08_ExprSums.j1 kj4 a0 a1 a2 bt421.2.2.2 false bt421.1 bt421.2.1 bt421.2.2.1)) else (towncrierlaw08_ExprSums.j1 kj4 a0 a1 a2 bt421.2.2.2 false bt421.1 bt421.2.1 bt421.2.2.1)) else (towncrierlaw08_ExprSums.j1 kj4 a0 a1 a2 bt421.2.2.2 false bt421.1 bt421.2.1 bt421.2.2.1))) = some r := by rw [if_neg (show ¬ (false = true) by decide)] at H; exact H
        clear H
        have H := H1
        clear H1
        obtain ⟨y418, hy418⟩ : ∃ y_ : List (S50), y_ = (([(⟨0, 0, (⟨0, a0, (⟨#[]⟩ : ByteArray)⟩ : S38)⟩ : S50), (⟨0, 0, (⟨0, a1, (⟨#[]⟩ : ByteArray)⟩ : S38)⟩ : S50), (⟨a2, 0, (⟨0, 0, (⟨#[]⟩ : ByteArray)⟩ : S38)⟩ : S50)] : List (S50))) := ⟨_, rfl⟩
        replace H : ((expr_Eval.f (⟨#[97]⟩ : ByteArray) 0 ([] : List (S38)) y418).bind fun bt421 => (if a0 < 1073741824 then (if a0 > (-1073741824) then (if a1 < 1073741824 then (towncrierlaw08_ExprSums.j1 kj4 a0 a1 a2 bt421.2.2.2 (decide (a1 > (-1073741824))) bt421.1 bt421.2.1 bt421.2.2.1) else (towncrierlaw08_ExprSums.j1 kj4 a0 a1 a2 bt421.2.2.2 false bt421.1 bt421.2.1 bt421.2.2.1)) else (towncrierlaw08_ExprSums.j1 kj4 a0 a1 a2 bt421.2.2.2 false bt421.1 bt421.2.1 bt421.2.2.1)) else (towncrierlaw08_ExprSums.j1 kj4 a0 a1 a2 bt421.2.2.2 false bt421.1 bt421.2.1 bt421.2.2.1))) = some r := by first | (rw [hy418]; with_reducible exact H) | (have H2_ := (Option.bind_some _ _).symm.trans H; rw [hy418]; with_reducible exact H2_) | (have H2_ := (Option.bind_some _ _).symm.trans H; with_reducible exact H2_) | with_reducible exact H | (rw [hy418]; exact H) | exact H
        have Ny418 := Aside0.mk hy418
        clear hy418
        replace H := Option.bind_eq_some_iff.mp H
        obtain ⟨⟨t421, t422, t423, t424⟩, A100, H⟩ := H
        replace H : (if a0 < 1073741824 then (if a0 > (-1073741824) then (if a1 < 1073741824 then (towncrierlaw08_ExprSums.j1 kj4 a0 a1 a2 t424 (decide (a1 > (-1073741824))) t421 t422 t423) else (towncrierlaw08_ExprSums.j1 kj4 a0 a1 a2 t424 false t421 t422 t423)) else (towncrierlaw08_ExprSums.j1 kj4 a0 a1 a2 t424 false t421 t422 t423)) else (towncrierlaw08_ExprSums.j1 kj4 a0 a1 a2 t424 false t421 t422 t423)) = some r := H
        have A10 := Aside0.mk A100
        clear A100
        have HC11 := Aside0.mk H
        clear H
        go_upto_region 6 with (first | ((with_reducible refine gate_dst (N := 32) rfl ?_); refine Kd.R_lit k50 _ 50 ?hg (N := 32) ?hd (xs := ([(⟨0, 0, (⟨0, a0, (⟨#[]⟩ : ByteArray)⟩ : S38)⟩ : S50), (⟨0, 0, (⟨0, a1, (⟨#[]⟩ : ByteArray)⟩ : S38)⟩ : S50), (⟨a2, 0, (⟨0, 0, (⟨#[]⟩ : ByteArray)⟩ : S38)⟩ : S50)] : List (S50))) (inner := [.int .i64 0, .int .i64 0, .int .i64 0, .int .i64 a0, .string (⟨#[]⟩ : ByteArray), .int .i64 0, .int .i64 0, .int .i64 0, .int .i64 a1, .string (⟨#[]⟩ : ByteArray), .int .i64 a2, .int .i64 0, .int .i64 0, .int .i64 0, .string (⟨#[]⟩ : ByteArray)]) (ok := fun _ => True) (okp := fun _ => True) ?hr ?hp (fun _ hk => hk) trivial (Below.refl _ _) (Nat.le_refl _) (by simp) ?_; (case hd => rfl); (case hg => rfl); (case hr => first | (go_simp; done) | (go_simp; rfl)); (case hp => exact (Reps.c5 (show Kd.M k50 _ _ _ (⟨0, 0, (⟨0, a0, (⟨#[]⟩ : ByteArray)⟩ : S38)⟩ : S50) [.int .i64 0, .int .i64 0, .int .i64 0, .int .i64 a0, .string (⟨#[]⟩ : ByteArray)] from (k50_mkM _ _ _ (⟨0, 0, (⟨0, a0, (⟨#[]⟩ : ByteArray)⟩ : S38)⟩ : S50) )) (Reps.c5 (show Kd.M k50 _ _ _ (⟨0, 0, (⟨0, a1, (⟨#[]⟩ : ByteArray)⟩ : S38)⟩ : S50) [.int .i64 0, .int .i64 0, .int .i64 0, .int .i64 a1, .string (⟨#[]⟩ : ByteArray)] from (k50_mkM _ _ _ (⟨0, 0, (⟨0, a1, (⟨#[]⟩ : ByteArray)⟩ : S38)⟩ : S50) )) (Reps.c5 (show Kd.M k50 _ _ _ (⟨a2, 0, (⟨0, 0, (⟨#[]⟩ : ByteArray)⟩ : S38)⟩ : S50) [.int .i64 a2, .int .i64 0, .int .i64 0, .int .i64 0, .string (⟨#[]⟩ : ByteArray)] from (k50_mkM _ _ _ (⟨a2, 0, (⟨0, 0, (⟨#[]⟩ : ByteArray)⟩ : S38)⟩ : S50) )) (Reps.none _ _))))); intro v419 w12 ho13 hb hg_ hnew_; clear hg_ hnew_; (first | rw [← Ny418.out] at ho13 | (simp only [Int.reduceToNat] at ho13; rw [← Ny418.out] at ho13)); have n0_ := Aside0.mk (Kd.R_lower ho13 (below_size (by repeat (first | (with_reducible first | exact HB.out | apply below_alloc | apply pw_below_drewN | apply below_drew1) | exact HB.out)))); have n1_ := Aside0.mk (below_step (by repeat (first | (with_reducible first | exact HB.out | apply below_alloc | apply pw_below_drewN | apply below_drew1) | exact HB.out)) hb); clear HB; have HO420 := n0_; have HB := n1_; clear n0_ n1_; clear hb ho13; obtain ⟨Ao14, co14, eo14⟩ := Kd.R_slice HO420.out; subst eo14) | ((with_reducible refine gate_callee (f := 19) rfl ?_); refine goesL_ (some 36) rfl rfl Try.func19 (by kernel_rfl) rfl #[.agg #[.string (⟨#[97]⟩ : ByteArray), .int .i64 0, .slice none 0 0], .slice Ao14 y418.length co14] rfl (by (try simp only [List.map_toArray, List.map_cons, List.map_nil]); first | done | rfl | (simp only [List.length_drop, List.length_take]; rfl)) ?_; (refine (expr_Eval.calls (⟨#[97]⟩ : ByteArray) 0 _ _ ([] : List (S38)) _ _ y418 t421 t422 t423 t424 _ ?side1 ?side2 ?side3 ?side4 A10.out).mono ?_); (case side1 => exact Kd.C_nil _ _); (case side2 => exact Nat.le_refl _); (case side3 => repeat (first | exact (Kd.R_reads' HO420.out).2.2 | (with_reducible refine Kd.C_alloc ?_ _) | (with_reducible refine Kd.C_drewN ?_ _) | (with_reducible refine Kd.C_drew ?_))); (case side4 => exact (Kd.R_reads' HO420.out).2.1); rintro e w15 ⟨rfl, hb⟩; refine ⟨_, rfl, ?_⟩; have n0_ := Aside0.mk (Kd.R_below (by (with_reducible repeat (first | apply Kd.R_alloc | apply Kd.R_drewN | apply Kd.R_drew)); exact HO420.out) hb); have n1_ := Aside0.mk (below_step (by repeat (first | (with_reducible first | exact HB.out | apply below_alloc | apply pw_below_drewN | apply below_drew1) | exact HB.out)) hb); clear HO420; clear HB; have HO420 := n0_; have HB := n1_; clear n0_ n1_; (try clear hb); (try clear hb2); (try clear hk); (try clear hi)) | ((with_reducible refine gate_dst (N := 9) rfl ?_); refine box_event ?hg (N := 9) ?hd (cs := #[.int .i64 0, .int .i64 0, .string (⟨#[]⟩ : ByteArray)]) (t := 38) ?hr ?_; (case hd => rfl); (case hg => rfl); (case hr => first | (go_simp; done) | (go_simp; rfl)); intro gb425 hg w16 hbox hb; have n0_ := Aside0.mk (Kd.R_below (by (with_reducible repeat (first | apply Kd.R_alloc | apply Kd.R_drewN | apply Kd.R_drew)); exact HO420.out) hb); have n1_ := Aside0.mk (below_step (by repeat (first | (with_reducible first | exact HB.out | apply below_alloc | apply pw_below_drewN | apply below_drew1) | exact HB.out)) hb); have n2_ := Aside0.mk (hbox); have n3_ := Aside0.mk ((by rw [hg]; exact (below_size (by repeat (first | (with_reducible first | exact HB.out | apply below_alloc | apply pw_below_drewN | apply below_drew1) | exact HB.out))) : w.heap.size ≤ gb425)); have n4_ := Aside0.mk ((by rw [hg]; exact (below_size (by repeat (first | (with_reducible first | exact HB.out | apply below_alloc | apply pw_below_drewN | apply below_drew1) | exact HB.out))) : w.heap.size ≤ gb425)); clear HO420; clear HB; have HO420 := n0_; have HB := n1_; have BK425 := n2_; have GW425 := n3_; have GE425 := n4_; clear n0_ n1_ n2_ n3_ n4_; clear hb hbox hg; have hcz17_0 : w16.cell? ⟨gb425, 0, none⟩ = some (.int .i64 0) := (blk_cell BK425.out 0).trans rfl; have hcz17_1 : w16.cell? ⟨gb425, 1, none⟩ = some (.int .i64 0) := (blk_cell BK425.out 1).trans rfl; have hcz17_2 : w16.cell? ⟨gb425, 2, none⟩ = some (.string (⟨#[]⟩ : ByteArray)) := (blk_cell BK425.out 2).trans rfl; have hfz17_0 := blk_frozen BK425.out 0; have hfz17_1 := blk_frozen BK425.out 1; have hfz17_2 := blk_frozen BK425.out 2))
        (try simp only [Act.put, List.setIfInBounds_toArray, List.set_cons_zero, List.set_cons_succ])
        go_cut [11] (fun v11 wc => ∃ (kq : Nat) (x11_10 : Bool), v11 = .bool x11_10 ∧ Aside0 (towncrierlaw08_ExprSums.j1 kq a0 a1 a2 t424 x11_10 t421 t422 t423 = some r) ∧ Aside0 (kq ≤ kj4) ∧ Aside0 (wc.heap[gb425]? = some (.cells #[.int .i64 t421, .int .i64 t422, .string t423] 38 (0, 0))) ∧ Aside0 (Below w.heap.size w wc))
        case first =>
          have H := HC11.out
          clear HC11
          by_cases c18 : a0 < 1073741824
          · rw [if_pos c18] at H
            have c18b0 : decide (a0 < 1073741824) = true := decide_eq_true c18
            clear c18
            (first | rw [c18b0] | (simp only [i64_w, i32_w]; rw [c18b0]) | skip)
            by_cases c19 : a0 > (-1073741824)
            · rw [if_pos c19] at H
              have c19b0 : decide ((-1073741824) < a0) = true := decide_eq_true c19
              clear c19
              by_cases c20 : a1 < 1073741824
              · rw [if_pos c20] at H
                have c20b0 : decide (a1 < 1073741824) = true := decide_eq_true c20
                clear c20
                have H' := Aside0.mk H
                clear H
                go_wp2
                go_meet
                case rel => exact ⟨_, (decide (a1 > (-1073741824))), (by first | rfl | (simp; done) | (simp [*]; done)), H', ⟨by have := HJ4.out; first | omega | exact Nat.le_refl _⟩, ⟨by (with_reducible repeat (first | refine blk_drewN ?_ _ | refine blk_drew ?_ | refine blk_alloc ?_ _)); refine blk_put (cs := #[.int .i64 t421, .int .i64 t422, .string (⟨#[]⟩ : ByteArray)]) ?_ 2 _ rfl; (with_reducible repeat (first | refine blk_drewN ?_ _ | refine blk_drew ?_ | refine blk_alloc ?_ _)); refine blk_put (cs := #[.int .i64 t421, .int .i64 0, .string (⟨#[]⟩ : ByteArray)]) ?_ 1 _ rfl; (with_reducible repeat (first | refine blk_drewN ?_ _ | refine blk_drew ?_ | refine blk_alloc ?_ _)); refine blk_put (cs := #[.int .i64 0, .int .i64 0, .string (⟨#[]⟩ : ByteArray)]) ?_ 0 _ rfl; (with_reducible repeat (first | refine blk_drewN ?_ _ | refine blk_drew ?_ | refine blk_alloc ?_ _)); exact BK425.out⟩, ⟨by repeat (first | (with_reducible first | exact HB.out | apply below_alloc | apply pw_below_drewN | apply below_drew1 | refine below_set ?_ GE425.out) | exact HB.out)⟩⟩
              · rw [if_neg c20] at H
                have c20b0 : decide (a1 < 1073741824) = false := decide_eq_false c20
                clear c20
                have H' := Aside0.mk H
                clear H
                go_wp2
                go_meet
                case rel => exact ⟨_, (false), (by first | rfl | (simp; done) | (simp [*]; done)), H', ⟨by have := HJ4.out; first | omega | exact Nat.le_refl _⟩, ⟨by (with_reducible repeat (first | refine blk_drewN ?_ _ | refine blk_drew ?_ | refine blk_alloc ?_ _)); refine blk_put (cs := #[.int .i64 t421, .int .i64 t422, .string (⟨#[]⟩ : ByteArray)]) ?_ 2 _ rfl; (with_reducible repeat (first | refine blk_drewN ?_ _ | refine blk_drew ?_ | refine blk_alloc ?_ _)); refine blk_put (cs := #[.int .i64 t421, .int .i64 0, .string (⟨#[]⟩ : ByteArray)]) ?_ 1 _ rfl; (with_reducible repeat (first | refine blk_drewN ?_ _ | refine blk_drew ?_ | refine blk_alloc ?_ _)); refine blk_put (cs := #[.int .i64 0, .int .i64 0, .string (⟨#[]⟩ : ByteArray)]) ?_ 0 _ rfl; (with_reducible repeat (first | refine blk_drewN ?_ _ | refine blk_drew ?_ | refine blk_alloc ?_ _)); exact BK425.out⟩, ⟨by repeat (first | (with_reducible first | exact HB.out | apply below_alloc | apply pw_below_drewN | apply below_drew1 | refine below_set ?_ GE425.out) | exact HB.out)⟩⟩
            · rw [if_neg c19] at H
              have c19b0 : decide ((-1073741824) < a0) = false := decide_eq_false c19
              clear c19
              have H' := Aside0.mk H
              clear H
              go_wp2
              go_meet
              case rel => exact ⟨_, (false), (by first | rfl | (simp; done) | (simp [*]; done)), H', ⟨by have := HJ4.out; first | omega | exact Nat.le_refl _⟩, ⟨by (with_reducible repeat (first | refine blk_drewN ?_ _ | refine blk_drew ?_ | refine blk_alloc ?_ _)); refine blk_put (cs := #[.int .i64 t421, .int .i64 t422, .string (⟨#[]⟩ : ByteArray)]) ?_ 2 _ rfl; (with_reducible repeat (first | refine blk_drewN ?_ _ | refine blk_drew ?_ | refine blk_alloc ?_ _)); refine blk_put (cs := #[.int .i64 t421, .int .i64 0, .string (⟨#[]⟩ : ByteArray)]) ?_ 1 _ rfl; (with_reducible repeat (first | refine blk_drewN ?_ _ | refine blk_drew ?_ | refine blk_alloc ?_ _)); refine blk_put (cs := #[.int .i64 0, .int .i64 0, .string (⟨#[]⟩ : ByteArray)]) ?_ 0 _ rfl; (with_reducible repeat (first | refine blk_drewN ?_ _ | refine blk_drew ?_ | refine blk_alloc ?_ _)); exact BK425.out⟩, ⟨by repeat (first | (with_reducible first | exact HB.out | apply below_alloc | apply pw_below_drewN | apply below_drew1 | refine below_set ?_ GE425.out) | exact HB.out)⟩⟩
          · rw [if_neg c18] at H
            have c18b0 : decide (a0 < 1073741824) = false := decide_eq_false c18
            clear c18
            (first | rw [c18b0] | (simp only [i64_w, i32_w]; rw [c18b0]) | skip)
            have H' := Aside0.mk H
            clear H
            go_wp2
            go_meet
            case rel => exact ⟨_, (false), (by first | rfl | (simp; done) | (simp [*]; done)), H', ⟨by have := HJ4.out; first | omega | exact Nat.le_refl _⟩, ⟨by (with_reducible repeat (first | refine blk_drewN ?_ _ | refine blk_drew ?_ | refine blk_alloc ?_ _)); refine blk_put (cs := #[.int .i64 t421, .int .i64 t422, .string (⟨#[]⟩ : ByteArray)]) ?_ 2 _ rfl; (with_reducible repeat (first | refine blk_drewN ?_ _ | refine blk_drew ?_ | refine blk_alloc ?_ _)); refine blk_put (cs := #[.int .i64 t421, .int .i64 0, .string (⟨#[]⟩ : ByteArray)]) ?_ 1 _ rfl; (with_reducible repeat (first | refine blk_drewN ?_ _ | refine blk_drew ?_ | refine blk_alloc ?_ _)); refine blk_put (cs := #[.int .i64 0, .int .i64 0, .string (⟨#[]⟩ : ByteArray)]) ?_ 0 _ rfl; (with_reducible repeat (first | refine blk_drewN ?_ _ | refine blk_drew ?_ | refine blk_alloc ?_ _)); exact BK425.out⟩, ⟨by repeat (first | (with_reducible first | exact HB.out | apply below_alloc | apply pw_below_drewN | apply below_drew1 | refine below_set ?_ GE425.out) | exact HB.out)⟩⟩
        case rest =>
          clear HC11
          try clear c1
          try clear c2
          try clear p2
          try clear c5
          try clear c7
          try clear c8
          try clear c8b0
          try clear c9
          try clear c13
          try clear c18
          try clear c18b0
          try clear c19
          try clear c19b0
          try clear c20
          try clear c20b0
          try clear hcz17_0
          try clear hcz17_1
          try clear hcz17_2
          try clear hfz17_0
          try clear hfz17_1
          try clear hfz17_2
          try clear p2
          obtain ⟨kq, x11_10, rfl, HA, HJ10, BK425, HB⟩ := hcut
          cases kq with
          | zero => exact absurd HA.out (by simp [towncrierlaw08_ExprSums.j1])
          | succ kj10 =>
            have H := HA.out
            clear HA
            simp only [towncrierlaw08_ExprSums.j1] at H
            by_cases c21 : t424 = 0
            · rw [if_pos c21] at H
              have c21b0 : (t424 == 0) = true := beq_iff_eq.mpr c21
              have c21b1 : (t424 != 0) = false := bne_eq_false_iff_eq.mpr c21
              clear c21
              by_cases c22 : a2 = 2
              · rw [if_pos c22] at H
                have c22b0 : (a2 == 2) = true := beq_iff_eq.mpr c22
                have c22b1 : (a2 != 2) = false := bne_eq_false_iff_eq.mpr c22
                clear c22
                by_cases c23 : (wrap64 (t422 - a1)) = a0
                · rw [if_pos c23] at H
                  have c23b0 : ((wrap64 (t422 - a1)) == a0) = true := beq_iff_eq.mpr c23
                  have c23b1 : ((wrap64 (t422 - a1)) != a0) = false := bne_eq_false_iff_eq.mpr c23
                  clear c23
                  obtain rfl := Option.some.inj H
                  have hcz24_0 : wc.cell? ⟨gb425, 0, none⟩ = some (.int .i64 t421) := (blk_cell BK425.out 0).trans rfl
                  have hcz24_1 : wc.cell? ⟨gb425, 1, none⟩ = some (.int .i64 t422) := (blk_cell BK425.out 1).trans rfl
                  have hcz24_2 : wc.cell? ⟨gb425, 2, none⟩ = some (.string t423) := (blk_cell BK425.out 2).trans rfl
                  have hfz24_0 := blk_frozen BK425.out 0
                  have hfz24_1 := blk_frozen BK425.out 1
                  have hfz24_2 := blk_frozen BK425.out 2
                  go_wp2
                  go_ret
                  exact ⟨by first | rfl | (simp [errW_none, errW_some] <;> rfl) | (simp [*, errW_none, errW_some] <;> rfl), by repeat (first | (with_reducible first | exact HB.out | apply below_alloc | apply pw_below_drewN | apply below_drew1 | refine below_set ?_ GE425.out) | exact HB.out)⟩
                · rw [if_neg c23] at H
                  have c23b0 : ((wrap64 (t422 - a1)) == a0) = false := beq_eq_false_iff_ne.mpr c23
                  have c23b1 : ((wrap64 (t422 - a1)) != a0) = true := bne_iff_ne.mpr c23
                  obtain rfl := Option.some.inj H
                  have hcz25_0 : wc.cell? ⟨gb425, 0, none⟩ = some (.int .i64 t421) := (blk_cell BK425.out 0).trans rfl
                  have hcz25_1 : wc.cell? ⟨gb425, 1, none⟩ = some (.int .i64 t422) := (blk_cell BK425.out 1).trans rfl
                  have hcz25_2 : wc.cell? ⟨gb425, 2, none⟩ = some (.string t423) := (blk_cell BK425.out 2).trans rfl
                  have hfz25_0 := blk_frozen BK425.out 0
                  have hfz25_1 := blk_frozen BK425.out 1
                  have hfz25_2 := blk_frozen BK425.out 2
                  go_wp2
                  go_ret
                  exact ⟨by first | rfl | (simp [errW_none, errW_some] <;> rfl) | (simp [*, errW_none, errW_some] <;> rfl), by repeat (first | (with_reducible first | exact HB.out | apply below_alloc | apply pw_below_drewN | apply below_drew1 | refine below_set ?_ GE425.out) | exact HB.out)⟩
              · rw [if_neg c22] at H
                have c22b0 : (a2 == 2) = false := beq_eq_false_iff_ne.mpr c22
                have c22b1 : (a2 != 2) = true := bne_iff_ne.mpr c22
                by_cases c26 : a2 = 3
                · rw [if_pos c26] at H
                  have c26b0 : (a2 == 3) = true := beq_iff_eq.mpr c26
                  have c26b1 : (a2 != 3) = false := bne_eq_false_iff_eq.mpr c26
                  clear c26
                  by_cases c27 : (wrap64 (t422 + a1)) = a0
                  · rw [if_pos c27] at H
                    have c27b0 : ((wrap64 (t422 + a1)) == a0) = true := beq_iff_eq.mpr c27
                    have c27b1 : ((wrap64 (t422 + a1)) != a0) = false := bne_eq_false_iff_eq.mpr c27
                    clear c27
                    obtain rfl := Option.some.inj H
                    have hcz28_0 : wc.cell? ⟨gb425, 0, none⟩ = some (.int .i64 t421) := (blk_cell BK425.out 0).trans rfl
                    have hcz28_1 : wc.cell? ⟨gb425, 1, none⟩ = some (.int .i64 t422) := (blk_cell BK425.out 1).trans rfl
                    have hcz28_2 : wc.cell? ⟨gb425, 2, none⟩ = some (.string t423) := (blk_cell BK425.out 2).trans rfl
                    have hfz28_0 := blk_frozen BK425.out 0
                    have hfz28_1 := blk_frozen BK425.out 1
                    have hfz28_2 := blk_frozen BK425.out 2
                    go_wp2
                    go_ret
                    exact ⟨by first | rfl | (simp [errW_none, errW_some] <;> rfl) | (simp [*, errW_none, errW_some] <;> rfl), by repeat (first | (with_reducible first | exact HB.out | apply below_alloc | apply pw_below_drewN | apply below_drew1 | refine below_set ?_ GE425.out) | exact HB.out)⟩
                  · rw [if_neg c27] at H
                    have c27b0 : ((wrap64 (t422 + a1)) == a0) = false := beq_eq_false_iff_ne.mpr c27
                    have c27b1 : ((wrap64 (t422 + a1)) != a0) = true := bne_iff_ne.mpr c27
                    obtain rfl := Option.some.inj H
                    have hcz29_0 : wc.cell? ⟨gb425, 0, none⟩ = some (.int .i64 t421) := (blk_cell BK425.out 0).trans rfl
                    have hcz29_1 : wc.cell? ⟨gb425, 1, none⟩ = some (.int .i64 t422) := (blk_cell BK425.out 1).trans rfl
                    have hcz29_2 : wc.cell? ⟨gb425, 2, none⟩ = some (.string t423) := (blk_cell BK425.out 2).trans rfl
                    have hfz29_0 := blk_frozen BK425.out 0
                    have hfz29_1 := blk_frozen BK425.out 1
                    have hfz29_2 := blk_frozen BK425.out 2
                    go_wp2
                    go_ret
                    exact ⟨by first | rfl | (simp [errW_none, errW_some] <;> rfl) | (simp [*, errW_none, errW_some] <;> rfl), by repeat (first | (with_reducible first | exact HB.out | apply below_alloc | apply pw_below_drewN | apply below_drew1 | refine below_set ?_ GE425.out) | exact HB.out)⟩
                · rw [if_neg c26] at H
                  have c26b0 : (a2 == 3) = false := beq_eq_false_iff_ne.mpr c26
                  have c26b1 : (a2 != 3) = true := bne_iff_ne.mpr c26
                  by_cases c30 : a1 = 0
                  · rw [if_pos c30] at H
                    have c30b0 : (a1 == 0) = true := beq_iff_eq.mpr c30
                    have c30b1 : (a1 != 0) = false := bne_eq_false_iff_eq.mpr c30
                    clear c30
                    obtain rfl := Option.some.inj H
                    have hcz31_0 : wc.cell? ⟨gb425, 0, none⟩ = some (.int .i64 t421) := (blk_cell BK425.out 0).trans rfl
                    have hcz31_1 : wc.cell? ⟨gb425, 1, none⟩ = some (.int .i64 t422) := (blk_cell BK425.out 1).trans rfl
                    have hcz31_2 : wc.cell? ⟨gb425, 2, none⟩ = some (.string t423) := (blk_cell BK425.out 2).trans rfl
                    have hfz31_0 := blk_frozen BK425.out 0
                    have hfz31_1 := blk_frozen BK425.out 1
                    have hfz31_2 := blk_frozen BK425.out 2
                    go_wp2
                    go_ret
                    exact ⟨by first | rfl | (simp [errW_none, errW_some] <;> rfl) | (simp [*, errW_none, errW_some] <;> rfl), by repeat (first | (with_reducible first | exact HB.out | apply below_alloc | apply pw_below_drewN | apply below_drew1 | refine below_set ?_ GE425.out) | exact HB.out)⟩
                  · rw [if_neg c30] at H
                    have c30b0 : (a1 == 0) = false := beq_eq_false_iff_ne.mpr c30
                    have c30b1 : (a1 != 0) = true := bne_iff_ne.mpr c30
                    by_cases c32 : (wrap64 (Int.tdiv t422 a1)) = a0
                    · rw [if_pos c32] at H
                      have c32b0 : ((wrap64 (Int.tdiv t422 a1)) == a0) = true := beq_iff_eq.mpr c32
                      have c32b1 : ((wrap64 (Int.tdiv t422 a1)) != a0) = false := bne_eq_false_iff_eq.mpr c32
                      clear c32
                      by_cases c33 : (Int.tmod t422 a1) = 0
                      · rw [if_pos c33] at H
                        have c33b0 : ((Int.tmod t422 a1) == 0) = true := beq_iff_eq.mpr c33
                        have c33b1 : ((Int.tmod t422 a1) != 0) = false := bne_eq_false_iff_eq.mpr c33
                        clear c33
                        obtain rfl := Option.some.inj H
                        have hcz34_0 : wc.cell? ⟨gb425, 0, none⟩ = some (.int .i64 t421) := (blk_cell BK425.out 0).trans rfl
                        have hcz34_1 : wc.cell? ⟨gb425, 1, none⟩ = some (.int .i64 t422) := (blk_cell BK425.out 1).trans rfl
                        have hcz34_2 : wc.cell? ⟨gb425, 2, none⟩ = some (.string t423) := (blk_cell BK425.out 2).trans rfl
                        have hfz34_0 := blk_frozen BK425.out 0
                        have hfz34_1 := blk_frozen BK425.out 1
                        have hfz34_2 := blk_frozen BK425.out 2
                        go_wp2
                        go_ret
                        exact ⟨by first | rfl | (simp [errW_none, errW_some] <;> rfl) | (simp [*, errW_none, errW_some] <;> rfl), by repeat (first | (with_reducible first | exact HB.out | apply below_alloc | apply pw_below_drewN | apply below_drew1 | refine below_set ?_ GE425.out) | exact HB.out)⟩
                      · rw [if_neg c33] at H
                        have c33b0 : ((Int.tmod t422 a1) == 0) = false := beq_eq_false_iff_ne.mpr c33
                        have c33b1 : ((Int.tmod t422 a1) != 0) = true := bne_iff_ne.mpr c33
                        obtain rfl := Option.some.inj H
                        have hcz35_0 : wc.cell? ⟨gb425, 0, none⟩ = some (.int .i64 t421) := (blk_cell BK425.out 0).trans rfl
                        have hcz35_1 : wc.cell? ⟨gb425, 1, none⟩ = some (.int .i64 t422) := (blk_cell BK425.out 1).trans rfl
                        have hcz35_2 : wc.cell? ⟨gb425, 2, none⟩ = some (.string t423) := (blk_cell BK425.out 2).trans rfl
                        have hfz35_0 := blk_frozen BK425.out 0
                        have hfz35_1 := blk_frozen BK425.out 1
                        have hfz35_2 := blk_frozen BK425.out 2
                        go_wp2
                        go_ret
                        exact ⟨by first | rfl | (simp [errW_none, errW_some] <;> rfl) | (simp [*, errW_none, errW_some] <;> rfl), by repeat (first | (with_reducible first | exact HB.out | apply below_alloc | apply pw_below_drewN | apply below_drew1 | refine below_set ?_ GE425.out) | exact HB.out)⟩
                    · rw [if_neg c32] at H
                      have c32b0 : ((wrap64 (Int.tdiv t422 a1)) == a0) = false := beq_eq_false_iff_ne.mpr c32
                      have c32b1 : ((wrap64 (Int.tdiv t422 a1)) != a0) = true := bne_iff_ne.mpr c32
                      obtain rfl := Option.some.inj H
                      have hcz36_0 : wc.cell? ⟨gb425, 0, none⟩ = some (.int .i64 t421) := (blk_cell BK425.out 0).trans rfl
                      have hcz36_1 : wc.cell? ⟨gb425, 1, none⟩ = some (.int .i64 t422) := (blk_cell BK425.out 1).trans rfl
                      have hcz36_2 : wc.cell? ⟨gb425, 2, none⟩ = some (.string t423) := (blk_cell BK425.out 2).trans rfl
                      have hfz36_0 := blk_frozen BK425.out 0
                      have hfz36_1 := blk_frozen BK425.out 1
                      have hfz36_2 := blk_frozen BK425.out 2
                      go_wp2
                      go_ret
                      exact ⟨by first | rfl | (simp [errW_none, errW_some] <;> rfl) | (simp [*, errW_none, errW_some] <;> rfl), by repeat (first | (with_reducible first | exact HB.out | apply below_alloc | apply pw_below_drewN | apply below_drew1 | refine below_set ?_ GE425.out) | exact HB.out)⟩
            · rw [if_neg c21] at H
              have c21b0 : (t424 == 0) = false := beq_eq_false_iff_ne.mpr c21
              have c21b1 : (t424 != 0) = true := bne_iff_ne.mpr c21
              by_cases c37 : t424 = 6
              · rw [if_pos c37] at H
                have c37b0 : (t424 == 6) = true := beq_iff_eq.mpr c37
                have c37b1 : (t424 != 6) = false := bne_eq_false_iff_eq.mpr c37
                clear c37
                by_cases c38 : x11_10 = true
                · subst c38
                  have H1 : (some false) = some r := by rw [if_pos rfl] at H; exact H
                  clear H
                  have H := H1
                  clear H1
                  obtain rfl := Option.some.inj H
                  go_wp2
                  go_ret
                  exact ⟨by first | rfl | (simp [errW_none, errW_some] <;> rfl) | (simp [*, errW_none, errW_some] <;> rfl), by repeat (first | (with_reducible first | exact HB.out | apply below_alloc | apply pw_below_drewN | apply below_drew1 | refine below_set ?_ GE425.out) | exact HB.out)⟩
                · replace c38 := Bool.eq_false_iff.mpr c38
                  subst c38
                  have H1 : (some (t421 == 0 && (t422 == 0 && (t423.toList == ([] : List UInt8))))) = some r := by rw [if_neg (show ¬ (false = true) by decide)] at H; exact H
                  clear H
                  have H := H1
                  clear H1
                  obtain rfl := Option.some.inj H
                  have hcz39_0 : wc.cell? ⟨gb425, 0, none⟩ = some (.int .i64 t421) := (blk_cell BK425.out 0).trans rfl
                  have hcz39_1 : wc.cell? ⟨gb425, 1, none⟩ = some (.int .i64 t422) := (blk_cell BK425.out 1).trans rfl
                  have hcz39_2 : wc.cell? ⟨gb425, 2, none⟩ = some (.string t423) := (blk_cell BK425.out 2).trans rfl
                  have hfz39_0 := blk_frozen BK425.out 0
                  have hfz39_1 := blk_frozen BK425.out 1
                  have hfz39_2 := blk_frozen BK425.out 2
                  go_wp2
                  go_ret
                  exact ⟨by first | rfl | (simp [errW_none, errW_some] <;> rfl) | (simp [*, errW_none, errW_some] <;> rfl), by repeat (first | (with_reducible first | exact HB.out | apply below_alloc | apply pw_below_drewN | apply below_drew1 | refine below_set ?_ GE425.out) | exact HB.out)⟩
              · rw [if_neg c37] at H
                have c37b0 : (t424 == 6) = false := beq_eq_false_iff_ne.mpr c37
                have c37b1 : (t424 != 6) = true := bne_iff_ne.mpr c37
                obtain rfl := Option.some.inj H
                go_wp2
                go_ret
                exact ⟨by first | rfl | (simp [errW_none, errW_some] <;> rfl) | (simp [*, errW_none, errW_some] <;> rfl), by repeat (first | (with_reducible first | exact HB.out | apply below_alloc | apply pw_below_drewN | apply below_drew1 | refine below_set ?_ GE425.out) | exact HB.out)⟩

/-- THE ONE PURE STATEMENT of towncrierlaw08_ExprSums: yours. -/
def towncrierlaw08_ExprSums.Pure : Prop := ∀ (a0 : Int) (a1 : Int) (a2 : Int), (Lit.int .i64 a0).wf = true → (Lit.int .i64 a1).wf = true → (Lit.int .i64 a2).wf = true → ∃ k, towncrierlaw08_ExprSums.f k a0 a1 a2 = some true
theorem towncrierlaw08_ExprSums.walk (P : towncrierlaw08_ExprSums.Pure) (a0 : Int) (a1 : Int) (a2 : Int) (w : World) (w0 : (Lit.int .i64 a0).wf = true) (w1 : (Lit.int .i64 a1).wf = true) (w2 : (Lit.int .i64 a2).wf = true) :
    Calls Try.prog 5 #[.int .i64 a0, .int .i64 a1, .int .i64 a2] w fun e w' => e = .returned (.bool true) ∧ Below w.heap.size w w' := by
  obtain ⟨k, h⟩ := P a0 a1 a2 w0 w1 w2
  refine (towncrierlaw08_ExprSums.calls k a0 a1 a2 true w h).mono ?_
  rintro e w' ⟨rfl, hd⟩
  exact ⟨rfl, hd⟩

-- NOT PRINTED: function 6 (towncrierlaw08_ExprNot)

-- NOT PRINTED: function 7 (towncrierlaw08_ExprLess)

end Go.Proofs.Yteommchgnocgnaa.PE
