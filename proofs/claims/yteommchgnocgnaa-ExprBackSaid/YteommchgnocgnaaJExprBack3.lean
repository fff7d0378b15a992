/- Part 3 of the proof of ExprBack: contracts of the functions that it reaches, by walks through their code, and plain laws of what they compute, joined by a program. Conditions: none. -/
import Derived.Test.YteommchgnocgnaaJExprBack1
import Derived.Test.YteommchgnocgnaaJExprBack2
import Derived.Lib.Zigzag
import Derived.Lib.VarintBits
import Derived.Lib.SmallJoins
import Derived.ChangeSame
import Derived.WalkKit
section
namespace Go.Proofs.Yteommchgnocgnaa.PE
open Go.RowKit Go.Proofs.YteommchgnocgnaaW.PrintWords Go.Proofs.YteommchgnocgnaaW.PrintLast Go.Proofs.YteommchgnocgnaaW.PrintMore
attribute [local go_sem] max2_int min2_int max_two min_two max_three min_three max_four min_four   -- for this text's walks alone
set_option linter.unusedVariables false
set_option linter.unusedSimpArgs false

attribute [local go_sem high] eqA38 eqA50

/-! ### expr_truth_value: function 56 -/
def expr_truth_value.f (a0 : Bool) : Option (Int × Int × ByteArray) := if a0 = true then (some (1, 1, (⟨#[]⟩ : ByteArray))) else (some (1, 0, (⟨#[]⟩ : ByteArray)))
set_option maxHeartbeats 8000000 in
set_option maxRecDepth 100000 in
theorem expr_truth_value.calls (a0 : Bool) (r1 : Int) (r2 : Int) (r3 : ByteArray) (w : World) (h : expr_truth_value.f a0 = some (r1, r2, r3)) :
    Calls Try.prog 56 #[.bool a0] w fun e w' => e = .returned (.agg #[.int .i64 r1, .int .i64 r2, .string r3]) ∧ Below w.heap.size w w' := by
  have hu38 := Try.underlying38
  have HB := Aside0.mk (Below.refl w.heap.size w)
  have H : (if a0 = true then (some (1, 1, (⟨#[]⟩ : ByteArray))) else (some (1, 0, (⟨#[]⟩ : ByteArray)))) = some (r1, r2, r3) := h
  clear h
  by_cases c2 : a0 = true
  · subst c2
    have H1 : (some (1, 1, (⟨#[]⟩ : ByteArray))) = some (r1, r2, r3) := by rw [if_pos rfl] at H; exact H
    clear H
    have H := H1
    clear H1
    simp only [Option.some.injEq, Prod.mk.injEq] at H
    obtain ⟨rfl, rfl, rfl⟩ := H
    go_enter Try.func56, Try.ntmps56
    go_wp2_with (first | ((with_reducible refine gate_dst (N := 2) rfl ?_); refine box_event ?hg (N := 2) ?hd (cs := #[.int .i64 0, .int .i64 0, .string (⟨#[]⟩ : ByteArray)]) (t := 38) ?hr ?_; (case hd => rfl); (case hg => rfl); (case hr => first | (go_simp; done) | (go_simp; rfl)); intro gb174 hg w3 hbox hb; have n0_ := Aside0.mk (below_step (by repeat (first | (with_reducible first | exact HB.out | apply below_alloc | apply pw_below_drewN | apply below_drew1) | exact HB.out)) hb); have n1_ := Aside0.mk (hbox); have n2_ := Aside0.mk ((by rw [hg]; exact (below_size (by repeat (first | (with_reducible first | exact HB.out | apply below_alloc | apply pw_below_drewN | apply below_drew1) | exact HB.out))) : w.heap.size ≤ gb174)); have n3_ := Aside0.mk ((by rw [hg]; exact (below_size (by repeat (first | (with_reducible first | exact HB.out | apply below_alloc | apply pw_below_drewN | apply below_drew1) | exact HB.out))) : w.heap.size ≤ gb174)); clear HB; have HB := n0_; have BK174 := n1_; have GW174 := n2_; have GE174 := n3_; clear n0_ n1_ n2_ n3_; clear hb hbox hg; have hcz4_0 : w3.cell? ⟨gb174, 0, none⟩ = some (.int .i64 0) := (blk_cell BK174.out 0).trans rfl; have hcz4_1 : w3.cell? ⟨gb174, 1, none⟩ = some (.int .i64 0) := (blk_cell BK174.out 1).trans rfl; have hcz4_2 : w3.cell? ⟨gb174, 2, none⟩ = some (.string (⟨#[]⟩ : ByteArray)) := (blk_cell BK174.out 2).trans rfl; have hfz4_0 := blk_frozen BK174.out 0; have hfz4_1 := blk_frozen BK174.out 1; have hfz4_2 := blk_frozen BK174.out 2))
    refine bodyPost_ret (results_cell_row rfl _ _ gb174 38 #[.int .i64 1, .int .i64 1, .string (⟨#[]⟩ : ByteArray)] (0, 0) _ rfl (by (with_reducible repeat (first | refine blk_drewN ?_ _ | refine blk_drew ?_ | refine blk_alloc ?_ _)); refine blk_put (cs := #[.int .i64 1, .int .i64 1, .string (⟨#[]⟩ : ByteArray)]) ?_ 2 _ rfl; (with_reducible repeat (first | refine blk_drewN ?_ _ | refine blk_drew ?_ | refine blk_alloc ?_ _)); refine blk_put (cs := #[.int .i64 1, .int .i64 0, .string (⟨#[]⟩ : ByteArray)]) ?_ 1 _ rfl; (with_reducible repeat (first | refine blk_drewN ?_ _ | refine blk_drew ?_ | refine blk_alloc ?_ _)); refine blk_put (cs := #[.int .i64 0, .int .i64 0, .string (⟨#[]⟩ : ByteArray)]) ?_ 0 _ rfl; (with_reducible repeat (first | refine blk_drewN ?_ _ | refine blk_drew ?_ | refine blk_alloc ?_ _)); exact BK174.out) Try.underlying38 rfl (by kernel_rfl)) rfl ?_
    exact ⟨by first | rfl | (simp [errW_none, errW_some] <;> rfl) | (simp [*, errW_none, errW_some] <;> rfl), by repeat (first | (with_reducible first | exact HB.out | apply below_alloc | apply pw_below_drewN | apply below_drew1 | refine below_set ?_ GE174.out) | exact HB.out)⟩
  · replace c2 := Bool.eq_false_iff.mpr c2
    subst c2
    have H1 : (some (1, 0, (⟨#[]⟩ : ByteArray))) = some (r1, r2, r3) := by rw [if_neg (show ¬ (false = true) by decide)] at H; exact H
    clear H
    have H := H1
    clear H1
    simp only [Option.some.injEq, Prod.mk.injEq] at H
    obtain ⟨rfl, rfl, rfl⟩ := H
    go_enter Try.func56, Try.ntmps56
    go_wp2_with (first | ((with_reducible refine gate_dst (N := 2) rfl ?_); refine box_event ?hg (N := 2) ?hd (cs := #[.int .i64 0, .int .i64 0, .string (⟨#[]⟩ : ByteArray)]) (t := 38) ?hr ?_; (case hd => rfl); (case hg => rfl); (case hr => first | (go_simp; done) | (go_simp; rfl)); intro gb174 hg w5 hbox hb; have n0_ := Aside0.mk (below_step (by repeat (first | (with_reducible first | exact HB.out | apply below_alloc | apply pw_below_drewN | apply below_drew1) | exact HB.out)) hb); have n1_ := Aside0.mk (hbox); have n2_ := Aside0.mk ((by rw [hg]; exact (below_size (by repeat (first | (with_reducible first | exact HB.out | apply below_alloc | apply pw_below_drewN | apply below_drew1) | exact HB.out))) : w.heap.size ≤ gb174)); have n3_ := Aside0.mk ((by rw [hg]; exact (below_size (by repeat (first | (with_reducible first | exact HB.out | apply below_alloc | apply pw_below_drewN | apply below_drew1) | exact HB.out))) : w.heap.size ≤ gb174)); clear HB; have HB := n0_; have BK174 := n1_; have GW174 := n2_; have GE174 := n3_; clear n0_ n1_ n2_ n3_; clear hb hbox hg; have hcz6_0 : w5.cell? ⟨gb174, 0, none⟩ = some (.int .i64 0) := (blk_cell BK174.out 0).trans rfl; have hcz6_1 : w5.cell? ⟨gb174, 1, none⟩ = some (.int .i64 0) := (blk_cell BK174.out 1).trans rfl; have hcz6_2 : w5.cell? ⟨gb174, 2, none⟩ = some (.string (⟨#[]⟩ : ByteArray)) := (blk_cell BK174.out 2).trans rfl; have hfz6_0 := blk_frozen BK174.out 0; have hfz6_1 := blk_frozen BK174.out 1; have hfz6_2 := blk_frozen BK174.out 2))
    refine bodyPost_ret (results_cell_row rfl _ _ gb174 38 #[.int .i64 1, .int .i64 0, .string (⟨#[]⟩ : ByteArray)] (0, 0) _ rfl (by (with_reducible repeat (first | refine blk_drewN ?_ _ | refine blk_drew ?_ | refine blk_alloc ?_ _)); refine blk_put (cs := #[.int .i64 1, .int .i64 0, .string (⟨#[]⟩ : ByteArray)]) ?_ 2 _ rfl; (with_reducible repeat (first | refine blk_drewN ?_ _ | refine blk_drew ?_ | refine blk_alloc ?_ _)); refine blk_put (cs := #[.int .i64 1, .int .i64 0, .string (⟨#[]⟩ : ByteArray)]) ?_ 1 _ rfl; (with_reducible repeat (first | refine blk_drewN ?_ _ | refine blk_drew ?_ | refine blk_alloc ?_ _)); refine blk_put (cs := #[.int .i64 0, .int .i64 0, .string (⟨#[]⟩ : ByteArray)]) ?_ 0 _ rfl; (with_reducible repeat (first | refine blk_drewN ?_ _ | refine blk_drew ?_ | refine blk_alloc ?_ _)); exact BK174.out) Try.underlying38 rfl (by kernel_rfl)) rfl ?_
    exact ⟨by first | rfl | (simp [errW_none, errW_some] <;> rfl) | (simp [*, errW_none, errW_some] <;> rfl), by repeat (first | (with_reducible first | exact HB.out | apply below_alloc | apply pw_below_drewN | apply below_drew1 | refine below_set ?_ GE174.out) | exact HB.out)⟩

/-! ### expr_Holds: function 27 -/
def expr_Holds.f (a0_0 : ByteArray) (a0_1 : Int) (l0_2 : List (S38)) (l1 : List (S50)) : Option (Bool) := (expr_Eval.f a0_0 a0_1 l0_2 l1).bind fun bt176 => (if (l1.length : Int) = 0 then (some true) else (if bt176.2.2.2 = 0 then ((expr_truth_value.f true).bind fun bt181 => (some (bt176.1 == bt181.1 && (bt176.2.1 == bt181.2.1 && (bt176.2.2.1.toList == bt181.2.2.toList))))) else (some false)))
def expr_Holds.T2 : Bool × List (List Nat × List Nat) := (true, [([], []), ([0], [0]), ([1], [1]), ([2], [2]), ([3], [3]), ([4, 3], [3, 4]), ([5, 3, 3], [3, 5]), ([6], [6]), ([6, 6], [6]), ([7, 8, 6], [6, 7, 8]), ([6, 9, 3], [3, 6, 9]), ([3, 10], [3, 10]), ([11, 8, 0, 1, 2, 3, 4, 5, 6, 7, 8, 9, 10, 11], [11])])
def expr_Holds.B2 : List Nat := [0, 1, 3, 7, 15, 31, 63, 127, 127, 511, 1023, 2047, 4095]
theorem expr_Holds.tab2 : rtab .any (opsOf Try.f27 2) = expr_Holds.T2 := by kernel_rfl
theorem expr_Holds.bits2 : waitsOk expr_Holds.T2.2 expr_Holds.B2 = true := by kernel_rfl
set_option maxHeartbeats 8000000 in
set_option maxRecDepth 100000 in
theorem expr_Holds.calls (a0_0 : ByteArray) (a0_1 : Int) (A0_2 : Option Addr) (c0_2 : Nat) (l0_2 : List (S38)) (A1 : Option Addr) (c1 : Nat) (l1 : List (S50)) (r : Bool) (w : World) (hr0_2 : Kd.C k38 w A0_2 l0_2.length l0_2) (hc0_2 : l0_2.length ≤ c0_2) (hr1 : Kd.C k50 w A1 l1.length l1) (hc1 : l1.length ≤ c1) (h : expr_Holds.f a0_0 a0_1 l0_2 l1 = some r) :
    Calls Try.prog 27 #[.agg #[.string a0_0, .int .i64 a0_1, .slice A0_2 l0_2.length c0_2], .slice A1 l1.length c1] w fun e w' => e = .returned (.bool r) ∧ Below w.heap.size w w' := by
  have hu27 := Try.underlying27
  have hu38 := Try.underlying38
  have HR0_2 := Aside0.mk hr0_2
  have HC0_2 := Aside0.mk hc0_2
  clear hr0_2 hc0_2
  have HR1 := Aside0.mk hr1
  have HC1 := Aside0.mk hc1
  clear hr1 hc1
  have HB := Aside0.mk (Below.refl w.heap.size w)
  have H : ((expr_Eval.f a0_0 a0_1 l0_2 l1).bind fun bt176 => (if (l1.length : Int) = 0 then (some true) else (if bt176.2.2.2 = 0 then ((expr_truth_value.f true).bind fun bt181 => (some (bt176.1 == bt181.1 && (bt176.2.1 == bt181.2.1 && (bt176.2.2.1.toList == bt181.2.2.toList))))) else (some false)))) = some r := h
  clear h
  replace H := Option.bind_eq_some_iff.mp H
  obtain ⟨⟨t176, t177, t178, t179⟩, A30, H⟩ := H
  replace H : (if (l1.length : Int) = 0 then (some true) else (if t179 = 0 then ((expr_truth_value.f true).bind fun bt181 => (some (t176 == bt181.1 && (t177 == bt181.2.1 && (t178.toList == bt181.2.2.toList))))) else (some false))) = some r := H
  have A3 := Aside0.mk A30
  clear A30
  by_cases c4 : (l1.length : Int) = 0
  · rw [if_pos c4] at H
    have c4b0 : ((l1.length : Int) == 0) = true := beq_iff_eq.mpr c4
    have c4b1 : ((l1.length : Int) != 0) = false := bne_eq_false_iff_eq.mpr c4
    clear c4
    obtain rfl := Option.some.inj H
    go_enter Try.func27, Try.ntmps27
    try go_wp2_with (first | ((with_reducible refine gate_dst (N := 2) rfl ?_); refine box_event ?hg (N := 2) ?hd (cs := #[.string a0_0, .int .i64 a0_1, .slice A0_2 l0_2.length c0_2]) (t := 27) ?hr ?_; (case hd => rfl); (case hg => rfl); (case hr => first | (go_simp; done) | (go_simp; rfl)); intro gb175 hg w5 hbox hb; have n0_ := Aside0.mk (below_step (by repeat (first | (with_reducible first | exact HB.out | apply below_alloc | apply pw_below_drewN | apply below_drew1) | exact HB.out)) hb); have n1_ := Aside0.mk (hbox); have n2_ := Aside0.mk ((by rw [hg]; exact (below_size (by repeat (first | (with_reducible first | exact HB.out | apply below_alloc | apply pw_below_drewN | apply below_drew1) | exact HB.out))) : w.heap.size ≤ gb175)); have n3_ := Aside0.mk ((by rw [hg]; exact (below_size (by repeat (first | (with_reducible first | exact HB.out | apply below_alloc | apply pw_below_drewN | apply below_drew1) | exact HB.out))) : w.heap.size ≤ gb175)); clear HB; have HB := n0_; have BK175 := n1_; have GW175 := n2_; have GE175 := n3_; clear n0_ n1_ n2_ n3_; clear hb hbox hg; have hcz6_0 : w5.cell? ⟨gb175, 0, none⟩ = some (.string a0_0) := (blk_cell BK175.out 0).trans rfl; have hcz6_1 : w5.cell? ⟨gb175, 1, none⟩ = some (.int .i64 a0_1) := (blk_cell BK175.out 1).trans rfl; have hcz6_2 : w5.cell? ⟨gb175, 2, none⟩ = some (.slice A0_2 l0_2.length c0_2) := (blk_cell BK175.out 2).trans rfl; have hfz6_0 := blk_frozen BK175.out 0; have hfz6_1 := blk_frozen BK175.out 1; have hfz6_2 := blk_frozen BK175.out 2) | ((with_reducible refine gate_callee (f := 19) rfl ?_); refine goesL_ (some 10) rfl rfl Try.func19 (by kernel_rfl) rfl #[.agg #[.string a0_0, .int .i64 a0_1, .slice A0_2 l0_2.length c0_2], .slice A1 l1.length c1] rfl (by (try simp only [List.map_toArray, List.map_cons, List.map_nil]); first | done | rfl | (simp only [List.length_drop, List.length_take]; rfl)) ?_; (with_reducible refine (expr_Eval.calls a0_0 a0_1 _ _ l0_2 _ _ l1 t176 t177 t178 t179 _ ?side1 ?side2 ?side3 ?side4 A3.out).mono ?_); (case side1 => repeat (first | exact (Kd.C_below HR0_2.out HB.out) | (with_reducible refine Kd.C_alloc ?_ _) | (with_reducible refine Kd.C_drewN ?_ _) | (with_reducible refine Kd.C_drew ?_))); (case side2 => exact HC0_2.out); (case side3 => repeat (first | exact (Kd.C_below HR1.out HB.out) | (with_reducible refine Kd.C_alloc ?_ _) | (with_reducible refine Kd.C_drewN ?_ _) | (with_reducible refine Kd.C_drew ?_))); (case side4 => exact HC1.out); rintro e w7 ⟨rfl, hb⟩; refine ⟨_, rfl, ?_⟩; have n0_ := Aside0.mk (blk_below (g := gb175) (o := .cells #[.string a0_0, .int .i64 a0_1, .slice A0_2 l0_2.length c0_2] 27 (0, 0)) (by (with_reducible repeat (first | refine blk_drewN ?_ _ | refine blk_drew ?_ | refine blk_alloc ?_ _)); exact BK175.out) hb); have n1_ := Aside0.mk (below_step (by repeat (first | (with_reducible first | exact HB.out | apply below_alloc | apply pw_below_drewN | apply below_drew1 | refine below_set ?_ GE175.out) | exact HB.out)) hb); clear BK175; clear HB; have BK175 := n0_; have HB := n1_; clear n0_ n1_; (try clear hb); (try clear hb2); (try clear hk); (try clear hi)) | ((with_reducible refine gate_dst (N := 5) rfl ?_); refine box_event ?hg (N := 5) ?hd (cs := #[.int .i64 0, .int .i64 0, .string (⟨#[]⟩ : ByteArray)]) (t := 38) ?hr ?_; (case hd => rfl); (case hg => rfl); (case hr => first | (go_simp; done) | (go_simp; rfl)); intro gb180 hg w8 hbox hb; have n0_ := Aside0.mk (blk_below (g := gb175) (o := .cells #[.string a0_0, .int .i64 a0_1, .slice A0_2 l0_2.length c0_2] 27 (0, 0)) (by (with_reducible repeat (first | refine blk_drewN ?_ _ | refine blk_drew ?_ | refine blk_alloc ?_ _)); exact BK175.out) hb); have n1_ := Aside0.mk (below_step (by repeat (first | (with_reducible first | exact HB.out | apply below_alloc | apply pw_below_drewN | apply below_drew1 | refine below_set ?_ GE175.out) | exact HB.out)) hb); have n2_ := Aside0.mk (hbox); have n3_ := Aside0.mk ((by rw [hg]; exact (below_size (by repeat (first | (with_reducible first | exact HB.out | apply below_alloc | apply pw_below_drewN | apply below_drew1 | refine below_set ?_ GE175.out) | exact HB.out))) : w.heap.size ≤ gb180)); have n4_ := Aside0.mk ((by rw [hg]; exact (below_size (by repeat (first | (with_reducible first | exact HB.out | apply below_alloc | apply pw_below_drewN | apply below_drew1 | refine below_set ?_ GE175.out) | exact HB.out))) : w.heap.size ≤ gb180)); have n5_ := Aside0.mk ((by rw [hg]; exact Nat.ne_of_lt (blk_lt (g := gb175) (o := .cells #[.string a0_0, .int .i64 a0_1, .slice A0_2 l0_2.length c0_2] 27 (0, 0)) (by (with_reducible repeat (first | refine blk_drewN ?_ _ | refine blk_drew ?_ | refine blk_alloc ?_ _)); exact BK175.out)) : gb175 ≠ gb180)); have n6_ := Aside0.mk ((by rw [hg]; exact Nat.ne_of_gt (blk_lt (g := gb175) (o := .cells #[.string a0_0, .int .i64 a0_1, .slice A0_2 l0_2.length c0_2] 27 (0, 0)) (by (with_reducible repeat (first | refine blk_drewN ?_ _ | refine blk_drew ?_ | refine blk_alloc ?_ _)); exact BK175.out)) : gb180 ≠ gb175)); clear BK175; clear HB; have BK175 := n0_; have HB := n1_; have BK180 := n2_; have GW180 := n3_; have GE180 := n4_; have NB175_180 := n5_; have NB180_175 := n6_; clear n0_ n1_ n2_ n3_ n4_ n5_ n6_; clear hb hbox hg; have hnb9 := NB180_175.out; have hnc9 := NB175_180.out; have hcz10_0 : w8.cell? ⟨gb180, 0, none⟩ = some (.int .i64 0) := (blk_cell BK180.out 0).trans rfl; have hcz10_1 : w8.cell? ⟨gb180, 1, none⟩ = some (.int .i64 0) := (blk_cell BK180.out 1).trans rfl; have hcz10_2 : w8.cell? ⟨gb180, 2, none⟩ = some (.string (⟨#[]⟩ : ByteArray)) := (blk_cell BK180.out 2).trans rfl; have hfz10_0 := blk_frozen BK180.out 0; have hfz10_1 := blk_frozen BK180.out 1; have hfz10_2 := blk_frozen BK180.out 2))
    have n0_ : Aside0 ((((w8.setCell ⟨gb180, 0, none⟩ (.int .i64 t176)).setCell ⟨gb180, 1, none⟩ (.int .i64 t177)).setCell ⟨gb180, 2, none⟩ (.string t178)).heap[gb175]? = some (.cells #[.string a0_0, .int .i64 a0_1, .slice A0_2 l0_2.length c0_2] 27 (0, 0))) := ⟨by (with_reducible repeat (first | refine blk_drewN ?_ _ | refine blk_drew ?_ | refine blk_alloc ?_ _)); refine blk_far ?_ NB175_180.out _; (with_reducible repeat (first | refine blk_drewN ?_ _ | refine blk_drew ?_ | refine blk_alloc ?_ _)); refine blk_far ?_ NB175_180.out _; (with_reducible repeat (first | refine blk_drewN ?_ _ | refine blk_drew ?_ | refine blk_alloc ?_ _)); refine blk_far ?_ NB175_180.out _; (with_reducible repeat (first | refine blk_drewN ?_ _ | refine blk_drew ?_ | refine blk_alloc ?_ _)); exact BK175.out⟩
    have n1_ : Aside0 ((((w8.setCell ⟨gb180, 0, none⟩ (.int .i64 t176)).setCell ⟨gb180, 1, none⟩ (.int .i64 t177)).setCell ⟨gb180, 2, none⟩ (.string t178)).heap[gb180]? = some (.cells #[.int .i64 t176, .int .i64 t177, .string t178] 38 (0, 0))) := ⟨by (with_reducible repeat (first | refine blk_drewN ?_ _ | refine blk_drew ?_ | refine blk_alloc ?_ _)); refine blk_put (cs := #[.int .i64 t176, .int .i64 t177, .string (⟨#[]⟩ : ByteArray)]) ?_ 2 _ rfl; (with_reducible repeat (first | refine blk_drewN ?_ _ | refine blk_drew ?_ | refine blk_alloc ?_ _)); refine blk_put (cs := #[.int .i64 t176, .int .i64 0, .string (⟨#[]⟩ : ByteArray)]) ?_ 1 _ rfl; (with_reducible repeat (first | refine blk_drewN ?_ _ | refine blk_drew ?_ | refine blk_alloc ?_ _)); refine blk_put (cs := #[.int .i64 0, .int .i64 0, .string (⟨#[]⟩ : ByteArray)]) ?_ 0 _ rfl; (with_reducible repeat (first | refine blk_drewN ?_ _ | refine blk_drew ?_ | refine blk_alloc ?_ _)); exact BK180.out⟩
    have n2_ : Aside0 (Below w.heap.size w (((w8.setCell ⟨gb180, 0, none⟩ (.int .i64 t176)).setCell ⟨gb180, 1, none⟩ (.int .i64 t177)).setCell ⟨gb180, 2, none⟩ (.string t178))) := ⟨by repeat (first | (with_reducible first | exact HB.out | apply below_alloc | apply pw_below_drewN | apply below_drew1 | refine below_set ?_ GE175.out | refine below_set ?_ GE180.out) | exact HB.out)⟩
    (try clear BK175)
    (try clear BK180)
    (try clear HB)
    generalize (((w8.setCell ⟨gb180, 0, none⟩ (.int .i64 t176)).setCell ⟨gb180, 1, none⟩ (.int .i64 t177)).setCell ⟨gb180, 2, none⟩ (.string t178)) = w11 at n0_ n1_ n2_ ⊢
    have BK175 := n0_
    have BK180 := n1_
    have HB := n2_
    clear n0_ n1_ n2_
    have n0_ := Aside0.mk (blk_drew BK175.out)
    have n1_ := Aside0.mk (blk_drew BK180.out)
    have n2_ := Aside0.mk (below_drew1 HB.out)
    clear BK175
    clear BK180
    clear HB
    have BK175 := n0_
    have BK180 := n1_
    have HB := n2_
    clear n0_ n1_ n2_
    refine start_ (n := 13) (S := fun w' => True) (ds := []) #[false, false, false, false, false, false, false, false, false, false, false, false, false] (by kernel_rfl) rfl rfl trivial (fun hHeld => ?_); refine with_tabW expr_Holds.tab2 expr_Holds.bits2 (fun HT_ HW_ => ?_)
    generalize w11.drew = w12 at BK175 BK180 HB hHeld ⊢
    refine pure_ (i := 0) (N := some 13) (v := ?_) (a' := ?_) #[true, false, false, false, false, false, false, false, false, false, false, false, false] rfl rfl (any_of HT_.out (by kernel_rfl)) (fun _ _ _ h => h) (Or.inl ⟨by rfl, ?_⟩) ?_ ?_
    rotate_left
    · intro w'
      go_simp
      with_reducible rfl
    rotate_left
    · simp only [Act.put, List.setIfInBounds_toArray, List.set_cons_zero, List.set_cons_succ, i64_w, i32_w]
      rfl
    refine pure_ (i := 1) (N := some 14) (v := ?_) (a' := ?_) #[true, true, false, false, false, false, false, false, false, false, false, false, false] rfl rfl (any_of HT_.out (by kernel_rfl)) (fun _ _ _ h => h) (Or.inl ⟨by rfl, ?_⟩) ?_ ?_
    rotate_left
    · intro w'
      go_simp
      with_reducible rfl
    rotate_left
    · simp only [Act.put, List.setIfInBounds_toArray, List.set_cons_zero, List.set_cons_succ, i64_w, i32_w]
      rfl
    refine pure_ (i := 2) (N := some 15) (v := ?_) (a' := ?_) #[true, true, true, false, false, false, false, false, false, false, false, false, false] rfl rfl (any_of HT_.out (by kernel_rfl)) (fun _ _ _ h => h) (Or.inl ⟨by rfl, ?_⟩) ?_ ?_
    rotate_left
    · intro w'
      go_simp
      with_reducible rfl
    rotate_left
    · simp only [Act.put, List.setIfInBounds_toArray, List.set_cons_zero, List.set_cons_succ, i64_w, i32_w]
      rfl
    refine pure_ (i := 3) (N := some 16) (v := ?_) (a' := ?_) #[true, true, true, true, false, false, false, false, false, false, false, false, false] rfl rfl (any_of HT_.out (by kernel_rfl)) (fun _ _ _ h => h) (Or.inl ⟨by rfl, ?_⟩) ?_ ?_
    rotate_left
    · intro w'
      go_simp
      with_reducible rfl
    rotate_left
    · simp only [Act.put, List.setIfInBounds_toArray, List.set_cons_zero, List.set_cons_succ, i64_w, i32_w]
      rfl
    refine pure_ (i := 4) (N := some 17) (v := undef) (a' := ?_) #[true, true, true, true, true, false, false, false, false, false, false, false, false] rfl rfl (any_of HT_.out (by kernel_rfl)) (fun _ _ _ h => h) (Or.inr ⟨by rfl, rfl⟩) ?_ ?_
    rotate_left
    · simp only [Act.put, List.setIfInBounds_toArray, List.set_cons_zero, List.set_cons_succ, i64_w, i32_w]
      rfl
    refine pure_ (i := 5) (N := some 18) (v := undef) (a' := ?_) #[true, true, true, true, true, true, false, false, false, false, false, false, false] rfl rfl (any_of HT_.out (by kernel_rfl)) (fun _ _ _ h => h) (Or.inr ⟨by rfl, rfl⟩) ?_ ?_
    rotate_left
    · simp only [Act.put, List.setIfInBounds_toArray, List.set_cons_zero, List.set_cons_succ, i64_w, i32_w]
      rfl
    refine pure_ (i := 6) (N := some 19) (v := undef) (a' := ?_) #[true, true, true, true, true, true, true, false, false, false, false, false, false] rfl rfl (any_of HT_.out (by kernel_rfl)) (fun _ _ _ h => h) (Or.inr ⟨by rfl, rfl⟩) ?_ ?_
    rotate_left
    · simp only [Act.put, List.setIfInBounds_toArray, List.set_cons_zero, List.set_cons_succ, i64_w, i32_w]
      rfl
    refine pure_ (i := 7) (N := some 20) (v := undef) (a' := ?_) #[true, true, true, true, true, true, true, true, false, false, false, false, false] rfl rfl (any_of HT_.out (by kernel_rfl)) (fun _ _ _ h => h) (Or.inr ⟨by rfl, rfl⟩) ?_ ?_
    rotate_left
    · simp only [Act.put, List.setIfInBounds_toArray, List.set_cons_zero, List.set_cons_succ, i64_w, i32_w]
      rfl
    refine pure_ (i := 8) (N := some 21) (v := undef) (a' := ?_) #[true, true, true, true, true, true, true, true, true, false, false, false, false] rfl rfl (any_of HT_.out (by kernel_rfl)) (fun _ _ _ h => h) (Or.inr ⟨by rfl, rfl⟩) ?_ ?_
    rotate_left
    · simp only [Act.put, List.setIfInBounds_toArray, List.set_cons_zero, List.set_cons_succ, i64_w, i32_w]
      rfl
    refine pure_ (i := 9) (N := some 22) (v := undef) (a' := ?_) #[true, true, true, true, true, true, true, true, true, true, false, false, false] rfl rfl (any_of HT_.out (by kernel_rfl)) (fun _ _ _ h => h) (Or.inr ⟨by rfl, rfl⟩) ?_ ?_
    rotate_left
    · simp only [Act.put, List.setIfInBounds_toArray, List.set_cons_zero, List.set_cons_succ, i64_w, i32_w]
      rfl
    refine pure_ (i := 10) (N := some 23) (v := undef) (a' := ?_) #[true, true, true, true, true, true, true, true, true, true, true, false, false] rfl rfl (any_of HT_.out (by kernel_rfl)) (fun _ _ _ h => h) (Or.inr ⟨by rfl, rfl⟩) ?_ ?_
    rotate_left
    · simp only [Act.put, List.setIfInBounds_toArray, List.set_cons_zero, List.set_cons_succ, i64_w, i32_w]
      rfl
    refine pure_ (i := 11) (N := some 24) (v := ?_) (a' := ?_) #[true, true, true, true, true, true, true, true, true, true, true, true, false] rfl rfl (any_of HT_.out (by kernel_rfl)) (fun _ _ _ h => h) (Or.inl ⟨by rfl, ?_⟩) ?_ ?_
    rotate_left
    · intro w'
      go_simp
      with_reducible rfl
    rotate_left
    · simp only [Act.put, List.setIfInBounds_toArray, List.set_cons_zero, List.set_cons_succ, i64_w, i32_w]
      rfl
    refine pure_ (i := 12) (N := some 4) (v := ?_) (a' := ?_) #[true, true, true, true, true, true, true, true, true, true, true, true, true] rfl rfl (any_of HT_.out (by kernel_rfl)) (fun _ _ _ h => h) (Or.inl ⟨by rfl, ?_⟩) ?_ ?_
    rotate_left
    · intro w'
      go_simp
      with_reducible rfl
    rotate_left
    · simp only [Act.put, List.setIfInBounds_toArray, List.set_cons_zero, List.set_cons_succ, i64_w, i32_w]
      rfl
    refine done_ (done_of HT_.out (by kernel_rfl)) ?_
    try go_wp2
    go_ret
    exact ⟨by first | rfl | (simp [errW_none, errW_some] <;> rfl) | (simp [*, errW_none, errW_some] <;> rfl), by repeat (first | (with_reducible first | exact HB.out | apply below_alloc | apply pw_below_drewN | apply below_drew1 | refine below_set ?_ GE175.out | refine below_set ?_ GE180.out) | exact HB.out)⟩
  · rw [if_neg c4] at H
    have c4b0 : ((l1.length : Int) == 0) = false := beq_eq_false_iff_ne.mpr c4
    have c4b1 : ((l1.length : Int) != 0) = true := bne_iff_ne.mpr c4
    have c4b2 : ¬ (l1 = []) := fun h_ => c4 (by rw [h_]; rfl)
    by_cases c13 : t179 = 0
    · rw [if_pos c13] at H
      have c13b0 : (t179 == 0) = true := beq_iff_eq.mpr c13
      have c13b1 : (t179 != 0) = false := bne_eq_false_iff_eq.mpr c13
      clear c13
      replace H := Option.bind_eq_some_iff.mp H
      obtain ⟨⟨t181, t182, t183⟩, A140, H⟩ := H
      replace H : (some (t176 == t181 && (t177 == t182 && (t178.toList == t183.toList)))) = some r := H
      have A14 := Aside0.mk A140
      clear A140
      obtain rfl := Option.some.inj H
      go_enter Try.func27, Try.ntmps27
      try go_wp2_with (first | ((with_reducible refine gate_dst (N := 2) rfl ?_); refine box_event ?hg (N := 2) ?hd (cs := #[.string a0_0, .int .i64 a0_1, .slice A0_2 l0_2.length c0_2]) (t := 27) ?hr ?_; (case hd => rfl); (case hg => rfl); (case hr => first | (go_simp; done) | (go_simp; rfl)); intro gb175 hg w15 hbox hb; have n0_ := Aside0.mk (below_step (by repeat (first | (with_reducible first | exact HB.out | apply below_alloc | apply pw_below_drewN | apply below_drew1) | exact HB.out)) hb); have n1_ := Aside0.mk (hbox); have n2_ := Aside0.mk ((by rw [hg]; exact (below_size (by repeat (first | (with_reducible first | exact HB.out | apply below_alloc | apply pw_below_drewN | apply below_drew1) | exact HB.out))) : w.heap.size ≤ gb175)); have n3_ := Aside0.mk ((by rw [hg]; exact (below_size (by repeat (first | (with_reducible first | exact HB.out | apply below_alloc | apply pw_below_drewN | apply below_drew1) | exact HB.out))) : w.heap.size ≤ gb175)); clear HB; have HB := n0_; have BK175 := n1_; have GW175 := n2_; have GE175 := n3_; clear n0_ n1_ n2_ n3_; clear hb hbox hg; have hcz16_0 : w15.cell? ⟨gb175, 0, none⟩ = some (.string a0_0) := (blk_cell BK175.out 0).trans rfl; have hcz16_1 : w15.cell? ⟨gb175, 1, none⟩ = some (.int .i64 a0_1) := (blk_cell BK175.out 1).trans rfl; have hcz16_2 : w15.cell? ⟨gb175, 2, none⟩ = some (.slice A0_2 l0_2.length c0_2) := (blk_cell BK175.out 2).trans rfl; have hfz16_0 := blk_frozen BK175.out 0; have hfz16_1 := blk_frozen BK175.out 1; have hfz16_2 := blk_frozen BK175.out 2) | ((with_reducible refine gate_callee (f := 19) rfl ?_); refine goesL_ (some 10) rfl rfl Try.func19 (by kernel_rfl) rfl #[.agg #[.string a0_0, .int .i64 a0_1, .slice A0_2 l0_2.length c0_2], .slice A1 l1.length c1] rfl (by (try simp only [List.map_toArray, List.map_cons, List.map_nil]); first | done | rfl | (simp only [List.length_drop, List.length_take]; rfl)) ?_; (with_reducible refine (expr_Eval.calls a0_0 a0_1 _ _ l0_2 _ _ l1 t176 t177 t178 t179 _ ?side1 ?side2 ?side3 ?side4 A3.out).mono ?_); (case side1 => repeat (first | exact (Kd.C_below HR0_2.out HB.out) | (with_reducible refine Kd.C_alloc ?_ _) | (with_reducible refine Kd.C_drewN ?_ _) | (with_reducible refine Kd.C_drew ?_))); (case side2 => exact HC0_2.out); (case side3 => repeat (first | exact (Kd.C_below HR1.out HB.out) | (with_reducible refine Kd.C_alloc ?_ _) | (with_reducible refine Kd.C_drewN ?_ _) | (with_reducible refine Kd.C_drew ?_))); (case side4 => exact HC1.out); rintro e w17 ⟨rfl, hb⟩; refine ⟨_, rfl, ?_⟩; have n0_ := Aside0.mk (blk_below (g := gb175) (o := .cells #[.string a0_0, .int .i64 a0_1, .slice A0_2 l0_2.length c0_2] 27 (0, 0)) (by (with_reducible repeat (first | refine blk_drewN ?_ _ | refine blk_drew ?_ | refine blk_alloc ?_ _)); exact BK175.out) hb); have n1_ := Aside0.mk (below_step (by repeat (first | (with_reducible first | exact HB.out | apply below_alloc | apply pw_below_drewN | apply below_drew1 | refine below_set ?_ GE175.out) | exact HB.out)) hb); clear BK175; clear HB; have BK175 := n0_; have HB := n1_; clear n0_ n1_; (try clear hb); (try clear hb2); (try clear hk); (try clear hi)) | ((with_reducible refine gate_dst (N := 5) rfl ?_); refine box_event ?hg (N := 5) ?hd (cs := #[.int .i64 0, .int .i64 0, .string (⟨#[]⟩ : ByteArray)]) (t := 38) ?hr ?_; (case hd => rfl); (case hg => rfl); (case hr => first | (go_simp; done) | (go_simp; rfl)); intro gb180 hg w18 hbox hb; have n0_ := Aside0.mk (blk_below (g := gb175) (o := .cells #[.string a0_0, .int .i64 a0_1, .slice A0_2 l0_2.length c0_2] 27 (0, 0)) (by (with_reducible repeat (first | refine blk_drewN ?_ _ | refine blk_drew ?_ | refine blk_alloc ?_ _)); exact BK175.out) hb); have n1_ := Aside0.mk (below_step (by repeat (first | (with_reducible first | exact HB.out | apply below_alloc | apply pw_below_drewN | apply below_drew1 | refine below_set ?_ GE175.out) | exact HB.out)) hb); have n2_ := Aside0.mk (hbox); have n3_ := Aside0.mk ((by rw [hg]; exact (below_size (by repeat (first | (with_reducible first | exact HB.out | apply below_alloc | apply pw_below_drewN | apply below_drew1 | refine below_set ?_ GE175.out) | exact HB.out))) : w.heap.size ≤ gb180)); have n4_ := Aside0.mk ((by rw [hg]; exact (below_size (by repeat (first | (with_reducible first | exact HB.out | apply below_alloc | apply pw_below_drewN | apply below_drew1 | refine below_set ?_ GE175.out) | exact HB.out))) : w.heap.size ≤ gb180)); have n5_ := Aside0.mk ((by rw [hg]; exact Nat.ne_of_lt (blk_lt (g := gb175) (o := .cells #[.string a0_0, .int .i64 a0_1, .slice A0_2 l0_2.length c0_2] 27 (0, 0)) (by (with_reducible repeat (first | refine blk_drewN ?_ _ | refine blk_drew ?_ | refine blk_alloc ?_ _)); exact BK175.out)) : gb175 ≠ gb180)); have n6_ := Aside0.mk ((by rw [hg]; exact Nat.ne_of_gt (blk_lt (g := gb175) (o := .cells #[.string a0_0, .int .i64 a0_1, .slice A0_2 l0_2.length c0_2] 27 (0, 0)) (by (with_reducible repeat (first | refine blk_drewN ?_ _ | refine blk_drew ?_ | refine blk_alloc ?_ _)); exact BK175.out)) : gb180 ≠ gb175)); clear BK175; clear HB; have BK175 := n0_; have HB := n1_; have BK180 := n2_; have GW180 := n3_; have GE180 := n4_; have NB175_180 := n5_; have NB180_175 := n6_; clear n0_ n1_ n2_ n3_ n4_ n5_ n6_; clear hb hbox hg; have hnb19 := NB180_175.out; have hnc19 := NB175_180.out; have hcz20_0 : w18.cell? ⟨gb180, 0, none⟩ = some (.int .i64 0) := (blk_cell BK180.out 0).trans rfl; have hcz20_1 : w18.cell? ⟨gb180, 1, none⟩ = some (.int .i64 0) := (blk_cell BK180.out 1).trans rfl; have hcz20_2 : w18.cell? ⟨gb180, 2, none⟩ = some (.string (⟨#[]⟩ : ByteArray)) := (blk_cell BK180.out 2).trans rfl; have hfz20_0 := blk_frozen BK180.out 0; have hfz20_1 := blk_frozen BK180.out 1; have hfz20_2 := blk_frozen BK180.out 2))
      have n0_ : Aside0 ((((w18.setCell ⟨gb180, 0, none⟩ (.int .i64 t176)).setCell ⟨gb180, 1, none⟩ (.int .i64 t177)).setCell ⟨gb180, 2, none⟩ (.string t178)).heap[gb175]? = some (.cells #[.string a0_0, .int .i64 a0_1, .slice A0_2 l0_2.length c0_2] 27 (0, 0))) := ⟨by (with_reducible repeat (first | refine blk_drewN ?_ _ | refine blk_drew ?_ | refine blk_alloc ?_ _)); refine blk_far ?_ NB175_180.out _; (with_reducible repeat (first | refine blk_drewN ?_ _ | refine blk_drew ?_ | refine blk_alloc ?_ _)); refine blk_far ?_ NB175_180.out _; (with_reducible repeat (first | refine blk_drewN ?_ _ | refine blk_drew ?_ | refine blk_alloc ?_ _)); refine blk_far ?_ NB175_180.out _; (with_reducible repeat (first | refine blk_drewN ?_ _ | refine blk_drew ?_ | refine blk_alloc ?_ _)); exact BK175.out⟩
      have n1_ : Aside0 ((((w18.setCell ⟨gb180, 0, none⟩ (.int .i64 t176)).setCell ⟨gb180, 1, none⟩ (.int .i64 t177)).setCell ⟨gb180, 2, none⟩ (.string t178)).heap[gb180]? = some (.cells #[.int .i64 t176, .int .i64 t177, .string t178] 38 (0, 0))) := ⟨by (with_reducible repeat (first | refine blk_drewN ?_ _ | refine blk_drew ?_ | refine blk_alloc ?_ _)); refine blk_put (cs := #[.int .i64 t176, .int .i64 t177, .string (⟨#[]⟩ : ByteArray)]) ?_ 2 _ rfl; (with_reducible repeat (first | refine blk_drewN ?_ _ | refine blk_drew ?_ | refine blk_alloc ?_ _)); refine blk_put (cs := #[.int .i64 t176, .int .i64 0, .string (⟨#[]⟩ : ByteArray)]) ?_ 1 _ rfl; (with_reducible repeat (first | refine blk_drewN ?_ _ | refine blk_drew ?_ | refine blk_alloc ?_ _)); refine blk_put (cs := #[.int .i64 0, .int .i64 0, .string (⟨#[]⟩ : ByteArray)]) ?_ 0 _ rfl; (with_reducible repeat (first | refine blk_drewN ?_ _ | refine blk_drew ?_ | refine blk_alloc ?_ _)); exact BK180.out⟩
      have n2_ : Aside0 (Below w.heap.size w (((w18.setCell ⟨gb180, 0, none⟩ (.int .i64 t176)).setCell ⟨gb180, 1, none⟩ (.int .i64 t177)).setCell ⟨gb180, 2, none⟩ (.string t178))) := ⟨by repeat (first | (with_reducible first | exact HB.out | apply below_alloc | apply pw_below_drewN | apply below_drew1 | refine below_set ?_ GE175.out | refine below_set ?_ GE180.out) | exact HB.out)⟩
      (try clear BK175)
      (try clear BK180)
      (try clear HB)
      generalize (((w18.setCell ⟨gb180, 0, none⟩ (.int .i64 t176)).setCell ⟨gb180, 1, none⟩ (.int .i64 t177)).setCell ⟨gb180, 2, none⟩ (.string t178)) = w21 at n0_ n1_ n2_ ⊢
      have BK175 := n0_
      have BK180 := n1_
      have HB := n2_
      clear n0_ n1_ n2_
      have n0_ := Aside0.mk (blk_drew BK175.out)
      have n1_ := Aside0.mk (blk_drew BK180.out)
      have n2_ := Aside0.mk (below_drew1 HB.out)
      clear BK175
      clear BK180
      clear HB
      have BK175 := n0_
      have BK180 := n1_
      have HB := n2_
      clear n0_ n1_ n2_
      refine start_ (n := 13) (S := fun w' => w'.cell? ⟨gb180, 0, none⟩ = some (.int .i64 t176) ∧ w'.cell? ⟨gb180, 1, none⟩ = some (.int .i64 t177) ∧ w'.cell? ⟨gb180, 2, none⟩ = some (.string t178)) (ds := []) #[false, false, false, false, false, false, false, false, false, false, false, false, false] (by kernel_rfl) rfl rfl ⟨(blk_cell BK180.out 0).trans rfl, (blk_cell BK180.out 1).trans rfl, (blk_cell BK180.out 2).trans rfl⟩ (fun hHeld => ?_); refine with_tabW expr_Holds.tab2 expr_Holds.bits2 (fun HT_ HW_ => ?_)
      generalize w21.drew = w22 at BK175 BK180 HB hHeld ⊢
      refine pure_ (i := 0) (N := some 13) (v := ?_) (a' := ?_) #[true, false, false, false, false, false, false, false, false, false, false, false, false] rfl rfl (any_of HT_.out (by kernel_rfl)) (fun _ _ _ h => h) (Or.inl ⟨by rfl, ?_⟩) ?_ ?_
      rotate_left
      · intro w'
        go_simp
        with_reducible rfl
      rotate_left
      · simp only [Act.put, List.setIfInBounds_toArray, List.set_cons_zero, List.set_cons_succ, i64_w, i32_w]
        rfl
      refine pure_ (i := 1) (N := some 14) (v := ?_) (a' := ?_) #[true, true, false, false, false, false, false, false, false, false, false, false, false] rfl rfl (any_of HT_.out (by kernel_rfl)) (fun _ _ _ h => h) (Or.inl ⟨by rfl, ?_⟩) ?_ ?_
      rotate_left
      · intro w'
        go_simp
        with_reducible rfl
      rotate_left
      · simp only [Act.put, List.setIfInBounds_toArray, List.set_cons_zero, List.set_cons_succ, i64_w, i32_w]
        rfl
      refine pure_ (i := 2) (N := some 15) (v := ?_) (a' := ?_) #[true, true, true, false, false, false, false, false, false, false, false, false, false] rfl rfl (any_of HT_.out (by kernel_rfl)) (fun _ _ _ h => h) (Or.inl ⟨by rfl, ?_⟩) ?_ ?_
      rotate_left
      · intro w'
        go_simp
        with_reducible rfl
      rotate_left
      · simp only [Act.put, List.setIfInBounds_toArray, List.set_cons_zero, List.set_cons_succ, i64_w, i32_w]
        rfl
      refine pure_ (i := 3) (N := some 16) (v := ?_) (a' := ?_) #[true, true, true, true, false, false, false, false, false, false, false, false, false] rfl rfl (any_of HT_.out (by kernel_rfl)) (fun _ _ _ h => h) (Or.inl ⟨by rfl, ?_⟩) ?_ ?_
      rotate_left
      · intro w'
        go_simp
        with_reducible rfl
      rotate_left
      · simp only [Act.put, List.setIfInBounds_toArray, List.set_cons_zero, List.set_cons_succ, i64_w, i32_w]
        rfl
      refine pure_ (i := 4) (N := some 17) (v := ?_) (a' := ?_) #[true, true, true, true, true, false, false, false, false, false, false, false, false] rfl rfl (any_of HT_.out (by kernel_rfl)) (fun _ _ _ h => h) (Or.inl ⟨by rfl, ?_⟩) ?_ ?_
      rotate_left
      · intro w'
        go_simp
        with_reducible rfl
      rotate_left
      · simp only [Act.put, List.setIfInBounds_toArray, List.set_cons_zero, List.set_cons_succ, i64_w, i32_w]
        rfl
      refine pure_ (i := 5) (N := some 18) (v := ?_) (a' := ?_) #[true, true, true, true, true, true, false, false, false, false, false, false, false] rfl rfl (any_of HT_.out (by kernel_rfl)) (fun _ _ _ h => h) (Or.inl ⟨by rfl, ?_⟩) ?_ ?_
      rotate_left
      · intro w'
        go_simp
        with_reducible rfl
      rotate_left
      · simp only [Act.put, List.setIfInBounds_toArray, List.set_cons_zero, List.set_cons_succ, i64_w, i32_w]
        rfl
      refine pure_ (i := 6) (N := some 19) (v := ?_) (a' := ?_) #[true, true, true, true, true, true, true, false, false, false, false, false, false] rfl rfl (any_of HT_.out (by kernel_rfl)) (fun _ _ _ h => h) (Or.inl ⟨by rfl, ?_⟩) ?_ ?_
      rotate_left
      · intro w'
        go_simp
        with_reducible rfl
      rotate_left
      · simp only [Act.put, List.setIfInBounds_toArray, List.set_cons_zero, List.set_cons_succ, i64_w, i32_w]
        rfl
      refine take_ (i := 7) (N := some 20) (v := ?_) (a' := ?_) #[true, true, true, true, true, true, true, true, false, false, false, false, false] rfl rfl (take_ofW HT_.out HW_.out (by kernel_rfl)) (fun _ _ _ h => h) (Or.inl ⟨by rfl, ?_⟩) hHeld ?_ ?_
      rotate_left
      · rintro w' ⟨s0, s1, s2⟩
        go_simp
        with_reducible rfl
      rotate_left
      · simp only [Act.put, List.setIfInBounds_toArray, List.set_cons_zero, List.set_cons_succ, i64_w, i32_w]
        rfl
      refine one_ (i := 8) (N := some 21) #[true, true, true, true, true, true, true, true, true, false, false, false, false] rfl rfl (one_of HT_.out (by kernel_rfl)) (by decide) (fun K hK => ?_)
      refine goes_ Try.func56 (by kernel_rfl) rfl #[.bool true] (by rfl) rfl rfl (by (try simp only [List.map_toArray, List.map_cons, List.map_nil]); first | done | rfl | (simp only [List.length_drop, List.length_take]; rfl)) ?_
      with_reducible refine (expr_truth_value.calls true t181 t182 t183 _ A14.out).mono ?_
      rintro e w23 ⟨rfl, hb⟩
      refine ⟨_, rfl, ?_⟩
      have n0_ := Aside0.mk (blk_below (g := gb175) (o := .cells #[.string a0_0, .int .i64 a0_1, .slice A0_2 l0_2.length c0_2] 27 (0, 0)) (by (with_reducible repeat (first | refine blk_drewN ?_ _ | refine blk_drew ?_ | refine blk_alloc ?_ _)); exact BK175.out) hb)
      have n1_ := Aside0.mk (blk_below (g := gb180) (o := .cells #[.int .i64 t176, .int .i64 t177, .string t178] 38 (0, 0)) (by (with_reducible repeat (first | refine blk_drewN ?_ _ | refine blk_drew ?_ | refine blk_alloc ?_ _)); exact BK180.out) hb)
      have n2_ := Aside0.mk (below_step (by repeat (first | (with_reducible first | exact HB.out | apply below_alloc | apply pw_below_drewN | apply below_drew1 | refine below_set ?_ GE175.out | refine below_set ?_ GE180.out) | exact HB.out)) hb)
      clear BK175
      clear BK180
      clear HB
      have BK175 := n0_
      have BK180 := n1_
      have HB := n2_
      clear n0_ n1_ n2_
      (try clear hb)
      (try clear hb2)
      (try clear hk)
      (try clear hi)
      refine hK.out _ _ ⟨(blk_cell BK180.out 0).trans rfl, (blk_cell BK180.out 1).trans rfl, (blk_cell BK180.out 2).trans rfl⟩ (fun hHeld => ?_)
      clear hK K
      refine norm_ (a' := ?_) ?_ ?_
      rotate_left
      · show Act.put _ (some 21) _ = _
        simp only [Act.put, List.setIfInBounds_toArray, List.set_cons_zero, List.set_cons_succ, i64_w, i32_w]
        rfl
      refine pure_ (i := 9) (N := some 22) (v := ?_) (a' := ?_) #[true, true, true, true, true, true, true, true, true, true, false, false, false] rfl rfl (any_of HT_.out (by kernel_rfl)) (fun _ _ _ h => h) (Or.inl ⟨by rfl, ?_⟩) ?_ ?_
      rotate_left
      · intro w'
        go_simp
        with_reducible rfl
      rotate_left
      · simp only [Act.put, List.setIfInBounds_toArray, List.set_cons_zero, List.set_cons_succ, i64_w, i32_w]
        rfl
      refine pure_ (i := 10) (N := some 23) (v := ?_) (a' := ?_) #[true, true, true, true, true, true, true, true, true, true, true, false, false] rfl rfl (any_of HT_.out (by kernel_rfl)) (fun _ _ _ h => h) (Or.inl ⟨by rfl, ?_⟩) ?_ ?_
      rotate_left
      · intro w'
        go_simp
        with_reducible rfl
      rotate_left
      · simp only [Act.put, List.setIfInBounds_toArray, List.set_cons_zero, List.set_cons_succ, i64_w, i32_w]
        rfl
      refine pure_ (i := 11) (N := some 24) (v := ?_) (a' := ?_) #[true, true, true, true, true, true, true, true, true, true, true, true, false] rfl rfl (any_of HT_.out (by kernel_rfl)) (fun _ _ _ h => h) (Or.inl ⟨by rfl, ?_⟩) ?_ ?_
      rotate_left
      · intro w'
        go_simp
        with_reducible rfl
      rotate_left
      · simp only [Act.put, List.setIfInBounds_toArray, List.set_cons_zero, List.set_cons_succ, i64_w, i32_w]
        rfl
      refine pure_ (i := 12) (N := some 4) (v := ?_) (a' := ?_) #[true, true, true, true, true, true, true, true, true, true, true, true, true] rfl rfl (any_of HT_.out (by kernel_rfl)) (fun _ _ _ h => h) (Or.inl ⟨by rfl, ?_⟩) ?_ ?_
      rotate_left
      · intro w'
        go_simp
        with_reducible rfl
      rotate_left
      · simp only [Act.put, List.setIfInBounds_toArray, List.set_cons_zero, List.set_cons_succ, i64_w, i32_w]
        rfl
      refine done_ (done_of HT_.out (by kernel_rfl)) ?_
      try go_wp2
      go_ret
      exact ⟨by first | rfl | (simp [errW_none, errW_some] <;> rfl) | (simp [*, errW_none, errW_some] <;> rfl), by repeat (first | (with_reducible first | exact HB.out | apply below_alloc | apply pw_below_drewN | apply below_drew1 | refine below_set ?_ GE175.out | refine below_set ?_ GE180.out) | exact HB.out)⟩
    · rw [if_neg c13] at H
      have c13b0 : (t179 == 0) = false := beq_eq_false_iff_ne.mpr c13
      have c13b1 : (t179 != 0) = true := bne_iff_ne.mpr c13
      obtain rfl := Option.some.inj H
      go_enter Try.func27, Try.ntmps27
      try go_wp2_with (first | ((with_reducible refine gate_dst (N := 2) rfl ?_); refine box_event ?hg (N := 2) ?hd (cs := #[.string a0_0, .int .i64 a0_1, .slice A0_2 l0_2.length c0_2]) (t := 27) ?hr ?_; (case hd => rfl); (case hg => rfl); (case hr => first | (go_simp; done) | (go_simp; rfl)); intro gb175 hg w24 hbox hb; have n0_ := Aside0.mk (below_step (by repeat (first | (with_reducible first | exact HB.out | apply below_alloc | apply pw_below_drewN | apply below_drew1) | exact HB.out)) hb); have n1_ := Aside0.mk (hbox); have n2_ := Aside0.mk ((by rw [hg]; exact (below_size (by repeat (first | (with_reducible first | exact HB.out | apply below_alloc | apply pw_below_drewN | apply below_drew1) | exact HB.out))) : w.heap.size ≤ gb175)); have n3_ := Aside0.mk ((by rw [hg]; exact (below_size (by repeat (first | (with_reducible first | exact HB.out | apply below_alloc | apply pw_below_drewN | apply below_drew1) | exact HB.out))) : w.heap.size ≤ gb175)); clear HB; have HB := n0_; have BK175 := n1_; have GW175 := n2_; have GE175 := n3_; clear n0_ n1_ n2_ n3_; clear hb hbox hg; have hcz25_0 : w24.cell? ⟨gb175, 0, none⟩ = some (.string a0_0) := (blk_cell BK175.out 0).trans rfl; have hcz25_1 : w24.cell? ⟨gb175, 1, none⟩ = some (.int .i64 a0_1) := (blk_cell BK175.out 1).trans rfl; have hcz25_2 : w24.cell? ⟨gb175, 2, none⟩ = some (.slice A0_2 l0_2.length c0_2) := (blk_cell BK175.out 2).trans rfl; have hfz25_0 := blk_frozen BK175.out 0; have hfz25_1 := blk_frozen BK175.out 1; have hfz25_2 := blk_frozen BK175.out 2) | ((with_reducible refine gate_callee (f := 19) rfl ?_); refine goesL_ (some 10) rfl rfl Try.func19 (by kernel_rfl) rfl #[.agg #[.string a0_0, .int .i64 a0_1, .slice A0_2 l0_2.length c0_2], .slice A1 l1.length c1] rfl (by (try simp only [List.map_toArray, List.map_cons, List.map_nil]); first | done | rfl | (simp only [List.length_drop, List.length_take]; rfl)) ?_; (with_reducible refine (expr_Eval.calls a0_0 a0_1 _ _ l0_2 _ _ l1 t176 t177 t178 t179 _ ?side1 ?side2 ?side3 ?side4 A3.out).mono ?_); (case side1 => repeat (first | exact (Kd.C_below HR0_2.out HB.out) | (with_reducible refine Kd.C_alloc ?_ _) | (with_reducible refine Kd.C_drewN ?_ _) | (with_reducible refine Kd.C_drew ?_))); (case side2 => exact HC0_2.out); (case side3 => repeat (first | exact (Kd.C_below HR1.out HB.out) | (with_reducible refine Kd.C_alloc ?_ _) | (with_reducible refine Kd.C_drewN ?_ _) | (with_reducible refine Kd.C_drew ?_))); (case side4 => exact HC1.out); rintro e w26 ⟨rfl, hb⟩; refine ⟨_, rfl, ?_⟩; have n0_ := Aside0.mk (blk_below (g := gb175) (o := .cells #[.string a0_0, .int .i64 a0_1, .slice A0_2 l0_2.length c0_2] 27 (0, 0)) (by (with_reducible repeat (first | refine blk_drewN ?_ _ | refine blk_drew ?_ | refine blk_alloc ?_ _)); exact BK175.out) hb); have n1_ := Aside0.mk (below_step (by repeat (first | (with_reducible first | exact HB.out | apply below_alloc | apply pw_below_drewN | apply below_drew1 | refine below_set ?_ GE175.out) | exact HB.out)) hb); clear BK175; clear HB; have BK175 := n0_; have HB := n1_; clear n0_ n1_; (try clear hb); (try clear hb2); (try clear hk); (try clear hi)) | ((with_reducible refine gate_dst (N := 5) rfl ?_); refine box_event ?hg (N := 5) ?hd (cs := #[.int .i64 0, .int .i64 0, .string (⟨#[]⟩ : ByteArray)]) (t := 38) ?hr ?_; (case hd => rfl); (case hg => rfl); (case hr => first | (go_simp; done) | (go_simp; rfl)); intro gb180 hg w27 hbox hb; have n0_ := Aside0.mk (blk_below (g := gb175) (o := .cells #[.string a0_0, .int .i64 a0_1, .slice A0_2 l0_2.length c0_2] 27 (0, 0)) (by (with_reducible repeat (first | refine blk_drewN ?_ _ | refine blk_drew ?_ | refine blk_alloc ?_ _)); exact BK175.out) hb); have n1_ := Aside0.mk (below_step (by repeat (first | (with_reducible first | exact HB.out | apply below_alloc | apply pw_below_drewN | apply below_drew1 | refine below_set ?_ GE175.out) | exact HB.out)) hb); have n2_ := Aside0.mk (hbox); have n3_ := Aside0.mk ((by rw [hg]; exact (below_size (by repeat (first | (with_reducible first | exact HB.out | apply below_alloc | apply pw_below_drewN | apply below_drew1 | refine below_set ?_ GE175.out) | exact HB.out))) : w.heap.size ≤ gb180)); have n4_ := Aside0.mk ((by rw [hg]; exact (below_size (by repeat (first | (with_reducible first | exact HB.out | apply below_alloc | apply pw_below_drewN | apply below_drew1 | refine below_set ?_ GE175.out) | exact HB.out))) : w.heap.size ≤ gb180)); have n5_ := Aside0.mk ((by rw [hg]; exact Nat.ne_of_lt (blk_lt (g := gb175) (o := .cells #[.string a0_0, .int .i64 a0_1, .slice A0_2 l0_2.length c0_2] 27 (0, 0)) (by (with_reducible repeat (first | refine blk_drewN ?_ _ | refine blk_drew ?_ | refine blk_alloc ?_ _)); exact BK175.out)) : gb175 ≠ gb180)); have n6_ := Aside0.mk ((by rw [hg]; exact Nat.ne_of_gt (blk_lt (g := gb175) (o := .cells #[.string a0_0, .int .i64 a0_1, .slice A0_2 l0_2.length c0_2] 27 (0, 0)) (by (with_reducible repeat (first | refine blk_drewN ?_ _ | refine blk_drew ?_ | refine blk_alloc ?_ _)); exact BK175.out)) : gb180 ≠ gb175)); clear BK175; clear HB; have BK175 := n0_; have HB := n1_; have BK180 := n2_; have GW180 := n3_; have GE180 := n4_; have NB175_180 := n5_; have NB180_175 := n6_; clear n0_ n1_ n2_ n3_ n4_ n5_ n6_; clear hb hbox hg; have hnb28 := NB180_175.out; have hnc28 := NB175_180.out; have hcz29_0 : w27.cell? ⟨gb180, 0, none⟩ = some (.int .i64 0) := (blk_cell BK180.out 0).trans rfl; have hcz29_1 : w27.cell? ⟨gb180, 1, none⟩ = some (.int .i64 0) := (blk_cell BK180.out 1).trans rfl; have hcz29_2 : w27.cell? ⟨gb180, 2, none⟩ = some (.string (⟨#[]⟩ : ByteArray)) := (blk_cell BK180.out 2).trans rfl; have hfz29_0 := blk_frozen BK180.out 0; have hfz29_1 := blk_frozen BK180.out 1; have hfz29_2 := blk_frozen BK180.out 2))
      have n0_ : Aside0 ((((w27.setCell ⟨gb180, 0, none⟩ (.int .i64 t176)).setCell ⟨gb180, 1, none⟩ (.int .i64 t177)).setCell ⟨gb180, 2, none⟩ (.string t178)).heap[gb175]? = some (.cells #[.string a0_0, .int .i64 a0_1, .slice A0_2 l0_2.length c0_2] 27 (0, 0))) := ⟨by (with_reducible repeat (first | refine blk_drewN ?_ _ | refine blk_drew ?_ | refine blk_alloc ?_ _)); refine blk_far ?_ NB175_180.out _; (with_reducible repeat (first | refine blk_drewN ?_ _ | refine blk_drew ?_ | refine blk_alloc ?_ _)); refine blk_far ?_ NB175_180.out _; (with_reducible repeat (first | refine blk_drewN ?_ _ | refine blk_drew ?_ | refine blk_alloc ?_ _)); refine blk_far ?_ NB175_180.out _; (with_reducible repeat (first | refine blk_drewN ?_ _ | refine blk_drew ?_ | refine blk_alloc ?_ _)); exact BK175.out⟩
      have n1_ : Aside0 ((((w27.setCell ⟨gb180, 0, none⟩ (.int .i64 t176)).setCell ⟨gb180, 1, none⟩ (.int .i64 t177)).setCell ⟨gb180, 2, none⟩ (.string t178)).heap[gb180]? = some (.cells #[.int .i64 t176, .int .i64 t177, .string t178] 38 (0, 0))) := ⟨by (with_reducible repeat (first | refine blk_drewN ?_ _ | refine blk_drew ?_ | refine blk_alloc ?_ _)); refine blk_put (cs := #[.int .i64 t176, .int .i64 t177, .string (⟨#[]⟩ : ByteArray)]) ?_ 2 _ rfl; (with_reducible repeat (first | refine blk_drewN ?_ _ | refine blk_drew ?_ | refine blk_alloc ?_ _)); refine blk_put (cs := #[.int .i64 t176, .int .i64 0, .string (⟨#[]⟩ : ByteArray)]) ?_ 1 _ rfl; (with_reducible repeat (first | refine blk_drewN ?_ _ | refine blk_drew ?_ | refine blk_alloc ?_ _)); refine blk_put (cs := #[.int .i64 0, .int .i64 0, .string (⟨#[]⟩ : ByteArray)]) ?_ 0 _ rfl; (with_reducible repeat (first | refine blk_drewN ?_ _ | refine blk_drew ?_ | refine blk_alloc ?_ _)); exact BK180.out⟩
      have n2_ : Aside0 (Below w.heap.size w (((w27.setCell ⟨gb180, 0, none⟩ (.int .i64 t176)).setCell ⟨gb180, 1, none⟩ (.int .i64 t177)).setCell ⟨gb180, 2, none⟩ (.string t178))) := ⟨by repeat (first | (with_reducible first | exact HB.out | apply below_alloc | apply pw_below_drewN | apply below_drew1 | refine below_set ?_ GE175.out | refine below_set ?_ GE180.out) | exact HB.out)⟩
      (try clear BK175)
      (try clear BK180)
      (try clear HB)
      generalize (((w27.setCell ⟨gb180, 0, none⟩ (.int .i64 t176)).setCell ⟨gb180, 1, none⟩ (.int .i64 t177)).setCell ⟨gb180, 2, none⟩ (.string t178)) = w30 at n0_ n1_ n2_ ⊢
      have BK175 := n0_
      have BK180 := n1_
      have HB := n2_
      clear n0_ n1_ n2_
      have n0_ := Aside0.mk (blk_drew BK175.out)
      have n1_ := Aside0.mk (blk_drew BK180.out)
      have n2_ := Aside0.mk (below_drew1 HB.out)
      clear BK175
      clear BK180
      clear HB
      have BK175 := n0_
      have BK180 := n1_
      have HB := n2_
      clear n0_ n1_ n2_
      refine start_ (n := 13) (S := fun w' => True) (ds := []) #[false, false, false, false, false, false, false, false, false, false, false, false, false] (by kernel_rfl) rfl rfl trivial (fun hHeld => ?_); refine with_tabW expr_Holds.tab2 expr_Holds.bits2 (fun HT_ HW_ => ?_)
      generalize w30.drew = w31 at BK175 BK180 HB hHeld ⊢
      refine pure_ (i := 0) (N := some 13) (v := ?_) (a' := ?_) #[true, false, false, false, false, false, false, false, false, false, false, false, false] rfl rfl (any_of HT_.out (by kernel_rfl)) (fun _ _ _ h => h) (Or.inl ⟨by rfl, ?_⟩) ?_ ?_
      rotate_left
      · intro w'
        go_simp
        with_reducible rfl
      rotate_left
      · simp only [Act.put, List.setIfInBounds_toArray, List.set_cons_zero, List.set_cons_succ, i64_w, i32_w]
        rfl
      refine pure_ (i := 1) (N := some 14) (v := ?_) (a' := ?_) #[true, true, false, false, false, false, false, false, false, false, false, false, false] rfl rfl (any_of HT_.out (by kernel_rfl)) (fun _ _ _ h => h) (Or.inl ⟨by rfl, ?_⟩) ?_ ?_
      rotate_left
      · intro w'
        go_simp
        with_reducible rfl
      rotate_left
      · simp only [Act.put, List.setIfInBounds_toArray, List.set_cons_zero, List.set_cons_succ, i64_w, i32_w]
        rfl
      refine pure_ (i := 2) (N := some 15) (v := ?_) (a' := ?_) #[true, true, true, false, false, false, false, false, false, false, false, false, false] rfl rfl (any_of HT_.out (by kernel_rfl)) (fun _ _ _ h => h) (Or.inl ⟨by rfl, ?_⟩) ?_ ?_
      rotate_left
      · intro w'
        go_simp
        with_reducible rfl
      rotate_left
      · simp only [Act.put, List.setIfInBounds_toArray, List.set_cons_zero, List.set_cons_succ, i64_w, i32_w]
        rfl
      refine pure_ (i := 3) (N := some 16) (v := ?_) (a' := ?_) #[true, true, true, true, false, false, false, false, false, false, false, false, false] rfl rfl (any_of HT_.out (by kernel_rfl)) (fun _ _ _ h => h) (Or.inl ⟨by rfl, ?_⟩) ?_ ?_
      rotate_left
      · intro w'
        go_simp
        with_reducible rfl
      rotate_left
      · simp only [Act.put, List.setIfInBounds_toArray, List.set_cons_zero, List.set_cons_succ, i64_w, i32_w]
        rfl
      refine pure_ (i := 4) (N := some 17) (v := ?_) (a' := ?_) #[true, true, true, true, true, false, false, false, false, false, false, false, false] rfl rfl (any_of HT_.out (by kernel_rfl)) (fun _ _ _ h => h) (Or.inl ⟨by rfl, ?_⟩) ?_ ?_
      rotate_left
      · intro w'
        go_simp
        with_reducible rfl
      rotate_left
      · simp only [Act.put, List.setIfInBounds_toArray, List.set_cons_zero, List.set_cons_succ, i64_w, i32_w]
        rfl
      refine pure_ (i := 5) (N := some 18) (v := ?_) (a' := ?_) #[true, true, true, true, true, true, false, false, false, false, false, false, false] rfl rfl (any_of HT_.out (by kernel_rfl)) (fun _ _ _ h => h) (Or.inl ⟨by rfl, ?_⟩) ?_ ?_
      rotate_left
      · intro w'
        go_simp
        with_reducible rfl
      rotate_left
      · simp only [Act.put, List.setIfInBounds_toArray, List.set_cons_zero, List.set_cons_succ, i64_w, i32_w]
        rfl
      refine pure_ (i := 6) (N := some 19) (v := ?_) (a' := ?_) #[true, true, true, true, true, true, true, false, false, false, false, false, false] rfl rfl (any_of HT_.out (by kernel_rfl)) (fun _ _ _ h => h) (Or.inl ⟨by rfl, ?_⟩) ?_ ?_
      rotate_left
      · intro w'
        go_simp
        with_reducible rfl
      rotate_left
      · simp only [Act.put, List.setIfInBounds_toArray, List.set_cons_zero, List.set_cons_succ, i64_w, i32_w]
        rfl
      refine pure_ (i := 7) (N := some 20) (v := undef) (a' := ?_) #[true, true, true, true, true, true, true, true, false, false, false, false, false] rfl rfl (any_of HT_.out (by kernel_rfl)) (fun _ _ _ h => h) (Or.inr ⟨by rfl, rfl⟩) ?_ ?_
      rotate_left
      · simp only [Act.put, List.setIfInBounds_toArray, List.set_cons_zero, List.set_cons_succ, i64_w, i32_w]
        rfl
      refine pure_ (i := 8) (N := some 21) (v := undef) (a' := ?_) #[true, true, true, true, true, true, true, true, true, false, false, false, false] rfl rfl (any_of HT_.out (by kernel_rfl)) (fun _ _ _ h => h) (Or.inr ⟨by rfl, rfl⟩) ?_ ?_
      rotate_left
      · simp only [Act.put, List.setIfInBounds_toArray, List.set_cons_zero, List.set_cons_succ, i64_w, i32_w]
        rfl
      refine pure_ (i := 9) (N := some 22) (v := undef) (a' := ?_) #[true, true, true, true, true, true, true, true, true, true, false, false, false] rfl rfl (any_of HT_.out (by kernel_rfl)) (fun _ _ _ h => h) (Or.inr ⟨by rfl, rfl⟩) ?_ ?_
      rotate_left
      · simp only [Act.put, List.setIfInBounds_toArray, List.set_cons_zero, List.set_cons_succ, i64_w, i32_w]
        rfl
      refine pure_ (i := 10) (N := some 23) (v := ?_) (a' := ?_) #[true, true, true, true, true, true, true, true, true, true, true, false, false] rfl rfl (any_of HT_.out (by kernel_rfl)) (fun _ _ _ h => h) (Or.inl ⟨by rfl, ?_⟩) ?_ ?_
      rotate_left
      · intro w'
        go_simp
        with_reducible rfl
      rotate_left
      · simp only [Act.put, List.setIfInBounds_toArray, List.set_cons_zero, List.set_cons_succ, i64_w, i32_w]
        rfl
      refine pure_ (i := 11) (N := some 24) (v := ?_) (a' := ?_) #[true, true, true, true, true, true, true, true, true, true, true, true, false] rfl rfl (any_of HT_.out (by kernel_rfl)) (fun _ _ _ h => h) (Or.inl ⟨by rfl, ?_⟩) ?_ ?_
      rotate_left
      · intro w'
        go_simp
        with_reducible rfl
      rotate_left
      · simp only [Act.put, List.setIfInBounds_toArray, List.set_cons_zero, List.set_cons_succ, i64_w, i32_w]
        rfl
      refine pure_ (i := 12) (N := some 4) (v := ?_) (a' := ?_) #[true, true, true, true, true, true, true, true, true, true, true, true, true] rfl rfl (any_of HT_.out (by kernel_rfl)) (fun _ _ _ h => h) (Or.inl ⟨by rfl, ?_⟩) ?_ ?_
      rotate_left
      · intro w'
        go_simp
        with_reducible rfl
      rotate_left
      · simp only [Act.put, List.setIfInBounds_toArray, List.set_cons_zero, List.set_cons_succ, i64_w, i32_w]
        rfl
      refine done_ (done_of HT_.out (by kernel_rfl)) ?_
      try go_wp2
      go_ret
      exact ⟨by first | rfl | (simp [errW_none, errW_some] <;> rfl) | (simp [*, errW_none, errW_some] <;> rfl), by repeat (first | (with_reducible first | exact HB.out | apply below_alloc | apply pw_below_drewN | apply below_drew1 | refine below_set ?_ GE175.out | refine below_set ?_ GE180.out) | exact HB.out)⟩


end Go.Proofs.Yteommchgnocgnaa.PE
end

section
namespace Go.Proofs.Yteommchgnocgnaa.PE
open Go.RowKit Go.Proofs.YteommchgnocgnaaW.PrintWords Go.Proofs.YteommchgnocgnaaW.PrintLast Go.Proofs.YteommchgnocgnaaW.PrintMore
attribute [local go_sem] max2_int min2_int max_two min_two max_three min_three max_four min_four   -- for this text's walks alone
set_option linter.unusedVariables false
set_option linter.unusedSimpArgs false

attribute [local go_sem high] eqA38 eqA50

/-! ### api_Op_57: function 57 -/
def api_Op_57.l0 : Nat → List (S50) → List (S50) → Int → Int → Option (Bool)
  | 0, _, _, _, _ => none
  | k + 1, x0, x1, x12, x13 => if x13 < x12 then (if 0 ≤ x13 then (if x13 < (x0.length : Int) then (if x13 < (x1.length : Int) then (if (!(((rd_T50 x0 x13).f0) == ((rd_T50 x1 x13).f0)) || (!(((rd_T50 x0 x13).f1) == ((rd_T50 x1 x13).f1)) || ((!(((rd_T50 x0 x13).f2.f0) == ((rd_T50 x1 x13).f2.f0)) || (!(((rd_T50 x0 x13).f2.f1) == ((rd_T50 x1 x13).f2.f1)) || (!((((rd_T50 x0 x13).f2.f2).toList) == (((rd_T50 x1 x13).f2.f2).toList)))))))) = true then (some false) else (api_Op_57.l0 k x0 x1 x12 (wrap64 (x13 + 1)))) else (none)) else (none)) else (none)) else (some true)
def api_Op_57.f (k : Nat) (l0 : List (S50)) (l1 : List (S50)) : Option (Bool) := if (l0.length : Int) = (l1.length : Int) then (api_Op_57.l0 k l0 l1 (l0.length : Int) 0) else (some false)
theorem api_Op_57.mono_l : ∀ k, (∀ y0 y1 y2 y3, LeO (api_Op_57.l0 k y0 y1 y2 y3) (api_Op_57.l0 (k + 1) y0 y1 y2 y3))
  | 0 => fun _ _ _ _ r h => by simp [api_Op_57.l0] at h
  | k + 1 => by
    have ih0 := api_Op_57.mono_l k
    · intro y0 y1 y2 y3
      unfold api_Op_57.l0
      repeat' first
      | (with_reducible exact ih0 _ _ _ _)
      | (with_reducible exact LeO.refl _)
      | (with_reducible exact LeO.none _)
      | (with_reducible refine LeO.ite ?_ ?_)
      | (with_reducible refine LeO.bind ?_ (fun _ => ?_))
      | exact ih0 _ _ _ _
      | exact LeO.none _
      | refine LeO.ite ?_ ?_
      | refine LeO.bind ?_ (fun _ => ?_)
theorem api_Op_57.mono : ∀ a0 a1 k, LeO (api_Op_57.f k a0 a1) (api_Op_57.f (k + 1) a0 a1) := by
  intro a0 a1 k
  have ih0 := api_Op_57.mono_l k
  unfold api_Op_57.f
  repeat' first
      | (with_reducible exact ih0 _ _ _ _)
      | (with_reducible exact LeO.refl _)
      | (with_reducible exact LeO.none _)
      | (with_reducible refine LeO.ite ?_ ?_)
      | (with_reducible refine LeO.bind ?_ (fun _ => ?_))
      | exact ih0 _ _ _ _
      | exact LeO.none _
      | refine LeO.ite ?_ ?_
      | refine LeO.bind ?_ (fun _ => ?_)
set_option maxHeartbeats 8000000 in
set_option maxRecDepth 100000 in
theorem api_Op_57.calls (k : Nat) (A0 : Option Addr) (c0 : Nat) (l0 : List (S50)) (A1 : Option Addr) (c1 : Nat) (l1 : List (S50)) (r : Bool) (w : World) (hr0 : Kd.C k50 w A0 l0.length l0) (hc0 : l0.length ≤ c0) (hr1 : Kd.C k50 w A1 l1.length l1) (hc1 : l1.length ≤ c1) (h : api_Op_57.f k l0 l1 = some r) :
    Calls Try.prog 57 #[.slice A0 l0.length c0, .slice A1 l1.length c1] w fun e w' => e = .returned (.bool r) ∧ Drawn0 w w' := by
  have hu50 := Try.underlying50
  have HR0 := Aside0.mk hr0
  have HC0 := Aside0.mk hc0
  clear hr0 hc0
  have HR1 := Aside0.mk hr1
  have HC1 := Aside0.mk hc1
  clear hr1 hc1
  have H : (if (l0.length : Int) = (l1.length : Int) then (api_Op_57.l0 k l0 l1 (l0.length : Int) 0) else (some false)) = some r := h
  clear h
  by_cases c3 : (l0.length : Int) = (l1.length : Int)
  · rw [if_pos c3] at H
    have c3b0 : ((l0.length : Int) == (l1.length : Int)) = true := beq_iff_eq.mpr c3
    have c3b1 : ((l0.length : Int) != (l1.length : Int)) = false := bne_eq_false_iff_eq.mpr c3
    have c3b2 : (l0.length == l1.length) = true := by first | simpa using c3 | (simp at c3 ⊢; omega)
    clear c3
    have H' := Aside0.mk H
    clear H
    go_enter Try.func57, Try.ntmps57
    go_wp2
    repeat (go_quiet (fail); try go_wp2)
    go_loopg [13] k (fun kq v13 w' => ∃ (x13_1 : Int), v13 = .int .i64 x13_1 ∧ Aside0 (api_Op_57.l0 kq l0 l1 (l0.length : Int) x13_1 = some r) ∧ Aside0 (kq ≤ k) ∧ Drawn0 w w')
    case atStart => exact ⟨(0), (by first | rfl | (simp; done) | (simp [*]; done)), H', ⟨Nat.le_refl _⟩, by repeat (first | exact Drawn0.refl _ | apply Drawn0.step)⟩
    case round =>
      clear H'
      try clear c1
      try clear p2
      try clear c3
      try clear c3b0
      try clear c3b1
      try clear c3b2
      obtain ⟨x13_1, rfl, HA, HK1, ⟨m1, rfl⟩⟩ := hrel
      cases gk with
      | zero => exact absurd HA.out (by simp [api_Op_57.l0])
      | succ k1 =>
        have H := HA.out
        clear HA
        simp only [api_Op_57.l0] at H
        by_cases c4 : x13_1 < (l0.length : Int)
        · rw [if_pos c4] at H
          have c4b0 : decide (x13_1 < (l0.length : Int)) = true := decide_eq_true c4
          clear c4
          by_cases c5 : 0 ≤ x13_1
          · rw [if_pos c5] at H
            have c5b0 : decide (0 ≤ x13_1) = true := decide_eq_true c5
            clear c5
            by_cases c6 : x13_1 < (l0.length : Int)
            · rw [if_pos c6] at H
              have c6b0 : decide (x13_1 < (l0.length : Int)) = true := decide_eq_true c6
              clear c6
              by_cases c7 : x13_1 < (l1.length : Int)
              · rw [if_pos c7] at H
                have c7b0 : decide (x13_1 < (l1.length : Int)) = true := decide_eq_true c7
                clear c7
                by_cases c8 : (!(((rd_T50 l0 x13_1).f0) == ((rd_T50 l1 x13_1).f0)) || (!(((rd_T50 l0 x13_1).f1) == ((rd_T50 l1 x13_1).f1)) || ((!(((rd_T50 l0 x13_1).f2.f0) == ((rd_T50 l1 x13_1).f2.f0)) || (!(((rd_T50 l0 x13_1).f2.f1) == ((rd_T50 l1 x13_1).f2.f1)) || (!((((rd_T50 l0 x13_1).f2.f2).toList) == (((rd_T50 l1 x13_1).f2.f2).toList)))))))) = true
                · rw [if_pos c8] at H
                  have c8b0 : (!(((rd_T50 l0 x13_1).f0) == ((rd_T50 l1 x13_1).f0)) || (!(((rd_T50 l0 x13_1).f1) == ((rd_T50 l1 x13_1).f1)) || ((!(((rd_T50 l0 x13_1).f2.f0) == ((rd_T50 l1 x13_1).f2.f0)) || (!(((rd_T50 l0 x13_1).f2.f1) == ((rd_T50 l1 x13_1).f2.f1)) || (!((((rd_T50 l0 x13_1).f2.f2).toList) == (((rd_T50 l1 x13_1).f2.f2).toList)))))))) = true := c8
                  clear c8
                  obtain rfl := Option.some.inj H
                  have p184 : 0 ≤ (x13_1 : Int) := of_decide_eq_true (by first | (with_reducible assumption) | assumption)
                  have q184 : x13_1 < (l0.length : Int) := of_decide_eq_true (by first | (with_reducible assumption) | assumption)
                  obtain ⟨ad184, e184, hx184_0, hx184_1, hx184_2, hx184_3, hx184_4⟩ := at_T50 HR0.out x13_1 p184 q184
                  cases e184
                  replace p184 := eq_true p184
                  replace q184 := eq_true q184
                  have p185 : 0 ≤ (x13_1 : Int) := of_decide_eq_true (by first | (with_reducible assumption) | assumption)
                  have q185 : x13_1 < (l1.length : Int) := of_decide_eq_true (by first | (with_reducible assumption) | assumption)
                  obtain ⟨ad185, e185, hx185_0, hx185_1, hx185_2, hx185_3, hx185_4⟩ := at_T50 HR1.out x13_1 p185 q185
                  cases e185
                  replace p185 := eq_true p185
                  replace q185 := eq_true q185
                  go_wp2
                  repeat (go_quiet (fail); try go_wp2)
                  go_ret
                  exact ⟨by first | rfl | (simp; done) | (simp [*]; done), by repeat (first | exact Drawn0.refl _ | apply Drawn0.step)⟩
                · rw [if_neg c8] at H
                  have c8b0 : (!(((rd_T50 l0 x13_1).f0) == ((rd_T50 l1 x13_1).f0)) || (!(((rd_T50 l0 x13_1).f1) == ((rd_T50 l1 x13_1).f1)) || ((!(((rd_T50 l0 x13_1).f2.f0) == ((rd_T50 l1 x13_1).f2.f0)) || (!(((rd_T50 l0 x13_1).f2.f1) == ((rd_T50 l1 x13_1).f2.f1)) || (!((((rd_T50 l0 x13_1).f2.f2).toList) == (((rd_T50 l1 x13_1).f2.f2).toList)))))))) = false := by simpa using c8
                  clear c8
                  have H' := Aside0.mk H
                  clear H
                  have p184 : 0 ≤ (x13_1 : Int) := of_decide_eq_true (by first | (with_reducible assumption) | assumption)
                  have q184 : x13_1 < (l0.length : Int) := of_decide_eq_true (by first | (with_reducible assumption) | assumption)
                  obtain ⟨ad184, e184, hx184_0, hx184_1, hx184_2, hx184_3, hx184_4⟩ := at_T50 HR0.out x13_1 p184 q184
                  cases e184
                  replace p184 := eq_true p184
                  replace q184 := eq_true q184
                  have p185 : 0 ≤ (x13_1 : Int) := of_decide_eq_true (by first | (with_reducible assumption) | assumption)
                  have q185 : x13_1 < (l1.length : Int) := of_decide_eq_true (by first | (with_reducible assumption) | assumption)
                  obtain ⟨ad185, e185, hx185_0, hx185_1, hx185_2, hx185_3, hx185_4⟩ := at_T50 HR1.out x13_1 p185 q185
                  cases e185
                  replace p185 := eq_true p185
                  replace q185 := eq_true q185
                  go_wp2
                  repeat (go_quiet (fail); try go_wp2)
                  go_roundg k1
                  case measure => have := HK1.out; omega
                  case rel => exact ⟨(wrap64 (x13_1 + 1)), (by first | rfl | (simp; done) | (simp [*]; done)), H', ⟨by have := HK1.out; omega⟩, by repeat (first | exact Drawn0.refl _ | apply Drawn0.step)⟩
              · rw [if_neg c7] at H
                exact absurd H (by simp)
            · rw [if_neg c6] at H
              exact absurd H (by simp)
          · rw [if_neg c5] at H
            exact absurd H (by simp)
        · rw [if_neg c4] at H
          have c4b0 : decide (x13_1 < (l0.length : Int)) = false := decide_eq_false c4
          clear c4
          obtain rfl := Option.some.inj H
          go_wp2
          repeat (go_quiet (fail); try go_wp2)
          go_ret
          exact ⟨by first | rfl | (simp; done) | (simp [*]; done), by repeat (first | exact Drawn0.refl _ | apply Drawn0.step)⟩
  · rw [if_neg c3] at H
    have c3b0 : ((l0.length : Int) == (l1.length : Int)) = false := beq_eq_false_iff_ne.mpr c3
    have c3b1 : ((l0.length : Int) != (l1.length : Int)) = true := bne_iff_ne.mpr c3
    have c3b2 : (l0.length == l1.length) = false := by first | simpa using c3 | (simp at c3 ⊢; omega)
    obtain rfl := Option.some.inj H
    go_enter Try.func57, Try.ntmps57
    go_wp2
    repeat (go_quiet (fail); try go_wp2)
    go_ret
    exact ⟨by first | rfl | (simp; done) | (simp [*]; done), by repeat (first | exact Drawn0.refl _ | apply Drawn0.step)⟩

/-! ### expr_Same: function 28 -/
def expr_Same.f (k : Nat) (l0 : List (S50)) (l1 : List (S50)) : Option (Bool) := (api_Op_57.f k l0 l1).bind fun t186 => (some t186)
theorem expr_Same.mono : ∀ a0 a1 k, LeO (expr_Same.f k a0 a1) (expr_Same.f (k + 1) a0 a1) := by
  intro a0 a1 k
  unfold expr_Same.f
  repeat' first
      | (with_reducible exact api_Op_57.mono _ _ _)
      | (with_reducible exact LeO.refl _)
      | (with_reducible exact LeO.none _)
      | (with_reducible refine LeO.ite ?_ ?_)
      | (with_reducible refine LeO.bind ?_ (fun _ => ?_))
      | exact api_Op_57.mono _ _ _
      | exact LeO.none _
      | refine LeO.ite ?_ ?_
      | refine LeO.bind ?_ (fun _ => ?_)
set_option maxHeartbeats 8000000 in
set_option maxRecDepth 100000 in
theorem expr_Same.calls (k : Nat) (A0 : Option Addr) (c0 : Nat) (l0 : List (S50)) (A1 : Option Addr) (c1 : Nat) (l1 : List (S50)) (r : Bool) (w : World) (hr0 : Kd.C k50 w A0 l0.length l0) (hc0 : l0.length ≤ c0) (hr1 : Kd.C k50 w A1 l1.length l1) (hc1 : l1.length ≤ c1) (h : expr_Same.f k l0 l1 = some r) :
    Calls Try.prog 28 #[.slice A0 l0.length c0, .slice A1 l1.length c1] w fun e w' => e = .returned (.bool r) ∧ Drawn0 w w' := by
  have HR0 := Aside0.mk hr0
  have HC0 := Aside0.mk hc0
  clear hr0 hc0
  have HR1 := Aside0.mk hr1
  have HC1 := Aside0.mk hc1
  clear hr1 hc1
  have H : ((api_Op_57.f k l0 l1).bind fun t186 => (some t186)) = some r := h
  clear h
  replace H := Option.bind_eq_some_iff.mp H
  obtain ⟨t186, A30, H⟩ := H
  replace H : (some t186) = some r := H
  have A3 := Aside0.mk A30
  clear A30
  obtain rfl := Option.some.inj H
  go_enter Try.func28, Try.ntmps28
  go_wp2_with (first | ((with_reducible refine gate_callee (f := 57) rfl ?_); refine goesL_ (some 7) rfl rfl Try.func57 (by kernel_rfl) rfl #[.slice A0 l0.length c0, .slice A1 l1.length c1] rfl (by (try simp only [List.map_toArray, List.map_cons, List.map_nil]); first | done | rfl | (simp only [List.length_drop, List.length_take]; rfl)) ?_; (with_reducible refine (api_Op_57.calls k _ _ l0 _ _ l1 t186 _ ?side1 ?side2 ?side3 ?side4 A3.out).mono ?_); (case side1 => repeat (first | exact HR0.out | (with_reducible refine Kd.C_alloc ?_ _) | (with_reducible refine Kd.C_drewN ?_ _) | (with_reducible refine Kd.C_drew ?_))); (case side2 => exact HC0.out); (case side3 => repeat (first | exact HR1.out | (with_reducible refine Kd.C_alloc ?_ _) | (with_reducible refine Kd.C_drewN ?_ _) | (with_reducible refine Kd.C_drew ?_))); (case side4 => exact HC1.out); rintro e w' ⟨rfl, ⟨nd, rfl⟩⟩; refine ⟨_, rfl, ?_⟩))
  go_ret
  exact ⟨by first | rfl | (simp; done) | (simp [*]; done), by repeat (first | exact Drawn0.refl _ | apply Drawn0.step)⟩

/-! ### towncrierlaw08_Below: function 39 -/
def towncrierlaw08_Below.f (a0 : Int) : Option ((List (S50))) := some (([(⟨1, 0, (⟨0, 0, (⟨#[]⟩ : ByteArray)⟩ : S38)⟩ : S50), (⟨0, 0, (⟨0, a0, (⟨#[]⟩ : ByteArray)⟩ : S38)⟩ : S50), (⟨5, 0, (⟨0, 0, (⟨#[]⟩ : ByteArray)⟩ : S38)⟩ : S50)] : List (S50)))
set_option maxHeartbeats 8000000 in
set_option maxRecDepth 100000 in
theorem towncrierlaw08_Below.calls (a0 : Int) (r : List (S50)) (w : World) (h : towncrierlaw08_Below.f a0 = some r) :
    Calls Try.prog 39 #[.int .i64 a0] w fun e w' => ∃ v0_ : Value, e = .returned (v0_) ∧ Kd.R k50 50 w' w.heap.size (fun _ => True) v0_ r ∧ Below w.heap.size w w' := by
  have hu50 := Try.underlying50
  have hu38 := Try.underlying38
  have HB := Aside0.mk (Below.refl w.heap.size w)
  have H : (some (([(⟨1, 0, (⟨0, 0, (⟨#[]⟩ : ByteArray)⟩ : S38)⟩ : S50), (⟨0, 0, (⟨0, a0, (⟨#[]⟩ : ByteArray)⟩ : S38)⟩ : S50), (⟨5, 0, (⟨0, 0, (⟨#[]⟩ : ByteArray)⟩ : S38)⟩ : S50)] : List (S50)))) = some r := h
  clear h
  obtain ⟨y187, hy187⟩ : ∃ y_ : List (S50), y_ = (([(⟨1, 0, (⟨0, 0, (⟨#[]⟩ : ByteArray)⟩ : S38)⟩ : S50), (⟨0, 0, (⟨0, a0, (⟨#[]⟩ : ByteArray)⟩ : S38)⟩ : S50), (⟨5, 0, (⟨0, 0, (⟨#[]⟩ : ByteArray)⟩ : S38)⟩ : S50)] : List (S50))) := ⟨_, rfl⟩
  replace H : (some y187) = some r := by first | (rw [hy187]; with_reducible exact H) | (have H2_ := (Option.bind_some _ _).symm.trans H; rw [hy187]; with_reducible exact H2_) | (have H2_ := (Option.bind_some _ _).symm.trans H; with_reducible exact H2_) | with_reducible exact H | (rw [hy187]; exact H) | exact H
  have Ny187 := Aside0.mk hy187
  clear hy187
  obtain rfl := Option.some.inj H
  go_enter Try.func39, Try.ntmps39
  go_wp2_with (first | ((with_reducible refine gate_dst (N := 8) rfl ?_); refine Kd.R_lit k50 _ 50 ?hg (N := 8) ?hd (xs := ([(⟨1, 0, (⟨0, 0, (⟨#[]⟩ : ByteArray)⟩ : S38)⟩ : S50), (⟨0, 0, (⟨0, a0, (⟨#[]⟩ : ByteArray)⟩ : S38)⟩ : S50), (⟨5, 0, (⟨0, 0, (⟨#[]⟩ : ByteArray)⟩ : S38)⟩ : S50)] : List (S50))) (inner := [.int .i64 1, .int .i64 0, .int .i64 0, .int .i64 0, .string (⟨#[]⟩ : ByteArray), .int .i64 0, .int .i64 0, .int .i64 0, .int .i64 a0, .string (⟨#[]⟩ : ByteArray), .int .i64 5, .int .i64 0, .int .i64 0, .int .i64 0, .string (⟨#[]⟩ : ByteArray)]) (ok := fun _ => True) (okp := fun _ => True) ?hr ?hp (fun _ hk => hk) trivial (Below.refl _ _) (Nat.le_refl _) (by simp) ?_; (case hd => rfl); (case hg => rfl); (case hr => first | (go_simp; done) | (go_simp; rfl)); (case hp => exact (Reps.c5 (show Kd.M k50 _ _ _ (⟨1, 0, (⟨0, 0, (⟨#[]⟩ : ByteArray)⟩ : S38)⟩ : S50) [.int .i64 1, .int .i64 0, .int .i64 0, .int .i64 0, .string (⟨#[]⟩ : ByteArray)] from (k50_mkM _ _ _ (⟨1, 0, (⟨0, 0, (⟨#[]⟩ : ByteArray)⟩ : S38)⟩ : S50) )) (Reps.c5 (show Kd.M k50 _ _ _ (⟨0, 0, (⟨0, a0, (⟨#[]⟩ : ByteArray)⟩ : S38)⟩ : S50) [.int .i64 0, .int .i64 0, .int .i64 0, .int .i64 a0, .string (⟨#[]⟩ : ByteArray)] from (k50_mkM _ _ _ (⟨0, 0, (⟨0, a0, (⟨#[]⟩ : ByteArray)⟩ : S38)⟩ : S50) )) (Reps.c5 (show Kd.M k50 _ _ _ (⟨5, 0, (⟨0, 0, (⟨#[]⟩ : ByteArray)⟩ : S38)⟩ : S50) [.int .i64 5, .int .i64 0, .int .i64 0, .int .i64 0, .string (⟨#[]⟩ : ByteArray)] from (k50_mkM _ _ _ (⟨5, 0, (⟨0, 0, (⟨#[]⟩ : ByteArray)⟩ : S38)⟩ : S50) )) (Reps.none _ _))))); intro v188 w2 ho3 hb hg_ hnew_; clear hg_ hnew_; (first | rw [← Ny187.out] at ho3 | (simp only [Int.reduceToNat] at ho3; rw [← Ny187.out] at ho3)); have n0_ := Aside0.mk (Kd.R_lower ho3 (below_size (by repeat (first | (with_reducible first | exact HB.out | apply below_alloc | apply pw_below_drewN | apply below_drew1) | exact HB.out)))); have n1_ := Aside0.mk (below_step (by repeat (first | (with_reducible first | exact HB.out | apply below_alloc | apply pw_below_drewN | apply below_drew1) | exact HB.out)) hb); clear HB; have HO189 := n0_; have HB := n1_; clear n0_ n1_; clear hb ho3))
  go_ret
  exact ⟨_, by first | rfl | (simp [errW_none, errW_some] <;> rfl) | (simp [*, errW_none, errW_some] <;> rfl), by (with_reducible repeat (first | apply Kd.R_alloc | apply Kd.R_drewN | apply Kd.R_drew)); exact HO189.out, by repeat (first | (with_reducible first | exact HB.out | apply below_alloc | apply pw_below_drewN | apply below_drew1) | exact HB.out)⟩

-- BY HAND: function 13 (towncrierlaw08_awake)


end Go.Proofs.Yteommchgnocgnaa.PE
end

section
namespace Go.Proofs.Yteommchgnocgnaa.PE
open Go.RowKit Go.Proofs.YteommchgnocgnaaW.PrintWords Go.Proofs.YteommchgnocgnaaW.PrintLast Go.Proofs.YteommchgnocgnaaW.PrintMore
set_option linter.unusedVariables false
set_option linter.unusedSimpArgs false

/-- The least values of a schema's fields' kinds. -/
def zvals (l : List S78) : List S38 := l.map fun f => ⟨f.f1, 0, ⟨#[]⟩⟩
theorem zvals_snoc {l : List S78} {i : Nat} (h : i < l.length) : zvals (l.take (i + 1)) = zvals (l.take i) ++ [⟨(l.getD i z78).f1, 0, ⟨#[]⟩⟩] := by
  unfold zvals
  rw [List.take_succ_eq_append_getElem h, List.map_append, List.getD_eq_getElem?_getD, List.getElem?_eq_getElem h, Option.getD_some]; rfl
def kindE (name : ByteArray) (ver : Int) (fs : List S78) (l : List S50) : Int × Int :=
  if maySc name ver fs = true then (if mayE l = true then ((evalT (zvals fs) true l).1, (evalT (zvals fs) true l).2.2.2) else (0, 1)) else (0, 1)
def expr_Kind.f (a0_0 : ByteArray) (a0_1 : Int) (l0_2 : List S78) (l1 : List S50) : Option (Int × Int) := some (kindE a0_0 a0_1 l0_2 l1)
theorem maySc_len {name : ByteArray} {ver : Int} {fs : List S78} (h : maySc name ver fs = true) : fs.length ≤ 6 := by
  unfold maySc at h
  simp only [Bool.and_eq_true] at h
  exact of_decide_eq_true h.2.2.2.1
theorem k78_any : ∀ w w' x cs, k78.K w x cs → k78.K w' x cs := fun w w' x cs h => by rw [k78_open h]; exact k78_mk w' x

set_option maxHeartbeats 16000000 in
set_option maxRecDepth 100000 in
theorem expr_Kind.calls (a0_0 : ByteArray) (a0_1 : Int) (A0_2 : Option Addr) (c0_2 : Nat) (l0_2 : List S78) (A1 : Option Addr) (c1 : Nat) (l1 : List S50) (r1 : Int) (r2 : Int) (w : World) (hr0_2 : Kd.C k78 w A0_2 l0_2.length l0_2) (hc0_2 : l0_2.length ≤ c0_2) (hr1 : Kd.C k50 w A1 l1.length l1) (hc1 : l1.length ≤ c1) (h : expr_Kind.f a0_0 a0_1 l0_2 l1 = some (r1, r2)) :
    Calls Try.prog 17 #[.agg #[.string a0_0, .int .i64 a0_1, .slice A0_2 l0_2.length c0_2], .slice A1 l1.length c1] w fun e w' => e = .returned (.tuple #[.int .i64 r1, .int .i64 r2]) ∧ Below w.heap.size w w' := by
  have hu24 := Try.underlying24
  have hu38 := Try.underlying38
  have hu78 := Try.underlying78
  have hu82 := Try.underlying82
  have HE := Aside0.mk (Option.some.inj h)
  have HR0 := Aside0.mk hr0_2
  have HC0 := Aside0.mk hc0_2
  have HR1 := Aside0.mk hr1
  have HC1 := Aside0.mk hc1
  have HB := Aside0.mk (below_alloc (Below.refl w.heap.size w) (.cells #[.string a0_0, .int .i64 a0_1, .slice A0_2 l0_2.length c0_2] 24))
  have BE := Aside0.mk (blk_new w (.cells #[.string a0_0, .int .i64 a0_1, .slice A0_2 l0_2.length c0_2] 24))
  clear h hr0_2 hc0_2 hr1 hc1
  cases hv : maySc a0_0 a0_1 l0_2 with
  | false =>
    have hres : r1 = 0 ∧ r2 = 1 := by
      have h := HE.out
      unfold kindE at h
      rw [hv, if_neg (by decide)] at h
      simp only [Prod.mk.injEq] at h
      exact ⟨h.1.symm, h.2.symm⟩
    obtain ⟨rfl, rfl⟩ := hres
    replace hv := Aside0.mk hv
    go_enter Try.func17, Try.ntmps17
    go_wp2_with (fail)
    refine (schema_May.calls a0_0 a0_1 A0_2 c0_2 l0_2 false _ (Kd.C_below HR0.out HB.out) HC0.out (by unfold schema_May.f; rw [hv.out])).mono ?_
    rintro e w1 ⟨rfl, hb⟩
    replace HB := Aside0.mk (below_step HB.out hb)
    clear hb
    go_wp2
    go_ret2
    exact ⟨rfl, HB.out⟩
  | true =>
  cases hm : mayE l1 with
  | false =>
    have hres : r1 = 0 ∧ r2 = 1 := by
      have h := HE.out
      unfold kindE at h
      rw [hv, if_pos rfl, hm, if_neg (by decide)] at h
      simp only [Prod.mk.injEq] at h
      exact ⟨h.1.symm, h.2.symm⟩
    obtain ⟨rfl, rfl⟩ := hres
    replace hv := Aside0.mk hv
    replace hm := Aside0.mk hm
    go_enter Try.func17, Try.ntmps17
    go_wp2_with (fail)
    refine (schema_May.calls a0_0 a0_1 A0_2 c0_2 l0_2 true _ (Kd.C_below HR0.out HB.out) HC0.out (by unfold schema_May.f; rw [hv.out])).mono ?_
    rintro e w1 ⟨rfl, hb⟩
    replace HB := Aside0.mk (below_step HB.out hb)
    clear hb
    go_wp2_with (fail)
    refine (expr_may.calls A1 c1 l1 false _ (Kd.C_below HR1.out HB.out) HC1.out (by unfold expr_may.f; rw [hm.out])).mono ?_
    rintro e w2 ⟨rfl, hb⟩
    replace HB := Aside0.mk (below_step HB.out hb)
    clear hb
    go_wp2
    go_ret2
    exact ⟨rfl, HB.out⟩
  | true =>
  have hl6 := Aside0.mk (maySc_len hv)
  have HM := Aside0.mk (mayE_arg hm)
  have HX := Aside0.mk (show ((evalT (zvals l0_2) true l1).1, (evalT (zvals l0_2) true l1).2.2.2) = (r1, r2) by
    have h := HE.out
    unfold kindE at h
    rw [hv, if_pos rfl, hm, if_pos rfl] at h
    exact h)
  clear HE
  replace hv := Aside0.mk hv
  replace hm := Aside0.mk hm
  go_enter Try.func17, Try.ntmps17
  go_wp2_with (fail)
  refine (schema_May.calls a0_0 a0_1 A0_2 c0_2 l0_2 true _ (Kd.C_below HR0.out HB.out) HC0.out (by unfold schema_May.f; rw [hv.out])).mono ?_
  rintro e w1 ⟨rfl, hb⟩
  replace BE := Aside0.mk (blk_below BE.out hb)
  replace HB := Aside0.mk (below_step HB.out hb)
  clear hb
  go_wp2_with (fail)
  refine (expr_may.calls A1 c1 l1 true _ (Kd.C_below HR1.out HB.out) HC1.out (by unfold expr_may.f; rw [hm.out])).mono ?_
  rintro e w2 ⟨rfl, hb⟩
  replace BE := Aside0.mk (blk_alloc (blk_below BE.out hb) (.cells #[.slice none 0 0, .slice none 0 0, .bool true] 82))
  replace HB := Aside0.mk (below_step HB.out hb)
  have HGS := Aside0.mk (below_size HB.out)
  replace HB := Aside0.mk (below_alloc HB.out (.cells #[.slice none 0 0, .slice none 0 0, .bool true] 82))
  obtain ⟨gp, hgp⟩ : ∃ gp, gp = w2.heap.size := ⟨_, rfl⟩
  have BG := Aside0.mk (show (w2.alloc (.cells #[.slice none 0 0, .slice none 0 0, .bool true] 82)).heap[gp]? = some (.cells #[.slice none 0 0, .slice none 0 0, .bool true] 82 (0, 0)) by rw [hgp]; exact blk_new _ _)
  have HGL := Aside0.mk (show w.heap.size ≤ gp by rw [hgp]; exact HGS.out)
  have HGT := Aside0.mk (show gp < (w2.alloc (.cells #[.slice none 0 0, .slice none 0 0, .bool true] 82)).heap.size by rw [hgp]; simp)
  have hce2 : (w2.alloc (.cells #[.slice none 0 0, .slice none 0 0, .bool true] 82)).cell? ⟨w.heap.size, 2, none⟩ = some (.slice A0_2 l0_2.length c0_2) := (blk_cell BE.out 2).trans rfl
  clear hb HGS
  go_wp2_with (fail)
  rw [← hgp]
  clear hgp hce2
  go_loopg [24] 6 (fun kq v24 w' => ∃ (i : Nat) (Av : Option Addr) (cv : Nat), v24 = .int .i64 (i : Int) ∧ Aside0 (i ≤ l0_2.length) ∧ Aside0 (i + kq = 6) ∧ Aside0 (Below w.heap.size w w') ∧ Aside0 (w'.heap[gp]? = some (.cells #[.slice none 0 0, .slice Av i cv, .bool true] 82 (0, 0))) ∧ Aside0 (Kd.R k38 38 w' w.heap.size (fun k_ => k_ ≠ gp) (.slice Av i cv) (zvals (l0_2.take i))) ∧ Aside0 (gp < w'.heap.size) ∧ Aside0 (w'.heap[w.heap.size]? = some (.cells #[.string a0_0, .int .i64 a0_1, .slice A0_2 l0_2.length c0_2] 24 (0, 0))))
  case atStart => exact ⟨0, none, 0, rfl, ⟨by omega⟩, ⟨by omega⟩, HB, BG, ⟨Kd.R_nil _ _ _ _ _⟩, HGT, BE⟩
  case round =>
    clear HB BE BG HGT
    obtain ⟨i, Av, cv, rfl, hle, hk, HB, BG, HO, HGT, BE⟩ := hrel
    by_cases hlt : i < l0_2.length
    · obtain ⟨ad, e, hx0, hx1⟩ := at_T78 HR0.out (i : Int) (by omega) (by omega)
      cases e
      rw [Int.toNat_natCast] at hx0 hx1
      have hrd : rd_T78 l0_2 (i : Int) = l0_2.getD i z78 := by unfold rd_T78; rw [Int.toNat_natCast]
      rw [hrd] at hx0 hx1
      clear hrd
      have hsn := zvals_snoc hlt
      obtain ⟨x, hx⟩ : ∃ x, x = l0_2.getD i z78 := ⟨_, rfl⟩
      rw [← hx] at hx0 hx1 hsn
      clear hx
      obtain ⟨ys, hys⟩ : ∃ ys, ys = zvals (l0_2.take i) := ⟨_, rfl⟩
      have hyl : ys.length = i := by rw [hys]; unfold zvals; rw [List.length_map, List.length_take]; omega
      rw [← hys] at HO hsn
      replace hys := Aside0.mk hys
      have hi6 : i < 6 := by have := hl6.out; omega
      have HYL := Aside0.mk (show ys.length < 1000 by omega)
      have HYS := Aside0.mk (show (ys ++ [(⟨x.f1, 0, ⟨#[]⟩⟩ : S38)]).length = i + 1 by rw [List.length_append, hyl]; rfl)
      replace hsn := Aside0.mk hsn
      replace hyl := Aside0.mk hyl
      have hlt2 := Aside0.mk hlt
      replace hx0 := (HB.out.cell (World.block_lt_of_cell? w _ hx0)).trans hx0
      replace hx1 := (HB.out.cell (World.block_lt_of_cell? w _ hx1)).trans hx1
      go_wp2_with (fail)
      obtain ⟨w2, hw2⟩ : ∃ w2, w2 = wr.alloc (.cells #[.string x.f0, .int .i64 x.f1] 78) := ⟨_, rfl⟩
      have HB2 := Aside0.mk (show Below w.heap.size w w2 by rw [hw2]; exact below_alloc HB.out _)
      have BG2 := Aside0.mk (show w2.heap[gp]? = some (.cells #[.slice none 0 0, .slice Av i cv, .bool true] 82 (0, 0)) by rw [hw2]; exact blk_alloc BG.out _)
      have BE2 := Aside0.mk (show w2.heap[w.heap.size]? = some (.cells #[.string a0_0, .int .i64 a0_1, .slice (some ad) l0_2.length c0_2] 24 (0, 0)) by rw [hw2]; exact blk_alloc BE.out _)
      have BF2 := Aside0.mk (show w2.heap[wr.heap.size]? = some (.cells #[.string x.f0, .int .i64 x.f1] 78 (0, 0)) by rw [hw2]; exact blk_new _ _)
      have HO2 := Aside0.mk (show Kd.R k38 38 w2 w.heap.size (fun k_ => k_ ≠ gp) (.slice Av i cv) ys by rw [hw2]; exact Kd.R_alloc HO.out _)
      have HGP := Aside0.mk (blk_lt BG2.out)
      rw [← hw2]
      clear hw2 HB BG BE HO HGT hx0 hx1
      have hcv : w2.cell? ⟨gp, 1, none⟩ = some (.slice Av i cv) := (blk_cell BG2.out 1).trans rfl
      have hcf : w2.cell? ⟨wr.heap.size, 1, none⟩ = some (.int .i64 x.f1) := (blk_cell BF2.out 1).trans rfl
      refine start_ (n := 13) (S := fun w' => w'.cell? ⟨gp, 1, none⟩ = some (.slice Av i cv) ∧ w'.cell? ⟨wr.heap.size, 1, none⟩ = some (.int .i64 x.f1)) (ds := [12]) #[false, false, false, false, false, false, false, false, false, false, false, false, false] (by kernel_rfl) rfl rfl ⟨hcv, hcf⟩ (fun hHeld => ?_)
      refine pure_ (i := 0) (N := some 28) (v := ?_) (a' := ?_) #[true, false, false, false, false, false, false, false, false, false, false, false, false] rfl rfl (by kernel_rfl) (fun _ _ _ h => h) (Or.inl ⟨by rfl, ?_⟩) ?_ ?_
      rotate_left
      · intro w'
        go_simp
        with_reducible rfl
      rotate_left
      · simp only [Act.put, List.setIfInBounds_toArray, List.set_cons_zero, List.set_cons_succ, i64_w, i32_w]
        rfl
      refine pure_ (i := 1) (N := some 29) (v := ?_) (a' := ?_) #[true, true, false, false, false, false, false, false, false, false, false, false, false] rfl rfl (by kernel_rfl) (fun _ _ _ h => h) (Or.inl ⟨by rfl, ?_⟩) ?_ ?_
      rotate_left
      · intro w'
        go_simp
        with_reducible rfl
      rotate_left
      · simp only [Act.put, List.setIfInBounds_toArray, List.set_cons_zero, List.set_cons_succ, i64_w, i32_w]
        rfl
      refine pure_ (i := 2) (N := some 30) (v := ?_) (a' := ?_) #[true, true, true, false, false, false, false, false, false, false, false, false, false] rfl rfl (by kernel_rfl) (fun _ _ _ h => h) (Or.inl ⟨by rfl, ?_⟩) ?_ ?_
      rotate_left
      · intro w'
        go_simp
        with_reducible rfl
      rotate_left
      · simp only [Act.put, List.setIfInBounds_toArray, List.set_cons_zero, List.set_cons_succ, i64_w, i32_w]
        rfl
      refine pure_ (i := 3) (N := some 31) (v := ?_) (a' := ?_) #[true, true, true, true, false, false, false, false, false, false, false, false, false] rfl rfl (by kernel_rfl) (fun _ _ _ h => h) (Or.inl ⟨by rfl, ?_⟩) ?_ ?_
      rotate_left
      · intro w'
        go_simp
        with_reducible rfl
      rotate_left
      · simp only [Act.put, List.setIfInBounds_toArray, List.set_cons_zero, List.set_cons_succ, i64_w, i32_w]
        rfl
      refine pure_ (i := 5) (N := some 33) (v := ?_) (a' := ?_) #[true, true, true, true, false, true, false, false, false, false, false, false, false] rfl rfl (by kernel_rfl) (fun _ _ _ h => h) (Or.inl ⟨by rfl, ?_⟩) ?_ ?_
      rotate_left
      · intro w'
        go_simp
        with_reducible rfl
      rotate_left
      · simp only [Act.put, List.setIfInBounds_toArray, List.set_cons_zero, List.set_cons_succ, i64_w, i32_w]
        rfl
      refine take_ (i := 4) (N := some 32) (v := ?_) (a' := ?_) #[true, true, true, true, true, true, false, false, false, false, false, false, false] rfl rfl (by kernel_rfl) (fun _ _ _ h => h) (Or.inl ⟨by rfl, ?_⟩) hHeld ?_ ?_
      rotate_left
      · rintro w' ⟨s0, s1⟩
        go_simp
        with_reducible rfl
      rotate_left
      · simp only [Act.put, List.setIfInBounds_toArray, List.set_cons_zero, List.set_cons_succ, i64_w, i32_w]
        rfl
      refine take_ (i := 6) (N := some 34) (v := ?_) (a' := ?_) #[true, true, true, true, true, true, true, false, false, false, false, false, false] rfl rfl (by kernel_rfl) (fun _ _ _ h => h) (Or.inl ⟨by rfl, ?_⟩) hHeld ?_ ?_
      rotate_left
      · rintro w' ⟨s0, s1⟩
        go_simp
        with_reducible rfl
      rotate_left
      · simp only [Act.put, List.setIfInBounds_toArray, List.set_cons_zero, List.set_cons_succ, i64_w, i32_w]
        rfl
      refine pure_ (i := 7) (N := some 35) (v := ?_) (a' := ?_) #[true, true, true, true, true, true, true, true, false, false, false, false, false] rfl rfl (by kernel_rfl) (fun _ _ _ h => h) (Or.inl ⟨by rfl, ?_⟩) ?_ ?_
      rotate_left
      · intro w'
        go_simp
        with_reducible rfl
      rotate_left
      · simp only [Act.put, List.setIfInBounds_toArray, List.set_cons_zero, List.set_cons_succ, i64_w, i32_w]
        rfl
      refine one_ (i := 8) (N := some 36) #[true, true, true, true, true, true, true, true, true, false, false, false, false] rfl rfl (by kernel_rfl) (by decide) (fun K hK => ?_)
      refine value_ (w1 := ?_) (v := ?_) (by rfl) rfl ?_ ?_
      rotate_left 2
      · go_simp
        constructor
        · rfl
        · rfl
      refine hK.out _ _ ⟨(blk_cell (blk_alloc (w := w2) BG2.out _) 1).trans rfl, (blk_cell (blk_alloc (w := w2) BF2.out _) 1).trans rfl⟩ (fun hHeld => ?_)
      clear hK K
      refine norm_ (a' := ?_) ?_ ?_
      rotate_left
      · show Act.put _ (some 36) _ = _
        simp only [Act.put, List.setIfInBounds_toArray, List.set_cons_zero, List.set_cons_succ, i64_w, i32_w]
        rfl
      refine one_ (i := 9) (N := some 37) #[true, true, true, true, true, true, true, true, true, true, false, false, false] rfl rfl (by kernel_rfl) (by decide) (fun K hK => ?_)
      rw [show (w2.alloc (.cells #[.int .i64 x.f1, .int .i64 0, .string ⟨#[]⟩] 38)).drew = w2.drew.alloc (.cells #[.int .i64 x.f1, .int .i64 0, .string ⟨#[]⟩] 38) from rfl]
      refine Kd.R_append_step k38 (w0 := w) w.heap.size (by rfl) (.tmp 32) (.tmp 36) 25 38 (.agg #[(.int .i64 0), (.int .i64 0), (.string ⟨#[]⟩)]) 32 rfl Try.underlying25 info38 rfl (by decide) (by omega) (.slice Av i cv) ys (⟨x.f1, 0, ⟨#[]⟩⟩ : S38) [.int .i64 x.f1, .int .i64 0, .string ⟨#[]⟩] (fun k_ => k_ ≠ gp) (fun _ => False) rfl rfl ?aP (fun _ hk => hk.elim) ?aF ?aO ?aB ?aS ?aL ?_
      (case aP => exact k38_mkM _ _ _ (⟨x.f1, 0, ⟨#[]⟩⟩ : S38))
      (case aB => exact HB2.out.drew)
      (case aF => exact (fun k hk => by have h1 := HGP.out; have h2 : w2.heap.size ≤ k := hk; omega))
      (case aO => exact HO2.out)
      (case aS => exact below_size HB2.out.drew)
      (case aL => have := HYL.out; omega)
      intro v9 w9 ho hb hg hat
      obtain ⟨A9, c9, rfl⟩ := Kd.R_slice ho
      rw [HYS.out] at ho
      rw [HYS.out]
      have BG9 := Aside0.mk (blk_grown (w := w2.drew) BG2.out hg (Kd.R_away HO2.out (fun _ hk => hk)))
      have BF9 := Aside0.mk (blk_grown (w := w2.drew) BF2.out hg (Kd.R_ne HO2.out BF2.out (by decide)))
      have BE9 := Aside0.mk (blk_grown (w := w2.drew) BE2.out hg (Kd.R_ne HO2.out BE2.out (by decide)))
      have HB9 := Aside0.mk hb
      have HO9 := Aside0.mk ho
      clear ho hb hg hat
      have hf9 := blk_frozen BG9.out 1
      have hc9 : w9.cell? ⟨gp, 1, none⟩ = some (.slice Av i cv) := (blk_cell BG9.out 1).trans rfl
      refine hK.out _ _ ⟨(blk_cell BG9.out 1).trans rfl, (blk_cell BF9.out 1).trans rfl⟩ (fun hHeld => ?_)
      clear hK K
      refine norm_ (a' := ?_) ?_ ?_
      rotate_left
      · show Act.put _ (some 37) _ = _
        simp only [Act.put, List.setIfInBounds_toArray, List.set_cons_zero, List.set_cons_succ, i64_w, i32_w]
        rfl
      refine pure_ (i := 10) (N := some 38) (v := ?_) (a' := ?_) #[true, true, true, true, true, true, true, true, true, true, true, false, false] rfl rfl (by kernel_rfl) (fun _ _ _ h => h) (Or.inl ⟨by rfl, ?_⟩) ?_ ?_
      rotate_left
      · intro w'
        go_simp
        with_reducible rfl
      rotate_left
      · simp only [Act.put, List.setIfInBounds_toArray, List.set_cons_zero, List.set_cons_succ, i64_w, i32_w]
        rfl
      refine pure_ (i := 11) (N := some 39) (v := ?_) (a' := ?_) #[true, true, true, true, true, true, true, true, true, true, true, true, false] rfl rfl (by kernel_rfl) (fun _ _ _ h => h) (Or.inl ⟨by rfl, ?_⟩) ?_ ?_
      rotate_left
      · intro w'
        go_simp
        with_reducible rfl
      rotate_left
      · simp only [Act.put, List.setIfInBounds_toArray, List.set_cons_zero, List.set_cons_succ, i64_w, i32_w]
        rfl
      refine last_ (i := 12) (N := none) #[true, true, true, true, true, true, true, true, true, true, true, true, true] rfl rfl (by kernel_rfl) (by decide) (fun K hK => ?_)
      refine skip_ (w1 := ?_) (by rfl) rfl ?_ ?_
      rotate_left
      · go_simp
        rfl
      refine hK.out _ _ ?_
      clear hK K
      refine done_ (by kernel_rfl) ?_
      clear hcv hcf hc9 hf9
      go_wp2
      go_roundg (gk - 1)
      case measure => have := hk.out; omega
      case rel => exact ⟨i + 1, _, _, by go_num, ⟨by have := hlt2.out; omega⟩, ⟨by have := hk.out; omega⟩, ⟨HB9.out.setCell HGL.out _⟩, ⟨blk_put BG9.out 1 _ rfl⟩, ⟨by rw [hsn.out]; exact Kd.R_far HO9.out (fun _ h => h) _⟩, ⟨by have h1 := blk_lt BG9.out; simpa [World.setCell] using h1⟩, ⟨blk_far BE9.out (blk_ne BE9.out BG9.out (by decide)) _⟩⟩
    · have hz : zvals (l0_2.take i) = zvals l0_2 := by rw [List.take_of_length_le (by omega)]
      have hzl : (zvals l0_2).length = i := by unfold zvals; rw [List.length_map]; have := hle.out; omega
      have hO := HO.out
      rw [hz] at hO
      have hcall := expr_through.calls gp Av cv (zvals l0_2) true A1 c1 l1 wr (by rw [hzl]; exact BG.out)
        (fun W hk => C_keepW k38_any (by rw [hzl]; have h := (Kd.R_reads' hO).2.2; rw [hzl] at h; exact h) hk (fun ad e hn => by
          obtain ⟨g', cap, he, _, _, _⟩ := Kd.R_form hO hn
          subst e
          injection he with h1 h2 h3
          injection h1 with h1
          subst h1
          exact hO.1 g' rfl))
        (fun W hk => C_keepW k50_any (Kd.C_below HR1.out HB.out) hk (fun ad e hn => by have h1 := C_block HR1.out (by decide) ad e hn; have h2 := HGL.out; omega))
        HC1.out HM.out.1 HM.out.2
      obtain ⟨e1, e2, e3, e4, hev⟩ : ∃ e1 e2 e3 e4, evalT (zvals l0_2) true l1 = (e1, e2, e3, e4) := ⟨_, _, _, _, rfl⟩
      have hX := HX.out
      rw [hev] at hcall hX
      obtain ⟨rfl, rfl⟩ : e1 = r1 ∧ e4 = r2 := by simpa using hX
      replace hcall := Aside0.mk hcall
      clear hz hzl hO hev hX HO
      go_wp2_with (fail)
      refine (hcall.out).mono ?_
      rintro e w3 ⟨rfl, hb⟩
      have HB3 := Aside0.mk (HB.out.trans (hb.mono HGL.out))
      clear hb
      go_wp2
      go_ret2
      exact ⟨rfl, below_alloc HB3.out _⟩
end Go.Proofs.Yteommchgnocgnaa.PE
end

section
namespace Go.Proofs.Yteommchgnocgnaa.PE
open Go.RowKit Go.Proofs.YteommchgnocgnaaW.PrintWords Go.Proofs.YteommchgnocgnaaW.PrintLast Go.Proofs.YteommchgnocgnaaW.PrintMore
set_option linter.unusedVariables false
set_option linter.unusedSimpArgs false

/-! ### awakeN: function 13 -/
def awakeN.f (k : Nat)  : Option (Bool) := (some (([(⟨0, 4, (⟨#[]⟩ : ByteArray)⟩ : S38)] : List (S38)) : List (S38))).bind fun y190 => ((towncrierlaw08_Below.f 5).bind fun t194 => ((expr_Put.f k t194).bind fun bt197 => ((expr_Get.f k bt197.1).bind fun bt201 => ((towncrierlaw08_Below.f 5).bind fun t209 => ((expr_Kind.f (⟨#[97]⟩ : ByteArray) 1 (([(⟨(⟨#[120]⟩ : ByteArray), 0⟩ : S78)] : List (S78))) t209).bind fun bt212 => ((towncrierlaw08_Below.f 5).bind fun t214 => ((expr_Holds.f (⟨#[97]⟩ : ByteArray) 0 y190 t214).bind fun t217 => (if t217 = true then ((towncrierlaw08_Below.f 4).bind fun t218 => ((expr_Holds.f (⟨#[97]⟩ : ByteArray) 0 y190 t218).bind fun t221 => (if t221 = true then (none) else (if bt197.2 = true then (if bt201.2.2 = true then (if bt201.2.1 = (bt197.1.length : Int) then ((towncrierlaw08_Below.f 5).bind fun t222 => ((expr_Same.f k bt201.1 t222).bind fun t225 => (if t225 = true then (if bt212.1 = 1 then (some (bt212.2 == 0)) else (none)) else (none)))) else (none)) else (none)) else (none))))) else (none)))))))))
theorem awakeN.mono : ∀ k, LeO (awakeN.f k ) (awakeN.f (k + 1) ) := by
  intro  k
  unfold awakeN.f
  repeat' first
      | (with_reducible exact expr_Get.mono _ _)
      | (with_reducible exact expr_Put.mono _ _)
      | (with_reducible exact expr_Same.mono _ _ _)
      | (with_reducible exact LeO.refl _)
      | (with_reducible exact LeO.none _)
      | (with_reducible refine LeO.ite ?_ ?_)
      | (with_reducible refine LeO.bind ?_ (fun _ => ?_))
      | exact expr_Get.mono _ _
      | exact expr_Put.mono _ _
      | exact expr_Same.mono _ _ _
      | exact LeO.none _
      | refine LeO.ite ?_ ?_
      | refine LeO.bind ?_ (fun _ => ?_)
def awakeN.T5 : Bool × List (List Nat × List Nat) := (true, [([], []), ([], []), ([0, 1, 1], [0, 1]), ([2, 2], [2]), ([3], [3]), ([3, 3], [3]), ([4, 5, 5, 3], [3, 4, 5]), ([6, 3], [3, 6]), ([3, 7], [3, 7]), ([8, 6], [8]), ([9], [9]), ([9, 10], [9, 10]), ([11, 9], [11]), ([12], [12]), ([12, 13], [12, 13]), ([14, 12], [14]), ([15], [15]), ([15], [15]), ([17, 15], [15, 17]), ([16, 18, 15], [15, 16, 18]), ([15, 19], [15, 19]), ([20, 15], [20]), ([21], [21]), ([21, 21], [21]), ([22, 23, 23, 21], [21, 22, 23]), ([21, 24], [21, 24]), ([25, 24], [25]), ([26], [26]), ([27, 26], [26, 27]), ([26, 28], [26, 28]), ([29, 26], [29]), ([30], [30]), ([31, 30], [30, 31]), ([30, 32], [30, 32]), ([33, 30, 0, 1, 2, 3, 4, 5, 6, 7, 8, 9, 10, 11, 12, 13, 14, 15, 16, 17, 18, 19, 20, 21, 22, 23, 24, 25, 26, 27, 28, 29, 30, 31, 32, 33], [33])])
def awakeN.B5 : List Nat := [0, 0, 3, 7, 15, 15, 63, 127, 255, 511, 1023, 2047, 4095, 8191, 16383, 32767, 65535, 65535, 196607, 524287, 1048575, 2097151, 4194303, 4194303, 16777215, 33554431, 67108863, 134217727, 268435455, 536870911, 1073741823, 2147483647, 4294967295, 8589934591, 17179869183]
theorem awakeN.tab5 : rtab .any (opsOf Try.f13 5) = awakeN.T5 := by kernel_rfl
theorem awakeN.bits5 : waitsOk awakeN.T5.2 awakeN.B5 = true := by kernel_rfl
set_option maxHeartbeats 8000000 in
set_option maxRecDepth 100000 in
theorem awakeN.calls (k : Nat)  (r : Bool) (w : World) (h : awakeN.f k  = some r) :
    Calls Try.prog 13 #[] w fun e w' => e = .returned (.bool r) ∧ Below w.heap.size w w' := by
  have hu38 := Try.underlying38
  have hu27 := Try.underlying27
  have hu78 := Try.underlying78
  have hu24 := Try.underlying24
  have HB := Aside0.mk (Below.refl w.heap.size w)
  have H : ((some (([(⟨0, 4, (⟨#[]⟩ : ByteArray)⟩ : S38)] : List (S38)) : List (S38))).bind fun y190 => ((towncrierlaw08_Below.f 5).bind fun t194 => ((expr_Put.f k t194).bind fun bt197 => ((expr_Get.f k bt197.1).bind fun bt201 => ((towncrierlaw08_Below.f 5).bind fun t209 => ((expr_Kind.f (⟨#[97]⟩ : ByteArray) 1 (([(⟨(⟨#[120]⟩ : ByteArray), 0⟩ : S78)] : List (S78))) t209).bind fun bt212 => ((towncrierlaw08_Below.f 5).bind fun t214 => ((expr_Holds.f (⟨#[97]⟩ : ByteArray) 0 y190 t214).bind fun t217 => (if t217 = true then ((towncrierlaw08_Below.f 4).bind fun t218 => ((expr_Holds.f (⟨#[97]⟩ : ByteArray) 0 y190 t218).bind fun t221 => (if t221 = true then (none) else (if bt197.2 = true then (if bt201.2.2 = true then (if bt201.2.1 = (bt197.1.length : Int) then ((towncrierlaw08_Below.f 5).bind fun t222 => ((expr_Same.f k bt201.1 t222).bind fun t225 => (if t225 = true then (if bt212.1 = 1 then (some (bt212.2 == 0)) else (none)) else (none)))) else (none)) else (none)) else (none))))) else (none)))))))))) = some r := h
  clear h
  obtain ⟨y190, hy190⟩ : ∃ y_ : List (S38), y_ = (([(⟨0, 4, (⟨#[]⟩ : ByteArray)⟩ : S38)] : List (S38))) := ⟨_, rfl⟩
  replace H : ((towncrierlaw08_Below.f 5).bind fun t194 => ((expr_Put.f k t194).bind fun bt197 => ((expr_Get.f k bt197.1).bind fun bt201 => ((towncrierlaw08_Below.f 5).bind fun t209 => ((expr_Kind.f (⟨#[97]⟩ : ByteArray) 1 (([(⟨(⟨#[120]⟩ : ByteArray), 0⟩ : S78)] : List (S78))) t209).bind fun bt212 => ((towncrierlaw08_Below.f 5).bind fun t214 => ((expr_Holds.f (⟨#[97]⟩ : ByteArray) 0 y190 t214).bind fun t217 => (if t217 = true then ((towncrierlaw08_Below.f 4).bind fun t218 => ((expr_Holds.f (⟨#[97]⟩ : ByteArray) 0 y190 t218).bind fun t221 => (if t221 = true then (none) else (if bt197.2 = true then (if bt201.2.2 = true then (if bt201.2.1 = (bt197.1.length : Int) then ((towncrierlaw08_Below.f 5).bind fun t222 => ((expr_Same.f k bt201.1 t222).bind fun t225 => (if t225 = true then (if bt212.1 = 1 then (some (bt212.2 == 0)) else (none)) else (none)))) else (none)) else (none)) else (none))))) else (none))))))))) = some r := by first | (rw [hy190]; with_reducible exact H) | (have H2_ := (Option.bind_some _ _).symm.trans H; rw [hy190]; with_reducible exact H2_) | (have H2_ := (Option.bind_some _ _).symm.trans H; with_reducible exact H2_) | with_reducible exact H | (rw [hy190]; exact H) | exact H
  have Ny190 := Aside0.mk hy190
  clear hy190
  replace H := Option.bind_eq_some_iff.mp H
  obtain ⟨t194, A10, H⟩ := H
  replace H : ((expr_Put.f k t194).bind fun bt197 => ((expr_Get.f k bt197.1).bind fun bt201 => ((towncrierlaw08_Below.f 5).bind fun t209 => ((expr_Kind.f (⟨#[97]⟩ : ByteArray) 1 (([(⟨(⟨#[120]⟩ : ByteArray), 0⟩ : S78)] : List (S78))) t209).bind fun bt212 => ((towncrierlaw08_Below.f 5).bind fun t214 => ((expr_Holds.f (⟨#[97]⟩ : ByteArray) 0 y190 t214).bind fun t217 => (if t217 = true then ((towncrierlaw08_Below.f 4).bind fun t218 => ((expr_Holds.f (⟨#[97]⟩ : ByteArray) 0 y190 t218).bind fun t221 => (if t221 = true then (none) else (if bt197.2 = true then (if bt201.2.2 = true then (if bt201.2.1 = (bt197.1.length : Int) then ((towncrierlaw08_Below.f 5).bind fun t222 => ((expr_Same.f k bt201.1 t222).bind fun t225 => (if t225 = true then (if bt212.1 = 1 then (some (bt212.2 == 0)) else (none)) else (none)))) else (none)) else (none)) else (none))))) else (none)))))))) = some r := H
  have A1 := Aside0.mk A10
  clear A10
  replace H := Option.bind_eq_some_iff.mp H
  obtain ⟨⟨t197, t198⟩, A20, H⟩ := H
  replace H : ((expr_Get.f k t197).bind fun bt201 => ((towncrierlaw08_Below.f 5).bind fun t209 => ((expr_Kind.f (⟨#[97]⟩ : ByteArray) 1 (([(⟨(⟨#[120]⟩ : ByteArray), 0⟩ : S78)] : List (S78))) t209).bind fun bt212 => ((towncrierlaw08_Below.f 5).bind fun t214 => ((expr_Holds.f (⟨#[97]⟩ : ByteArray) 0 y190 t214).bind fun t217 => (if t217 = true then ((towncrierlaw08_Below.f 4).bind fun t218 => ((expr_Holds.f (⟨#[97]⟩ : ByteArray) 0 y190 t218).bind fun t221 => (if t221 = true then (none) else (if t198 = true then (if bt201.2.2 = true then (if bt201.2.1 = (t197.length : Int) then ((towncrierlaw08_Below.f 5).bind fun t222 => ((expr_Same.f k bt201.1 t222).bind fun t225 => (if t225 = true then (if bt212.1 = 1 then (some (bt212.2 == 0)) else (none)) else (none)))) else (none)) else (none)) else (none))))) else (none))))))) = some r := H
  have A2 := Aside0.mk A20
  clear A20
  replace H := Option.bind_eq_some_iff.mp H
  obtain ⟨⟨t201, t202, t203⟩, A30, H⟩ := H
  replace H : ((towncrierlaw08_Below.f 5).bind fun t209 => ((expr_Kind.f (⟨#[97]⟩ : ByteArray) 1 (([(⟨(⟨#[120]⟩ : ByteArray), 0⟩ : S78)] : List (S78))) t209).bind fun bt212 => ((towncrierlaw08_Below.f 5).bind fun t214 => ((expr_Holds.f (⟨#[97]⟩ : ByteArray) 0 y190 t214).bind fun t217 => (if t217 = true then ((towncrierlaw08_Below.f 4).bind fun t218 => ((expr_Holds.f (⟨#[97]⟩ : ByteArray) 0 y190 t218).bind fun t221 => (if t221 = true then (none) else (if t198 = true then (if t203 = true then (if t202 = (t197.length : Int) then ((towncrierlaw08_Below.f 5).bind fun t222 => ((expr_Same.f k t201 t222).bind fun t225 => (if t225 = true then (if bt212.1 = 1 then (some (bt212.2 == 0)) else (none)) else (none)))) else (none)) else (none)) else (none))))) else (none)))))) = some r := H
  have A3 := Aside0.mk A30
  clear A30
  obtain ⟨y206, hy206⟩ : ∃ y_ : List (S78), y_ = (([(⟨(⟨#[120]⟩ : ByteArray), 0⟩ : S78)] : List (S78))) := ⟨_, rfl⟩
  replace H : ((towncrierlaw08_Below.f 5).bind fun t209 => ((expr_Kind.f (⟨#[97]⟩ : ByteArray) 1 y206 t209).bind fun bt212 => ((towncrierlaw08_Below.f 5).bind fun t214 => ((expr_Holds.f (⟨#[97]⟩ : ByteArray) 0 y190 t214).bind fun t217 => (if t217 = true then ((towncrierlaw08_Below.f 4).bind fun t218 => ((expr_Holds.f (⟨#[97]⟩ : ByteArray) 0 y190 t218).bind fun t221 => (if t221 = true then (none) else (if t198 = true then (if t203 = true then (if t202 = (t197.length : Int) then ((towncrierlaw08_Below.f 5).bind fun t222 => ((expr_Same.f k t201 t222).bind fun t225 => (if t225 = true then (if bt212.1 = 1 then (some (bt212.2 == 0)) else (none)) else (none)))) else (none)) else (none)) else (none))))) else (none)))))) = some r := by first | (rw [hy206]; with_reducible exact H) | (have H2_ := (Option.bind_some _ _).symm.trans H; rw [hy206]; with_reducible exact H2_) | (have H2_ := (Option.bind_some _ _).symm.trans H; with_reducible exact H2_) | with_reducible exact H | (rw [hy206]; exact H) | exact H
  have Ny206 := Aside0.mk hy206
  clear hy206
  replace H := Option.bind_eq_some_iff.mp H
  obtain ⟨t209, A40, H⟩ := H
  replace H : ((expr_Kind.f (⟨#[97]⟩ : ByteArray) 1 y206 t209).bind fun bt212 => ((towncrierlaw08_Below.f 5).bind fun t214 => ((expr_Holds.f (⟨#[97]⟩ : ByteArray) 0 y190 t214).bind fun t217 => (if t217 = true then ((towncrierlaw08_Below.f 4).bind fun t218 => ((expr_Holds.f (⟨#[97]⟩ : ByteArray) 0 y190 t218).bind fun t221 => (if t221 = true then (none) else (if t198 = true then (if t203 = true then (if t202 = (t197.length : Int) then ((towncrierlaw08_Below.f 5).bind fun t222 => ((expr_Same.f k t201 t222).bind fun t225 => (if t225 = true then (if bt212.1 = 1 then (some (bt212.2 == 0)) else (none)) else (none)))) else (none)) else (none)) else (none))))) else (none))))) = some r := H
  have A4 := Aside0.mk A40
  clear A40
  replace H := Option.bind_eq_some_iff.mp H
  obtain ⟨⟨t212, t213⟩, A50, H⟩ := H
  replace H : ((towncrierlaw08_Below.f 5).bind fun t214 => ((expr_Holds.f (⟨#[97]⟩ : ByteArray) 0 y190 t214).bind fun t217 => (if t217 = true then ((towncrierlaw08_Below.f 4).bind fun t218 => ((expr_Holds.f (⟨#[97]⟩ : ByteArray) 0 y190 t218).bind fun t221 => (if t221 = true then (none) else (if t198 = true then (if t203 = true then (if t202 = (t197.length : Int) then ((towncrierlaw08_Below.f 5).bind fun t222 => ((expr_Same.f k t201 t222).bind fun t225 => (if t225 = true then (if t212 = 1 then (some (t213 == 0)) else (none)) else (none)))) else (none)) else (none)) else (none))))) else (none)))) = some r := H
  have A5 := Aside0.mk A50
  clear A50
  replace H := Option.bind_eq_some_iff.mp H
  obtain ⟨t214, A60, H⟩ := H
  replace H : ((expr_Holds.f (⟨#[97]⟩ : ByteArray) 0 y190 t214).bind fun t217 => (if t217 = true then ((towncrierlaw08_Below.f 4).bind fun t218 => ((expr_Holds.f (⟨#[97]⟩ : ByteArray) 0 y190 t218).bind fun t221 => (if t221 = true then (none) else (if t198 = true then (if t203 = true then (if t202 = (t197.length : Int) then ((towncrierlaw08_Below.f 5).bind fun t222 => ((expr_Same.f k t201 t222).bind fun t225 => (if t225 = true then (if t212 = 1 then (some (t213 == 0)) else (none)) else (none)))) else (none)) else (none)) else (none))))) else (none))) = some r := H
  have A6 := Aside0.mk A60
  clear A60
  replace H := Option.bind_eq_some_iff.mp H
  obtain ⟨t217, A70, H⟩ := H
  replace H : (if t217 = true then ((towncrierlaw08_Below.f 4).bind fun t218 => ((expr_Holds.f (⟨#[97]⟩ : ByteArray) 0 y190 t218).bind fun t221 => (if t221 = true then (none) else (if t198 = true then (if t203 = true then (if t202 = (t197.length : Int) then ((towncrierlaw08_Below.f 5).bind fun t222 => ((expr_Same.f k t201 t222).bind fun t225 => (if t225 = true then (if t212 = 1 then (some (t213 == 0)) else (none)) else (none)))) else (none)) else (none)) else (none))))) else (none)) = some r := H
  have A7 := Aside0.mk A70
  clear A70
  by_cases c8 : t217 = true
  · subst c8
    have H1 : ((towncrierlaw08_Below.f 4).bind fun t218 => ((expr_Holds.f (⟨#[97]⟩ : ByteArray) 0 y190 t218).bind fun t221 => (if t221 = true then (none) else (if t198 = true then (if t203 = true then (if t202 = (t197.length : Int) then ((towncrierlaw08_Below.f 5).bind fun t222 => ((expr_Same.f k t201 t222).bind fun t225 => (if t225 = true then (if t212 = 1 then (some (t213 == 0)) else (none)) else (none)))) else (none)) else (none)) else (none))))) = some r := by rw [if_pos rfl] at H; exact H
    clear H
    have H := H1
    clear H1
    replace H := Option.bind_eq_some_iff.mp H
    obtain ⟨t218, A90, H⟩ := H
    replace H : ((expr_Holds.f (⟨#[97]⟩ : ByteArray) 0 y190 t218).bind fun t221 => (if t221 = true then (none) else (if t198 = true then (if t203 = true then (if t202 = (t197.length : Int) then ((towncrierlaw08_Below.f 5).bind fun t222 => ((expr_Same.f k t201 t222).bind fun t225 => (if t225 = true then (if t212 = 1 then (some (t213 == 0)) else (none)) else (none)))) else (none)) else (none)) else (none)))) = some r := H
    have A9 := Aside0.mk A90
    clear A90
    replace H := Option.bind_eq_some_iff.mp H
    obtain ⟨t221, A100, H⟩ := H
    replace H : (if t221 = true then (none) else (if t198 = true then (if t203 = true then (if t202 = (t197.length : Int) then ((towncrierlaw08_Below.f 5).bind fun t222 => ((expr_Same.f k t201 t222).bind fun t225 => (if t225 = true then (if t212 = 1 then (some (t213 == 0)) else (none)) else (none)))) else (none)) else (none)) else (none))) = some r := H
    have A10 := Aside0.mk A100
    clear A100
    by_cases c11 : t221 = true
    · subst c11
      have H1 : (none) = some r := by rw [if_pos rfl] at H; exact H
      clear H
      have H := H1
      clear H1
      exact absurd H (by simp)
    · replace c11 := Bool.eq_false_iff.mpr c11
      subst c11
      have H1 : (if t198 = true then (if t203 = true then (if t202 = (t197.length : Int) then ((towncrierlaw08_Below.f 5).bind fun t222 => ((expr_Same.f k t201 t222).bind fun t225 => (if t225 = true then (if t212 = 1 then (some (t213 == 0)) else (none)) else (none)))) else (none)) else (none)) else (none)) = some r := by rw [if_neg (show ¬ (false = true) by decide)] at H; exact H
      clear H
      have H := H1
      clear H1
      by_cases c35 : t198 = true
      · subst c35
        have H1 : (if t203 = true then (if t202 = (t197.length : Int) then ((towncrierlaw08_Below.f 5).bind fun t222 => ((expr_Same.f k t201 t222).bind fun t225 => (if t225 = true then (if t212 = 1 then (some (t213 == 0)) else (none)) else (none)))) else (none)) else (none)) = some r := by rw [if_pos rfl] at H; exact H
        clear H
        have H := H1
        clear H1
        by_cases c36 : t203 = true
        · subst c36
          have H1 : (if t202 = (t197.length : Int) then ((towncrierlaw08_Below.f 5).bind fun t222 => ((expr_Same.f k t201 t222).bind fun t225 => (if t225 = true then (if t212 = 1 then (some (t213 == 0)) else (none)) else (none)))) else (none)) = some r := by rw [if_pos rfl] at H; exact H
          clear H
          have H := H1
          clear H1
          by_cases c37 : t202 = (t197.length : Int)
          · rw [if_pos c37] at H
            have c37b0 : (t202 == (t197.length : Int)) = true := beq_iff_eq.mpr c37
            have c37b1 : (t202 != (t197.length : Int)) = false := bne_eq_false_iff_eq.mpr c37
            clear c37
            replace H := Option.bind_eq_some_iff.mp H
            obtain ⟨t222, A380, H⟩ := H
            replace H : ((expr_Same.f k t201 t222).bind fun t225 => (if t225 = true then (if t212 = 1 then (some (t213 == 0)) else (none)) else (none))) = some r := H
            have A38 := Aside0.mk A380
            clear A380
            replace H := Option.bind_eq_some_iff.mp H
            obtain ⟨t225, A390, H⟩ := H
            replace H : (if t225 = true then (if t212 = 1 then (some (t213 == 0)) else (none)) else (none)) = some r := H
            have A39 := Aside0.mk A390
            clear A390
            by_cases c40 : t225 = true
            · subst c40
              have H1 : (if t212 = 1 then (some (t213 == 0)) else (none)) = some r := by rw [if_pos rfl] at H; exact H
              clear H
              have H := H1
              clear H1
              by_cases c41 : t212 = 1
              · rw [if_pos c41] at H
                have c41b0 : (t212 == 1) = true := beq_iff_eq.mpr c41
                have c41b1 : (t212 != 1) = false := bne_eq_false_iff_eq.mpr c41
                clear c41
                obtain rfl := Option.some.inj H
                go_enter Try.func13, Try.ntmps13
                try go_wp2_with (first | ((with_reducible refine gate_dst (N := 10) rfl ?_); (try (refine gate_guard (by rfl) ?_; dsimp only)); refine Kd.R_lit k38 _ 38 ?hg (N := 10) ?hd (xs := ([(⟨0, 4, (⟨#[]⟩ : ByteArray)⟩ : S38)] : List (S38))) (inner := [.int .i64 0, .int .i64 4, .string (⟨#[]⟩ : ByteArray)]) (ok := fun _ => True) (okp := fun _ => True) ?hr ?hp (fun _ hk => hk) trivial (Below.refl _ _) (Nat.le_refl _) (by simp) ?_; (case hd => rfl); (case hg => rfl); (case hr => first | (go_simp; done) | (go_simp; rfl)); (case hp => exact (Reps.c3 (show Kd.M k38 _ _ _ (⟨0, 4, (⟨#[]⟩ : ByteArray)⟩ : S38) [.int .i64 0, .int .i64 4, .string (⟨#[]⟩ : ByteArray)] from (k38_mkM _ _ _ (⟨0, 4, (⟨#[]⟩ : ByteArray)⟩ : S38) )) (Reps.none _ _))); intro v191 w42 ho43 hb hg_ hnew_; clear hg_ hnew_; (first | rw [← Ny190.out] at ho43 | (simp only [Int.reduceToNat] at ho43; rw [← Ny190.out] at ho43)); have n0_ := Aside0.mk (Kd.R_lower ho43 (below_size (by repeat (first | (with_reducible first | exact HB.out | apply below_alloc | apply pw_below_drewN | apply below_drew1) | exact HB.out)))); have n1_ := Aside0.mk (below_step (by repeat (first | (with_reducible first | exact HB.out | apply below_alloc | apply pw_below_drewN | apply below_drew1) | exact HB.out)) hb); clear HB; have HO192 := n0_; have HB := n1_; clear n0_ n1_; clear hb ho43; obtain ⟨Ao44, co44, eo44⟩ := Kd.R_slice HO192.out; subst eo44) | ((with_reducible refine gate_dst (N := 1) rfl ?_); (try (refine gate_guard (by rfl) ?_; dsimp only)); refine box_event ?hg (N := 1) ?hd (cs := #[.string (⟨#[]⟩ : ByteArray), .int .i64 0, .slice none 0 0]) (t := 27) ?hr ?_; (case hd => rfl); (case hg => rfl); (case hr => first | (go_simp; done) | (go_simp; rfl)); intro gb193 hg w45 hbox hb; have n0_ := Aside0.mk (Kd.R_below (by (with_reducible repeat (first | apply Kd.R_alloc | apply Kd.R_drewN | apply Kd.R_drew)); exact HO192.out) hb); have n1_ := Aside0.mk (below_step (by repeat (first | (with_reducible first | exact HB.out | apply below_alloc | apply pw_below_drewN | apply below_drew1) | exact HB.out)) hb); have n2_ := Aside0.mk (hbox); have n3_ := Aside0.mk ((by rw [hg]; exact (below_size (by repeat (first | (with_reducible first | exact HB.out | apply below_alloc | apply pw_below_drewN | apply below_drew1) | exact HB.out))) : w.heap.size ≤ gb193)); have n4_ := Aside0.mk ((by rw [hg]; exact (below_size (by repeat (first | (with_reducible first | exact HB.out | apply below_alloc | apply pw_below_drewN | apply below_drew1) | exact HB.out))) : w.heap.size ≤ gb193)); clear HO192; clear HB; have HO192 := n0_; have HB := n1_; have BK193 := n2_; have GW193 := n3_; have GE193 := n4_; clear n0_ n1_ n2_ n3_ n4_; clear hb hbox hg; have hcz46_0 : w45.cell? ⟨gb193, 0, none⟩ = some (.string (⟨#[]⟩ : ByteArray)) := (blk_cell BK193.out 0).trans rfl; have hcz46_1 : w45.cell? ⟨gb193, 1, none⟩ = some (.int .i64 0) := (blk_cell BK193.out 1).trans rfl; have hcz46_2 : w45.cell? ⟨gb193, 2, none⟩ = some (.slice none 0 0) := (blk_cell BK193.out 2).trans rfl; have hfz46_0 := blk_frozen BK193.out 0; have hfz46_1 := blk_frozen BK193.out 1; have hfz46_2 := blk_frozen BK193.out 2) | ((with_reducible refine gate_callee (f := 39) rfl ?_); refine goesL_ (some 13) rfl rfl Try.func39 (by kernel_rfl) rfl #[.int .i64 5] rfl (by (try simp only [List.map_toArray, List.map_cons, List.map_nil]); first | done | rfl | (simp only [List.length_drop, List.length_take]; rfl)) ?_; (with_reducible refine (towncrierlaw08_Below.calls 5 t194 _ A1.out).mono ?_); rintro e w47 ⟨v195, rfl, ho0, hb⟩; refine ⟨_, rfl, ?_⟩; have n0_ := Aside0.mk (Kd.R_below (by (with_reducible repeat (first | apply Kd.R_alloc | apply Kd.R_drewN | apply Kd.R_drew)); exact (Kd.R_mono (Kd.R_far (p := ⟨gb193, 2, none⟩) (Kd.R_far (p := ⟨gb193, 1, none⟩) (Kd.R_far (p := ⟨gb193, 0, none⟩) (Kd.R_types HO192.out BK193.out (by decide)) (fun _ hk => hk.2) (.string (⟨#[97]⟩ : ByteArray))) (fun _ hk => hk.2) (.int .i64 0)) (fun _ hk => hk.2) (.slice Ao44 y190.length co44)) (fun _ h_ => h_.1))) hb); have n1_ := Aside0.mk (Kd.R_lower ho0 (below_size (by repeat (first | (with_reducible first | exact HB.out | apply below_alloc | apply pw_below_drewN | apply below_drew1 | refine below_set ?_ GE193.out) | exact HB.out)))); have n2_ := Aside0.mk (blk_below (g := gb193) (o := .cells #[.string (⟨#[97]⟩ : ByteArray), .int .i64 0, .slice Ao44 y190.length co44] 27 (0, 0)) (by (with_reducible repeat (first | refine blk_drewN ?_ _ | refine blk_drew ?_ | refine blk_alloc ?_ _)); refine blk_put (cs := #[.string (⟨#[97]⟩ : ByteArray), .int .i64 0, .slice none 0 0]) ?_ 2 _ rfl; (with_reducible repeat (first | refine blk_drewN ?_ _ | refine blk_drew ?_ | refine blk_alloc ?_ _)); refine blk_put (cs := #[.string (⟨#[97]⟩ : ByteArray), .int .i64 0, .slice none 0 0]) ?_ 1 _ rfl; (with_reducible repeat (first | refine blk_drewN ?_ _ | refine blk_drew ?_ | refine blk_alloc ?_ _)); refine blk_put (cs := #[.string (⟨#[]⟩ : ByteArray), .int .i64 0, .slice none 0 0]) ?_ 0 _ rfl; (with_reducible repeat (first | refine blk_drewN ?_ _ | refine blk_drew ?_ | refine blk_alloc ?_ _)); exact BK193.out) hb); have n3_ := Aside0.mk (below_step (by repeat (first | (with_reducible first | exact HB.out | apply below_alloc | apply pw_below_drewN | apply below_drew1 | refine below_set ?_ GE193.out) | exact HB.out)) hb); clear HO192; clear BK193; clear HB; have HO192 := n0_; have HO196 := n1_; have BK193 := n2_; have HB := n3_; clear n0_ n1_ n2_ n3_; (try clear hb); (try clear hb2); (try clear hk); (try clear hi); (try clear ho0); obtain ⟨Ao48, co48, eo48⟩ := Kd.R_slice HO196.out; subst eo48) | ((with_reducible refine gate_callee (f := 21) rfl ?_); refine goesL_ (some 14) rfl rfl Try.func21 (by kernel_rfl) rfl #[.slice Ao48 t194.length co48] rfl (by (try simp only [List.map_toArray, List.map_cons, List.map_nil]); first | done | rfl | (simp only [List.length_drop, List.length_take]; rfl)) ?_; (with_reducible refine (expr_Put.calls k _ _ t194 t197 true _ ?side1 ?side2 A2.out).mono ?_); (case side1 => repeat (first | exact (Kd.R_reads' HO196.out).2.2 | (with_reducible refine Kd.C_alloc ?_ _) | (with_reducible refine Kd.C_drewN ?_ _) | (with_reducible refine Kd.C_drew ?_))); (case side2 => exact (Kd.R_reads' HO196.out).2.1); rintro e w49 ⟨v199, rfl, ho0, hb⟩; refine ⟨_, rfl, ?_⟩; have n0_ := Aside0.mk (Kd.R_below (by (with_reducible repeat (first | apply Kd.R_alloc | apply Kd.R_drewN | apply Kd.R_drew)); exact HO192.out) hb); have n1_ := Aside0.mk (Kd.R_below (by (with_reducible repeat (first | apply Kd.R_alloc | apply Kd.R_drewN | apply Kd.R_drew)); exact HO196.out) hb); have n2_ := Aside0.mk (Kd.R_lower ho0 (below_size (by repeat (first | (with_reducible first | exact HB.out | apply below_alloc | apply pw_below_drewN | apply below_drew1 | refine below_set ?_ GE193.out) | exact HB.out)))); have n3_ := Aside0.mk (blk_below (g := gb193) (o := .cells #[.string (⟨#[97]⟩ : ByteArray), .int .i64 0, .slice Ao44 y190.length co44] 27 (0, 0)) (by (with_reducible repeat (first | refine blk_drewN ?_ _ | refine blk_drew ?_ | refine blk_alloc ?_ _)); exact BK193.out) hb); have n4_ := Aside0.mk (below_step (by repeat (first | (with_reducible first | exact HB.out | apply below_alloc | apply pw_below_drewN | apply below_drew1 | refine below_set ?_ GE193.out) | exact HB.out)) hb); clear HO192; clear HO196; clear BK193; clear HB; have HO192 := n0_; have HO196 := n1_; have HO200 := n2_; have BK193 := n3_; have HB := n4_; clear n0_ n1_ n2_ n3_ n4_; (try clear hb); (try clear hb2); (try clear hk); (try clear hi); (try clear ho0); obtain ⟨Ao50, co50, eo50⟩ := Kd.R_slice HO200.out; subst eo50) | ((with_reducible refine gate_callee (f := 23) rfl ?_); refine goesL_ (some 19) rfl rfl Try.func23 (by kernel_rfl) rfl #[.slice Ao50 t197.length co50] rfl (by (try simp only [List.map_toArray, List.map_cons, List.map_nil]); first | done | rfl | (simp only [List.length_drop, List.length_take]; rfl)) ?_; (with_reducible refine (expr_Get.calls k _ _ t197 t201 t202 true _ ?side1 ?side2 A3.out).mono ?_); (case side1 => repeat (first | exact (Kd.R_reads' HO200.out).2.2 | (with_reducible refine Kd.C_alloc ?_ _) | (with_reducible refine Kd.C_drewN ?_ _) | (with_reducible refine Kd.C_drew ?_))); (case side2 => exact (Kd.R_reads' HO200.out).2.1); rintro e w51 ⟨v204, rfl, ho0, hb⟩; refine ⟨_, rfl, ?_⟩; have n0_ := Aside0.mk (Kd.R_below (by (with_reducible repeat (first | apply Kd.R_alloc | apply Kd.R_drewN | apply Kd.R_drew)); exact HO192.out) hb); have n1_ := Aside0.mk (Kd.R_elder' (by (with_reducible repeat (first | apply Kd.R_alloc | apply Kd.R_drewN | apply Kd.R_drew)); exact HO196.out) (Kd.R_base ho0) hb); have n2_ := Aside0.mk (Kd.R_below (by (with_reducible repeat (first | apply Kd.R_alloc | apply Kd.R_drewN | apply Kd.R_drew)); exact HO200.out) hb); have n3_ := Aside0.mk (Kd.R_lower (Kd.R_new' ho0 (Kd.R_lt (by (with_reducible repeat (first | apply Kd.R_alloc | apply Kd.R_drewN | apply Kd.R_drew)); exact HO196.out))) (below_size (by repeat (first | (with_reducible first | exact HB.out | apply below_alloc | apply pw_below_drewN | apply below_drew1 | refine below_set ?_ GE193.out) | exact HB.out)))); have n4_ := Aside0.mk (blk_below (g := gb193) (o := .cells #[.string (⟨#[97]⟩ : ByteArray), .int .i64 0, .slice Ao44 y190.length co44] 27 (0, 0)) (by (with_reducible repeat (first | refine blk_drewN ?_ _ | refine blk_drew ?_ | refine blk_alloc ?_ _)); exact BK193.out) hb); have n5_ := Aside0.mk (below_step (by repeat (first | (with_reducible first | exact HB.out | apply below_alloc | apply pw_below_drewN | apply below_drew1 | refine below_set ?_ GE193.out) | exact HB.out)) hb); clear HO192; clear HO196; clear HO200; clear BK193; clear HB; have HO192 := n0_; have HO196 := n1_; have HO200 := n2_; have HO205 := n3_; have BK193 := n4_; have HB := n5_; clear n0_ n1_ n2_ n3_ n4_ n5_; (try clear hb); (try clear hb2); (try clear hk); (try clear hi); (try clear ho0)) | ((with_reducible refine gate_dst (N := 25) rfl ?_); (try (refine gate_guard (by rfl) ?_; dsimp only)); refine Kd.R_lit k78 _ 78 ?hg (N := 25) ?hd (xs := ([(⟨(⟨#[120]⟩ : ByteArray), 0⟩ : S78)] : List (S78))) (inner := [.string (⟨#[120]⟩ : ByteArray), .int .i64 0]) (ok := fun _ => True) (okp := fun _ => True) ?hr ?hp (fun _ hk => hk) trivial (Below.refl _ _) (Nat.le_refl _) (by simp) ?_; (case hd => rfl); (case hg => rfl); (case hr => first | (go_simp; done) | (go_simp; rfl)); (case hp => exact (Reps.c2 (show Kd.M k78 _ _ _ (⟨(⟨#[120]⟩ : ByteArray), 0⟩ : S78) [.string (⟨#[120]⟩ : ByteArray), .int .i64 0] from (k78_mkM _ _ _ (⟨(⟨#[120]⟩ : ByteArray), 0⟩ : S78) )) (Reps.none _ _))); intro v207 w52 ho53 hb hg_ hnew_; clear hg_ hnew_; (first | rw [← Ny206.out] at ho53 | (simp only [Int.reduceToNat] at ho53; rw [← Ny206.out] at ho53)); have n0_ := Aside0.mk (Kd.R_below (by (with_reducible repeat (first | apply Kd.R_alloc | apply Kd.R_drewN | apply Kd.R_drew)); exact HO192.out) hb); have n1_ := Aside0.mk (Kd.R_below (by (with_reducible repeat (first | apply Kd.R_alloc | apply Kd.R_drewN | apply Kd.R_drew)); exact HO196.out) hb); have n2_ := Aside0.mk (Kd.R_below (by (with_reducible repeat (first | apply Kd.R_alloc | apply Kd.R_drewN | apply Kd.R_drew)); exact HO200.out) hb); have n3_ := Aside0.mk (Kd.R_below (by (with_reducible repeat (first | apply Kd.R_alloc | apply Kd.R_drewN | apply Kd.R_drew)); exact HO205.out) hb); have n4_ := Aside0.mk (Kd.R_lower ho53 (below_size (by repeat (first | (with_reducible first | exact HB.out | apply below_alloc | apply pw_below_drewN | apply below_drew1 | refine below_set ?_ GE193.out) | exact HB.out)))); have n5_ := Aside0.mk (blk_below (g := gb193) (o := .cells #[.string (⟨#[97]⟩ : ByteArray), .int .i64 0, .slice Ao44 y190.length co44] 27 (0, 0)) (by (with_reducible repeat (first | refine blk_drewN ?_ _ | refine blk_drew ?_ | refine blk_alloc ?_ _)); exact BK193.out) hb); have n6_ := Aside0.mk (below_step (by repeat (first | (with_reducible first | exact HB.out | apply below_alloc | apply pw_below_drewN | apply below_drew1 | refine below_set ?_ GE193.out) | exact HB.out)) hb); clear HO192; clear HO196; clear HO200; clear HO205; clear BK193; clear HB; have HO192 := n0_; have HO196 := n1_; have HO200 := n2_; have HO205 := n3_; have HO208 := n4_; have BK193 := n5_; have HB := n6_; clear n0_ n1_ n2_ n3_ n4_ n5_ n6_; clear hb ho53; obtain ⟨Ao54, co54, eo54⟩ := Kd.R_slice HO208.out; subst eo54) | ((with_reducible refine gate_callee (f := 39) rfl ?_); refine goesL_ (some 27) rfl rfl Try.func39 (by kernel_rfl) rfl #[.int .i64 5] rfl (by (try simp only [List.map_toArray, List.map_cons, List.map_nil]); first | done | rfl | (simp only [List.length_drop, List.length_take]; rfl)) ?_; (with_reducible refine (towncrierlaw08_Below.calls 5 t209 _ A4.out).mono ?_); rintro e w55 ⟨v210, rfl, ho0, hb⟩; refine ⟨_, rfl, ?_⟩; have n0_ := Aside0.mk (Kd.R_below (by (with_reducible repeat (first | apply Kd.R_alloc | apply Kd.R_drewN | apply Kd.R_drew)); exact HO192.out) hb); have n1_ := Aside0.mk (Kd.R_elder' (by (with_reducible repeat (first | apply Kd.R_alloc | apply Kd.R_drewN | apply Kd.R_drew)); exact HO196.out) (Kd.R_base ho0) hb); have n2_ := Aside0.mk (Kd.R_below (by (with_reducible repeat (first | apply Kd.R_alloc | apply Kd.R_drewN | apply Kd.R_drew)); exact HO200.out) hb); have n3_ := Aside0.mk (Kd.R_elder' (by (with_reducible repeat (first | apply Kd.R_alloc | apply Kd.R_drewN | apply Kd.R_drew)); exact HO205.out) (Kd.R_base ho0) hb); have n4_ := Aside0.mk (Kd.R_below (by (with_reducible repeat (first | apply Kd.R_alloc | apply Kd.R_drewN | apply Kd.R_drew)); exact HO208.out) hb); have n5_ := Aside0.mk (Kd.R_lower (Kd.R_new' (Kd.R_new' ho0 (Kd.R_lt (by (with_reducible repeat (first | apply Kd.R_alloc | apply Kd.R_drewN | apply Kd.R_drew)); exact HO196.out))) (Kd.R_lt (by (with_reducible repeat (first | apply Kd.R_alloc | apply Kd.R_drewN | apply Kd.R_drew)); exact HO205.out))) (below_size (by repeat (first | (with_reducible first | exact HB.out | apply below_alloc | apply pw_below_drewN | apply below_drew1 | refine below_set ?_ GE193.out) | exact HB.out)))); have n6_ := Aside0.mk (blk_below (g := gb193) (o := .cells #[.string (⟨#[97]⟩ : ByteArray), .int .i64 0, .slice Ao44 y190.length co44] 27 (0, 0)) (by (with_reducible repeat (first | refine blk_drewN ?_ _ | refine blk_drew ?_ | refine blk_alloc ?_ _)); exact BK193.out) hb); have n7_ := Aside0.mk (below_step (by repeat (first | (with_reducible first | exact HB.out | apply below_alloc | apply pw_below_drewN | apply below_drew1 | refine below_set ?_ GE193.out) | exact HB.out)) hb); clear HO192; clear HO196; clear HO200; clear HO205; clear HO208; clear BK193; clear HB; have HO192 := n0_; have HO196 := n1_; have HO200 := n2_; have HO205 := n3_; have HO208 := n4_; have HO211 := n5_; have BK193 := n6_; have HB := n7_; clear n0_ n1_ n2_ n3_ n4_ n5_ n6_ n7_; (try clear hb); (try clear hb2); (try clear hk); (try clear hi); (try clear ho0); obtain ⟨Ao56, co56, eo56⟩ := Kd.R_slice HO211.out; subst eo56) | ((with_reducible refine gate_callee (f := 17) rfl ?_); refine goesL_ (some 28) rfl rfl Try.func17 (by kernel_rfl) rfl #[.agg #[.string (⟨#[97]⟩ : ByteArray), .int .i64 1, .slice Ao54 y206.length co54], .slice Ao56 t209.length co56] rfl (by (try simp only [List.map_toArray, List.map_cons, List.map_nil]); first | done | rfl | (simp only [List.length_drop, List.length_take]; rfl)) ?_; (with_reducible refine (expr_Kind.calls (⟨#[97]⟩ : ByteArray) 1 _ _ y206 _ _ t209 t212 t213 _ ?side1 ?side2 ?side3 ?side4 A5.out).mono ?_); (case side1 => repeat (first | exact (Kd.R_reads' HO208.out).2.2 | (with_reducible refine Kd.C_alloc ?_ _) | (with_reducible refine Kd.C_drewN ?_ _) | (with_reducible refine Kd.C_drew ?_))); (case side2 => exact (Kd.R_reads' HO208.out).2.1); (case side3 => repeat (first | exact (Kd.R_reads' HO211.out).2.2 | (with_reducible refine Kd.C_alloc ?_ _) | (with_reducible refine Kd.C_drewN ?_ _) | (with_reducible refine Kd.C_drew ?_))); (case side4 => exact (Kd.R_reads' HO211.out).2.1); rintro e w57 ⟨rfl, hb⟩; refine ⟨_, rfl, ?_⟩; have n0_ := Aside0.mk (Kd.R_below (by (with_reducible repeat (first | apply Kd.R_alloc | apply Kd.R_drewN | apply Kd.R_drew)); exact HO192.out) hb); have n1_ := Aside0.mk (Kd.R_below (by (with_reducible repeat (first | apply Kd.R_alloc | apply Kd.R_drewN | apply Kd.R_drew)); exact HO196.out) hb); have n2_ := Aside0.mk (Kd.R_below (by (with_reducible repeat (first | apply Kd.R_alloc | apply Kd.R_drewN | apply Kd.R_drew)); exact HO200.out) hb); have n3_ := Aside0.mk (Kd.R_below (by (with_reducible repeat (first | apply Kd.R_alloc | apply Kd.R_drewN | apply Kd.R_drew)); exact HO205.out) hb); have n4_ := Aside0.mk (Kd.R_below (by (with_reducible repeat (first | apply Kd.R_alloc | apply Kd.R_drewN | apply Kd.R_drew)); exact HO208.out) hb); have n5_ := Aside0.mk (Kd.R_below (by (with_reducible repeat (first | apply Kd.R_alloc | apply Kd.R_drewN | apply Kd.R_drew)); exact HO211.out) hb); have n6_ := Aside0.mk (blk_below (g := gb193) (o := .cells #[.string (⟨#[97]⟩ : ByteArray), .int .i64 0, .slice Ao44 y190.length co44] 27 (0, 0)) (by (with_reducible repeat (first | refine blk_drewN ?_ _ | refine blk_drew ?_ | refine blk_alloc ?_ _)); exact BK193.out) hb); have n7_ := Aside0.mk (below_step (by repeat (first | (with_reducible first | exact HB.out | apply below_alloc | apply pw_below_drewN | apply below_drew1 | refine below_set ?_ GE193.out) | exact HB.out)) hb); clear HO192; clear HO196; clear HO200; clear HO205; clear HO208; clear HO211; clear BK193; clear HB; have HO192 := n0_; have HO196 := n1_; have HO200 := n2_; have HO205 := n3_; have HO208 := n4_; have HO211 := n5_; have BK193 := n6_; have HB := n7_; clear n0_ n1_ n2_ n3_ n4_ n5_ n6_ n7_; (try clear hb); (try clear hb2); (try clear hk); (try clear hi)))
                have n0_ := Aside0.mk (Kd.R_drew HO192.out)
                have n1_ := Aside0.mk (Kd.R_drew HO196.out)
                have n2_ := Aside0.mk (Kd.R_drew HO200.out)
                have n3_ := Aside0.mk (Kd.R_drew HO205.out)
                have n4_ := Aside0.mk (Kd.R_drew HO208.out)
                have n5_ := Aside0.mk (Kd.R_drew HO211.out)
                have n6_ := Aside0.mk (blk_drew BK193.out)
                have n7_ := Aside0.mk (below_drew1 HB.out)
                clear HO192
                clear HO196
                clear HO200
                clear HO205
                clear HO208
                clear HO211
                clear BK193
                clear HB
                have HO192 := n0_
                have HO196 := n1_
                have HO200 := n2_
                have HO205 := n3_
                have HO208 := n4_
                have HO211 := n5_
                have BK193 := n6_
                have HB := n7_
                clear n0_ n1_ n2_ n3_ n4_ n5_ n6_ n7_
                refine start_ (n := 35) (S := fun w' => w'.cell? ⟨gb193, 0, none⟩ = some (.string (⟨#[97]⟩ : ByteArray)) ∧ w'.cell? ⟨gb193, 1, none⟩ = some (.int .i64 0) ∧ w'.cell? ⟨gb193, 2, none⟩ = some (.slice Ao44 y190.length co44)) (ds := []) #[false, false, false, false, false, false, false, false, false, false, false, false, false, false, false, false, false, false, false, false, false, false, false, false, false, false, false, false, false, false, false, false, false, false, false] (by kernel_rfl) rfl rfl ⟨(blk_cell BK193.out 0).trans rfl, (blk_cell BK193.out 1).trans rfl, (blk_cell BK193.out 2).trans rfl⟩ (fun hHeld => ?_); refine with_tabW awakeN.tab5 awakeN.bits5 (fun HT_ HW_ => ?_)
                generalize w57.drew = w58 at HO192 HO196 HO200 HO205 HO208 HO211 BK193 HB hHeld ⊢
                refine take_ (i := 0) (N := some 31) (v := ?_) (a' := ?_) #[true, false, false, false, false, false, false, false, false, false, false, false, false, false, false, false, false, false, false, false, false, false, false, false, false, false, false, false, false, false, false, false, false, false, false] rfl rfl (take_ofW HT_.out HW_.out (by kernel_rfl)) (fun _ _ _ h => h) (Or.inl ⟨by rfl, ?_⟩) hHeld ?_ ?_
                rotate_left
                · rintro w' ⟨s0, s1, s2⟩
                  go_simp
                  with_reducible rfl
                rotate_left
                · simp only [Act.put, List.setIfInBounds_toArray, List.set_cons_zero, List.set_cons_succ, i64_w, i32_w]
                  rfl
                refine one_ (i := 1) (N := some 32) #[true, true, false, false, false, false, false, false, false, false, false, false, false, false, false, false, false, false, false, false, false, false, false, false, false, false, false, false, false, false, false, false, false, false, false] rfl rfl (one_of HT_.out (by kernel_rfl)) (by decide) (fun K hK => ?_)
                refine goes_ Try.func39 (by kernel_rfl) rfl #[.int .i64 5] (by rfl) rfl rfl (by (try simp only [List.map_toArray, List.map_cons, List.map_nil]); first | done | rfl | (simp only [List.length_drop, List.length_take]; rfl)) ?_
                with_reducible refine (towncrierlaw08_Below.calls 5 t214 _ A6.out).mono ?_
                rintro e w59 ⟨v215, rfl, ho0, hb⟩
                refine ⟨_, rfl, ?_⟩
                have n0_ := Aside0.mk (Kd.R_below (by (with_reducible repeat (first | apply Kd.R_alloc | apply Kd.R_drewN | apply Kd.R_drew)); exact HO192.out) hb)
                have n1_ := Aside0.mk (Kd.R_elder' (by (with_reducible repeat (first | apply Kd.R_alloc | apply Kd.R_drewN | apply Kd.R_drew)); exact HO196.out) (Kd.R_base ho0) hb)
                have n2_ := Aside0.mk (Kd.R_below (by (with_reducible repeat (first | apply Kd.R_alloc | apply Kd.R_drewN | apply Kd.R_drew)); exact HO200.out) hb)
                have n3_ := Aside0.mk (Kd.R_elder' (by (with_reducible repeat (first | apply Kd.R_alloc | apply Kd.R_drewN | apply Kd.R_drew)); exact HO205.out) (Kd.R_base ho0) hb)
                have n4_ := Aside0.mk (Kd.R_below (by (with_reducible repeat (first | apply Kd.R_alloc | apply Kd.R_drewN | apply Kd.R_drew)); exact HO208.out) hb)
                have n5_ := Aside0.mk (Kd.R_elder' (by (with_reducible repeat (first | apply Kd.R_alloc | apply Kd.R_drewN | apply Kd.R_drew)); exact HO211.out) (Kd.R_base ho0) hb)
                have n6_ := Aside0.mk (Kd.R_lower (Kd.R_new' (Kd.R_new' (Kd.R_new' ho0 (Kd.R_lt (by (with_reducible repeat (first | apply Kd.R_alloc | apply Kd.R_drewN | apply Kd.R_drew)); exact HO196.out))) (Kd.R_lt (by (with_reducible repeat (first | apply Kd.R_alloc | apply Kd.R_drewN | apply Kd.R_drew)); exact HO205.out))) (Kd.R_lt (by (with_reducible repeat (first | apply Kd.R_alloc | apply Kd.R_drewN | apply Kd.R_drew)); exact HO211.out))) (below_size (by repeat (first | (with_reducible first | exact HB.out | apply below_alloc | apply pw_below_drewN | apply below_drew1 | refine below_set ?_ GE193.out) | exact HB.out))))
                have n7_ := Aside0.mk (blk_below (g := gb193) (o := .cells #[.string (⟨#[97]⟩ : ByteArray), .int .i64 0, .slice Ao44 y190.length co44] 27 (0, 0)) (by (with_reducible repeat (first | refine blk_drewN ?_ _ | refine blk_drew ?_ | refine blk_alloc ?_ _)); exact BK193.out) hb)
                have n8_ := Aside0.mk (below_step (by repeat (first | (with_reducible first | exact HB.out | apply below_alloc | apply pw_below_drewN | apply below_drew1 | refine below_set ?_ GE193.out) | exact HB.out)) hb)
                clear HO192
                clear HO196
                clear HO200
                clear HO205
                clear HO208
                clear HO211
                clear BK193
                clear HB
                have HO192 := n0_
                have HO196 := n1_
                have HO200 := n2_
                have HO205 := n3_
                have HO208 := n4_
                have HO211 := n5_
                have HO216 := n6_
                have BK193 := n7_
                have HB := n8_
                clear n0_ n1_ n2_ n3_ n4_ n5_ n6_ n7_ n8_
                (try clear hb)
                (try clear hb2)
                (try clear hk)
                (try clear hi)
                (try clear ho0)
                obtain ⟨Ao60, co60, eo60⟩ := Kd.R_slice HO216.out
                (first | subst eo60 | (injection eo60 with f1_ f2_ f3_; have f4_ := f1_.symm; have f5_ := f3_.symm; clear f1_ f2_ f3_; subst f4_; subst f5_))
                refine hK.out _ _ ⟨(blk_cell BK193.out 0).trans rfl, (blk_cell BK193.out 1).trans rfl, (blk_cell BK193.out 2).trans rfl⟩ (fun hHeld => ?_)
                clear hK K
                refine norm_ (a' := ?_) ?_ ?_
                rotate_left
                · show Act.put _ (some 32) _ = _
                  simp only [Act.put, List.setIfInBounds_toArray, List.set_cons_zero, List.set_cons_succ, i64_w, i32_w]
                  rfl
                refine one_ (i := 2) (N := some 33) #[true, true, true, false, false, false, false, false, false, false, false, false, false, false, false, false, false, false, false, false, false, false, false, false, false, false, false, false, false, false, false, false, false, false, false] rfl rfl (one_of HT_.out (by kernel_rfl)) (by decide) (fun K hK => ?_)
                refine goes_ Try.func27 (by kernel_rfl) rfl #[.agg #[.string (⟨#[97]⟩ : ByteArray), .int .i64 0, .slice Ao44 y190.length co44], .slice Ao60 t214.length co60] (by rfl) rfl rfl (by (try simp only [List.map_toArray, List.map_cons, List.map_nil]); first | done | rfl | (simp only [List.length_drop, List.length_take]; rfl)) ?_
                with_reducible refine (expr_Holds.calls (⟨#[97]⟩ : ByteArray) 0 _ _ y190 _ _ t214 true _ ?side1 ?side2 ?side3 ?side4 A7.out).mono ?_
                (case side1 => repeat (first | exact (Kd.R_reads' HO192.out).2.2 | (with_reducible refine Kd.C_alloc ?_ _) | (with_reducible refine Kd.C_drewN ?_ _) | (with_reducible refine Kd.C_drew ?_)))
                (case side2 => exact (Kd.R_reads' HO192.out).2.1)
                (case side3 => repeat (first | exact (Kd.R_reads' HO216.out).2.2 | (with_reducible refine Kd.C_alloc ?_ _) | (with_reducible refine Kd.C_drewN ?_ _) | (with_reducible refine Kd.C_drew ?_)))
                (case side4 => exact (Kd.R_reads' HO216.out).2.1)
                rintro e w61 ⟨rfl, hb⟩
                refine ⟨_, rfl, ?_⟩
                have n0_ := Aside0.mk (Kd.R_below (by (with_reducible repeat (first | apply Kd.R_alloc | apply Kd.R_drewN | apply Kd.R_drew)); exact HO192.out) hb)
                have n1_ := Aside0.mk (Kd.R_below (by (with_reducible repeat (first | apply Kd.R_alloc | apply Kd.R_drewN | apply Kd.R_drew)); exact HO196.out) hb)
                have n2_ := Aside0.mk (Kd.R_below (by (with_reducible repeat (first | apply Kd.R_alloc | apply Kd.R_drewN | apply Kd.R_drew)); exact HO200.out) hb)
                have n3_ := Aside0.mk (Kd.R_below (by (with_reducible repeat (first | apply Kd.R_alloc | apply Kd.R_drewN | apply Kd.R_drew)); exact HO205.out) hb)
                have n4_ := Aside0.mk (Kd.R_below (by (with_reducible repeat (first | apply Kd.R_alloc | apply Kd.R_drewN | apply Kd.R_drew)); exact HO208.out) hb)
                have n5_ := Aside0.mk (Kd.R_below (by (with_reducible repeat (first | apply Kd.R_alloc | apply Kd.R_drewN | apply Kd.R_drew)); exact HO211.out) hb)
                have n6_ := Aside0.mk (Kd.R_below (by (with_reducible repeat (first | apply Kd.R_alloc | apply Kd.R_drewN | apply Kd.R_drew)); exact HO216.out) hb)
                have n7_ := Aside0.mk (blk_below (g := gb193) (o := .cells #[.string (⟨#[97]⟩ : ByteArray), .int .i64 0, .slice Ao44 y190.length co44] 27 (0, 0)) (by (with_reducible repeat (first | refine blk_drewN ?_ _ | refine blk_drew ?_ | refine blk_alloc ?_ _)); exact BK193.out) hb)
                have n8_ := Aside0.mk (below_step (by repeat (first | (with_reducible first | exact HB.out | apply below_alloc | apply pw_below_drewN | apply below_drew1 | refine below_set ?_ GE193.out) | exact HB.out)) hb)
                clear HO192
                clear HO196
                clear HO200
                clear HO205
                clear HO208
                clear HO211
                clear HO216
                clear BK193
                clear HB
                have HO192 := n0_
                have HO196 := n1_
                have HO200 := n2_
                have HO205 := n3_
                have HO208 := n4_
                have HO211 := n5_
                have HO216 := n6_
                have BK193 := n7_
                have HB := n8_
                clear n0_ n1_ n2_ n3_ n4_ n5_ n6_ n7_ n8_
                (try clear hb)
                (try clear hb2)
                (try clear hk)
                (try clear hi)
                refine hK.out _ _ ⟨(blk_cell BK193.out 0).trans rfl, (blk_cell BK193.out 1).trans rfl, (blk_cell BK193.out 2).trans rfl⟩ (fun hHeld => ?_)
                clear hK K
                refine norm_ (a' := ?_) ?_ ?_
                rotate_left
                · show Act.put _ (some 33) _ = _
                  simp only [Act.put, List.setIfInBounds_toArray, List.set_cons_zero, List.set_cons_succ, i64_w, i32_w]
                  rfl
                refine pure_ (i := 3) (N := some 34) (v := ?_) (a' := ?_) #[true, true, true, true, false, false, false, false, false, false, false, false, false, false, false, false, false, false, false, false, false, false, false, false, false, false, false, false, false, false, false, false, false, false, false] rfl rfl (any_of HT_.out (by kernel_rfl)) (fun _ _ _ h => h) (Or.inl ⟨by rfl, ?_⟩) ?_ ?_
                rotate_left
                · intro w'
                  go_simp
                  with_reducible rfl
                rotate_left
                · simp only [Act.put, List.setIfInBounds_toArray, List.set_cons_zero, List.set_cons_succ, i64_w, i32_w]
                  rfl
                refine take_ (i := 4) (N := some 35) (v := ?_) (a' := ?_) #[true, true, true, true, true, false, false, false, false, false, false, false, false, false, false, false, false, false, false, false, false, false, false, false, false, false, false, false, false, false, false, false, false, false, false] rfl rfl (take_ofW HT_.out HW_.out (by kernel_rfl)) (fun _ _ _ h => h) (Or.inl ⟨by rfl, ?_⟩) hHeld ?_ ?_
                rotate_left
                · rintro w' ⟨s0, s1, s2⟩
                  go_simp
                  with_reducible rfl
                rotate_left
                · simp only [Act.put, List.setIfInBounds_toArray, List.set_cons_zero, List.set_cons_succ, i64_w, i32_w]
                  rfl
                refine one_ (i := 5) (N := some 36) #[true, true, true, true, true, true, false, false, false, false, false, false, false, false, false, false, false, false, false, false, false, false, false, false, false, false, false, false, false, false, false, false, false, false, false] rfl rfl (one_of HT_.out (by kernel_rfl)) (by decide) (fun K hK => ?_)
                refine goes_ Try.func39 (by kernel_rfl) rfl #[.int .i64 4] (by rfl) rfl rfl (by (try simp only [List.map_toArray, List.map_cons, List.map_nil]); first | done | rfl | (simp only [List.length_drop, List.length_take]; rfl)) ?_
                with_reducible refine (towncrierlaw08_Below.calls 4 t218 _ A9.out).mono ?_
                rintro e w62 ⟨v219, rfl, ho0, hb⟩
                refine ⟨_, rfl, ?_⟩
                have n0_ := Aside0.mk (Kd.R_below (by (with_reducible repeat (first | apply Kd.R_alloc | apply Kd.R_drewN | apply Kd.R_drew)); exact HO192.out) hb)
                have n1_ := Aside0.mk (Kd.R_elder' (by (with_reducible repeat (first | apply Kd.R_alloc | apply Kd.R_drewN | apply Kd.R_drew)); exact HO196.out) (Kd.R_base ho0) hb)
                have n2_ := Aside0.mk (Kd.R_below (by (with_reducible repeat (first | apply Kd.R_alloc | apply Kd.R_drewN | apply Kd.R_drew)); exact HO200.out) hb)
                have n3_ := Aside0.mk (Kd.R_elder' (by (with_reducible repeat (first | apply Kd.R_alloc | apply Kd.R_drewN | apply Kd.R_drew)); exact HO205.out) (Kd.R_base ho0) hb)
                have n4_ := Aside0.mk (Kd.R_below (by (with_reducible repeat (first | apply Kd.R_alloc | apply Kd.R_drewN | apply Kd.R_drew)); exact HO208.out) hb)
                have n5_ := Aside0.mk (Kd.R_elder' (by (with_reducible repeat (first | apply Kd.R_alloc | apply Kd.R_drewN | apply Kd.R_drew)); exact HO211.out) (Kd.R_base ho0) hb)
                have n6_ := Aside0.mk (Kd.R_elder' (by (with_reducible repeat (first | apply Kd.R_alloc | apply Kd.R_drewN | apply Kd.R_drew)); exact HO216.out) (Kd.R_base ho0) hb)
                have n7_ := Aside0.mk (Kd.R_lower (Kd.R_new' (Kd.R_new' (Kd.R_new' (Kd.R_new' ho0 (Kd.R_lt (by (with_reducible repeat (first | apply Kd.R_alloc | apply Kd.R_drewN | apply Kd.R_drew)); exact HO196.out))) (Kd.R_lt (by (with_reducible repeat (first | apply Kd.R_alloc | apply Kd.R_drewN | apply Kd.R_drew)); exact HO205.out))) (Kd.R_lt (by (with_reducible repeat (first | apply Kd.R_alloc | apply Kd.R_drewN | apply Kd.R_drew)); exact HO211.out))) (Kd.R_lt (by (with_reducible repeat (first | apply Kd.R_alloc | apply Kd.R_drewN | apply Kd.R_drew)); exact HO216.out))) (below_size (by repeat (first | (with_reducible first | exact HB.out | apply below_alloc | apply pw_below_drewN | apply below_drew1 | refine below_set ?_ GE193.out) | exact HB.out))))
                have n8_ := Aside0.mk (blk_below (g := gb193) (o := .cells #[.string (⟨#[97]⟩ : ByteArray), .int .i64 0, .slice Ao44 y190.length co44] 27 (0, 0)) (by (with_reducible repeat (first | refine blk_drewN ?_ _ | refine blk_drew ?_ | refine blk_alloc ?_ _)); exact BK193.out) hb)
                have n9_ := Aside0.mk (below_step (by repeat (first | (with_reducible first | exact HB.out | apply below_alloc | apply pw_below_drewN | apply below_drew1 | refine below_set ?_ GE193.out) | exact HB.out)) hb)
                clear HO192
                clear HO196
                clear HO200
                clear HO205
                clear HO208
                clear HO211
                clear HO216
                clear BK193
                clear HB
                have HO192 := n0_
                have HO196 := n1_
                have HO200 := n2_
                have HO205 := n3_
                have HO208 := n4_
                have HO211 := n5_
                have HO216 := n6_
                have HO220 := n7_
                have BK193 := n8_
                have HB := n9_
                clear n0_ n1_ n2_ n3_ n4_ n5_ n6_ n7_ n8_ n9_
                (try clear hb)
                (try clear hb2)
                (try clear hk)
                (try clear hi)
                (try clear ho0)
                obtain ⟨Ao63, co63, eo63⟩ := Kd.R_slice HO220.out
                (first | subst eo63 | (injection eo63 with f1_ f2_ f3_; have f4_ := f1_.symm; have f5_ := f3_.symm; clear f1_ f2_ f3_; subst f4_; subst f5_))
                refine hK.out _ _ ⟨(blk_cell BK193.out 0).trans rfl, (blk_cell BK193.out 1).trans rfl, (blk_cell BK193.out 2).trans rfl⟩ (fun hHeld => ?_)
                clear hK K
                refine norm_ (a' := ?_) ?_ ?_
                rotate_left
                · show Act.put _ (some 36) _ = _
                  simp only [Act.put, List.setIfInBounds_toArray, List.set_cons_zero, List.set_cons_succ, i64_w, i32_w]
                  rfl
                refine one_ (i := 6) (N := some 37) #[true, true, true, true, true, true, true, false, false, false, false, false, false, false, false, false, false, false, false, false, false, false, false, false, false, false, false, false, false, false, false, false, false, false, false] rfl rfl (one_of HT_.out (by kernel_rfl)) (by decide) (fun K hK => ?_)
                refine goes_ Try.func27 (by kernel_rfl) rfl #[.agg #[.string (⟨#[97]⟩ : ByteArray), .int .i64 0, .slice Ao44 y190.length co44], .slice Ao63 t218.length co63] (by rfl) rfl rfl (by (try simp only [List.map_toArray, List.map_cons, List.map_nil]); first | done | rfl | (simp only [List.length_drop, List.length_take]; rfl)) ?_
                with_reducible refine (expr_Holds.calls (⟨#[97]⟩ : ByteArray) 0 _ _ y190 _ _ t218 false _ ?side1 ?side2 ?side3 ?side4 A10.out).mono ?_
                (case side1 => repeat (first | exact (Kd.R_reads' HO192.out).2.2 | (with_reducible refine Kd.C_alloc ?_ _) | (with_reducible refine Kd.C_drewN ?_ _) | (with_reducible refine Kd.C_drew ?_)))
                (case side2 => exact (Kd.R_reads' HO192.out).2.1)
                (case side3 => repeat (first | exact (Kd.R_reads' HO220.out).2.2 | (with_reducible refine Kd.C_alloc ?_ _) | (with_reducible refine Kd.C_drewN ?_ _) | (with_reducible refine Kd.C_drew ?_)))
                (case side4 => exact (Kd.R_reads' HO220.out).2.1)
                rintro e w64 ⟨rfl, hb⟩
                refine ⟨_, rfl, ?_⟩
                have n0_ := Aside0.mk (Kd.R_below (by (with_reducible repeat (first | apply Kd.R_alloc | apply Kd.R_drewN | apply Kd.R_drew)); exact HO192.out) hb)
                have n1_ := Aside0.mk (Kd.R_below (by (with_reducible repeat (first | apply Kd.R_alloc | apply Kd.R_drewN | apply Kd.R_drew)); exact HO196.out) hb)
                have n2_ := Aside0.mk (Kd.R_below (by (with_reducible repeat (first | apply Kd.R_alloc | apply Kd.R_drewN | apply Kd.R_drew)); exact HO200.out) hb)
                have n3_ := Aside0.mk (Kd.R_below (by (with_reducible repeat (first | apply Kd.R_alloc | apply Kd.R_drewN | apply Kd.R_drew)); exact HO205.out) hb)
                have n4_ := Aside0.mk (Kd.R_below (by (with_reducible repeat (first | apply Kd.R_alloc | apply Kd.R_drewN | apply Kd.R_drew)); exact HO208.out) hb)
                have n5_ := Aside0.mk (Kd.R_below (by (with_reducible repeat (first | apply Kd.R_alloc | apply Kd.R_drewN | apply Kd.R_drew)); exact HO211.out) hb)
                have n6_ := Aside0.mk (Kd.R_below (by (with_reducible repeat (first | apply Kd.R_alloc | apply Kd.R_drewN | apply Kd.R_drew)); exact HO216.out) hb)
                have n7_ := Aside0.mk (Kd.R_below (by (with_reducible repeat (first | apply Kd.R_alloc | apply Kd.R_drewN | apply Kd.R_drew)); exact HO220.out) hb)
                have n8_ := Aside0.mk (blk_below (g := gb193) (o := .cells #[.string (⟨#[97]⟩ : ByteArray), .int .i64 0, .slice Ao44 y190.length co44] 27 (0, 0)) (by (with_reducible repeat (first | refine blk_drewN ?_ _ | refine blk_drew ?_ | refine blk_alloc ?_ _)); exact BK193.out) hb)
                have n9_ := Aside0.mk (below_step (by repeat (first | (with_reducible first | exact HB.out | apply below_alloc | apply pw_below_drewN | apply below_drew1 | refine below_set ?_ GE193.out) | exact HB.out)) hb)
                clear HO192
                clear HO196
                clear HO200
                clear HO205
                clear HO208
                clear HO211
                clear HO216
                clear HO220
                clear BK193
                clear HB
                have HO192 := n0_
                have HO196 := n1_
                have HO200 := n2_
                have HO205 := n3_
                have HO208 := n4_
                have HO211 := n5_
                have HO216 := n6_
                have HO220 := n7_
                have BK193 := n8_
                have HB := n9_
                clear n0_ n1_ n2_ n3_ n4_ n5_ n6_ n7_ n8_ n9_
                (try clear hb)
                (try clear hb2)
                (try clear hk)
                (try clear hi)
                refine hK.out _ _ ⟨(blk_cell BK193.out 0).trans rfl, (blk_cell BK193.out 1).trans rfl, (blk_cell BK193.out 2).trans rfl⟩ (fun hHeld => ?_)
                clear hK K
                refine norm_ (a' := ?_) ?_ ?_
                rotate_left
                · show Act.put _ (some 37) _ = _
                  simp only [Act.put, List.setIfInBounds_toArray, List.set_cons_zero, List.set_cons_succ, i64_w, i32_w]
                  rfl
                refine pure_ (i := 7) (N := some 38) (v := ?_) (a' := ?_) #[true, true, true, true, true, true, true, true, false, false, false, false, false, false, false, false, false, false, false, false, false, false, false, false, false, false, false, false, false, false, false, false, false, false, false] rfl rfl (any_of HT_.out (by kernel_rfl)) (fun _ _ _ h => h) (Or.inl ⟨by rfl, ?_⟩) ?_ ?_
                rotate_left
                · intro w'
                  go_simp
                  with_reducible rfl
                rotate_left
                · simp only [Act.put, List.setIfInBounds_toArray, List.set_cons_zero, List.set_cons_succ, i64_w, i32_w]
                  rfl
                refine pure_ (i := 8) (N := some 39) (v := ?_) (a' := ?_) #[true, true, true, true, true, true, true, true, true, false, false, false, false, false, false, false, false, false, false, false, false, false, false, false, false, false, false, false, false, false, false, false, false, false, false] rfl rfl (any_of HT_.out (by kernel_rfl)) (fun _ _ _ h => h) (Or.inl ⟨by rfl, ?_⟩) ?_ ?_
                rotate_left
                · intro w'
                  go_simp
                  with_reducible rfl
                rotate_left
                · simp only [Act.put, List.setIfInBounds_toArray, List.set_cons_zero, List.set_cons_succ, i64_w, i32_w]
                  rfl
                refine pure_ (i := 9) (N := some 40) (v := ?_) (a' := ?_) #[true, true, true, true, true, true, true, true, true, true, false, false, false, false, false, false, false, false, false, false, false, false, false, false, false, false, false, false, false, false, false, false, false, false, false] rfl rfl (any_of HT_.out (by kernel_rfl)) (fun _ _ _ h => h) (Or.inl ⟨by rfl, ?_⟩) ?_ ?_
                rotate_left
                · intro w'
                  go_simp
                  with_reducible rfl
                rotate_left
                · simp only [Act.put, List.setIfInBounds_toArray, List.set_cons_zero, List.set_cons_succ, i64_w, i32_w]
                  rfl
                refine pure_ (i := 10) (N := some 41) (v := ?_) (a' := ?_) #[true, true, true, true, true, true, true, true, true, true, true, false, false, false, false, false, false, false, false, false, false, false, false, false, false, false, false, false, false, false, false, false, false, false, false] rfl rfl (any_of HT_.out (by kernel_rfl)) (fun _ _ _ h => h) (Or.inl ⟨by rfl, ?_⟩) ?_ ?_
                rotate_left
                · intro w'
                  go_simp
                  with_reducible rfl
                rotate_left
                · simp only [Act.put, List.setIfInBounds_toArray, List.set_cons_zero, List.set_cons_succ, i64_w, i32_w]
                  rfl
                refine pure_ (i := 11) (N := some 42) (v := ?_) (a' := ?_) #[true, true, true, true, true, true, true, true, true, true, true, true, false, false, false, false, false, false, false, false, false, false, false, false, false, false, false, false, false, false, false, false, false, false, false] rfl rfl (any_of HT_.out (by kernel_rfl)) (fun _ _ _ h => h) (Or.inl ⟨by rfl, ?_⟩) ?_ ?_
                rotate_left
                · intro w'
                  go_simp
                  with_reducible rfl
                rotate_left
                · simp only [Act.put, List.setIfInBounds_toArray, List.set_cons_zero, List.set_cons_succ, i64_w, i32_w]
                  rfl
                refine pure_ (i := 12) (N := some 43) (v := ?_) (a' := ?_) #[true, true, true, true, true, true, true, true, true, true, true, true, true, false, false, false, false, false, false, false, false, false, false, false, false, false, false, false, false, false, false, false, false, false, false] rfl rfl (any_of HT_.out (by kernel_rfl)) (fun _ _ _ h => h) (Or.inl ⟨by rfl, ?_⟩) ?_ ?_
                rotate_left
                · intro w'
                  go_simp
                  with_reducible rfl
                rotate_left
                · simp only [Act.put, List.setIfInBounds_toArray, List.set_cons_zero, List.set_cons_succ, i64_w, i32_w]
                  rfl
                refine pure_ (i := 13) (N := some 44) (v := ?_) (a' := ?_) #[true, true, true, true, true, true, true, true, true, true, true, true, true, true, false, false, false, false, false, false, false, false, false, false, false, false, false, false, false, false, false, false, false, false, false] rfl rfl (any_of HT_.out (by kernel_rfl)) (fun _ _ _ h => h) (Or.inl ⟨by rfl, ?_⟩) ?_ ?_
                rotate_left
                · intro w'
                  go_simp
                  with_reducible rfl
                rotate_left
                · simp only [Act.put, List.setIfInBounds_toArray, List.set_cons_zero, List.set_cons_succ, i64_w, i32_w]
                  rfl
                refine pure_ (i := 14) (N := some 45) (v := ?_) (a' := ?_) #[true, true, true, true, true, true, true, true, true, true, true, true, true, true, true, false, false, false, false, false, false, false, false, false, false, false, false, false, false, false, false, false, false, false, false] rfl rfl (any_of HT_.out (by kernel_rfl)) (fun _ _ _ h => h) (Or.inl ⟨by rfl, ?_⟩) ?_ ?_
                rotate_left
                · intro w'
                  go_simp
                  with_reducible rfl
                rotate_left
                · simp only [Act.put, List.setIfInBounds_toArray, List.set_cons_zero, List.set_cons_succ, i64_w, i32_w]
                  rfl
                refine pure_ (i := 15) (N := some 46) (v := ?_) (a' := ?_) #[true, true, true, true, true, true, true, true, true, true, true, true, true, true, true, true, false, false, false, false, false, false, false, false, false, false, false, false, false, false, false, false, false, false, false] rfl rfl (any_of HT_.out (by kernel_rfl)) (fun _ _ _ h => h) (Or.inl ⟨by rfl, ?_⟩) ?_ ?_
                rotate_left
                · intro w'
                  go_simp
                  with_reducible rfl
                rotate_left
                · simp only [Act.put, List.setIfInBounds_toArray, List.set_cons_zero, List.set_cons_succ, i64_w, i32_w]
                  rfl
                refine pure_ (i := 16) (N := some 47) (v := ?_) (a' := ?_) #[true, true, true, true, true, true, true, true, true, true, true, true, true, true, true, true, true, false, false, false, false, false, false, false, false, false, false, false, false, false, false, false, false, false, false] rfl rfl (any_of HT_.out (by kernel_rfl)) (fun _ _ _ h => h) (Or.inl ⟨by rfl, ?_⟩) ?_ ?_
                rotate_left
                · intro w'
                  go_simp
                  with_reducible rfl
                rotate_left
                · simp only [Act.put, List.setIfInBounds_toArray, List.set_cons_zero, List.set_cons_succ, i64_w, i32_w]
                  rfl
                refine pure_ (i := 17) (N := some 48) (v := ?_) (a' := ?_) #[true, true, true, true, true, true, true, true, true, true, true, true, true, true, true, true, true, true, false, false, false, false, false, false, false, false, false, false, false, false, false, false, false, false, false] rfl rfl (any_of HT_.out (by kernel_rfl)) (fun _ _ _ h => h) (Or.inl ⟨by rfl, ?_⟩) ?_ ?_
                rotate_left
                · intro w'
                  go_simp
                  with_reducible rfl
                rotate_left
                · simp only [Act.put, List.setIfInBounds_toArray, List.set_cons_zero, List.set_cons_succ, i64_w, i32_w]
                  rfl
                refine pure_ (i := 18) (N := some 49) (v := ?_) (a' := ?_) #[true, true, true, true, true, true, true, true, true, true, true, true, true, true, true, true, true, true, true, false, false, false, false, false, false, false, false, false, false, false, false, false, false, false, false] rfl rfl (any_of HT_.out (by kernel_rfl)) (fun _ _ _ h => h) (Or.inl ⟨by rfl, ?_⟩) ?_ ?_
                rotate_left
                · intro w'
                  go_simp
                  with_reducible rfl
                rotate_left
                · simp only [Act.put, List.setIfInBounds_toArray, List.set_cons_zero, List.set_cons_succ, i64_w, i32_w]
                  rfl
                refine pure_ (i := 19) (N := some 50) (v := ?_) (a' := ?_) #[true, true, true, true, true, true, true, true, true, true, true, true, true, true, true, true, true, true, true, true, false, false, false, false, false, false, false, false, false, false, false, false, false, false, false] rfl rfl (any_of HT_.out (by kernel_rfl)) (fun _ _ _ h => h) (Or.inl ⟨by rfl, ?_⟩) ?_ ?_
                rotate_left
                · intro w'
                  go_simp
                  with_reducible rfl
                rotate_left
                · simp only [Act.put, List.setIfInBounds_toArray, List.set_cons_zero, List.set_cons_succ, i64_w, i32_w]
                  rfl
                refine pure_ (i := 20) (N := some 51) (v := ?_) (a' := ?_) #[true, true, true, true, true, true, true, true, true, true, true, true, true, true, true, true, true, true, true, true, true, false, false, false, false, false, false, false, false, false, false, false, false, false, false] rfl rfl (any_of HT_.out (by kernel_rfl)) (fun _ _ _ h => h) (Or.inl ⟨by rfl, ?_⟩) ?_ ?_
                rotate_left
                · intro w'
                  go_simp
                  with_reducible rfl
                rotate_left
                · simp only [Act.put, List.setIfInBounds_toArray, List.set_cons_zero, List.set_cons_succ, i64_w, i32_w]
                  rfl
                refine pure_ (i := 21) (N := some 52) (v := ?_) (a' := ?_) #[true, true, true, true, true, true, true, true, true, true, true, true, true, true, true, true, true, true, true, true, true, true, false, false, false, false, false, false, false, false, false, false, false, false, false] rfl rfl (any_of HT_.out (by kernel_rfl)) (fun _ _ _ h => h) (Or.inl ⟨by rfl, ?_⟩) ?_ ?_
                rotate_left
                · intro w'
                  go_simp
                  with_reducible rfl
                rotate_left
                · simp only [Act.put, List.setIfInBounds_toArray, List.set_cons_zero, List.set_cons_succ, i64_w, i32_w]
                  rfl
                refine pure_ (i := 22) (N := some 53) (v := ?_) (a' := ?_) #[true, true, true, true, true, true, true, true, true, true, true, true, true, true, true, true, true, true, true, true, true, true, true, false, false, false, false, false, false, false, false, false, false, false, false] rfl rfl (any_of HT_.out (by kernel_rfl)) (fun _ _ _ h => h) (Or.inl ⟨by rfl, ?_⟩) ?_ ?_
                rotate_left
                · intro w'
                  go_simp
                  with_reducible rfl
                rotate_left
                · simp only [Act.put, List.setIfInBounds_toArray, List.set_cons_zero, List.set_cons_succ, i64_w, i32_w]
                  rfl
                refine one_ (i := 23) (N := some 54) #[true, true, true, true, true, true, true, true, true, true, true, true, true, true, true, true, true, true, true, true, true, true, true, true, false, false, false, false, false, false, false, false, false, false, false] rfl rfl (one_of HT_.out (by kernel_rfl)) (by decide) (fun K hK => ?_)
                refine goes_ Try.func39 (by kernel_rfl) rfl #[.int .i64 5] (by rfl) rfl rfl (by (try simp only [List.map_toArray, List.map_cons, List.map_nil]); first | done | rfl | (simp only [List.length_drop, List.length_take]; rfl)) ?_
                with_reducible refine (towncrierlaw08_Below.calls 5 t222 _ A38.out).mono ?_
                rintro e w65 ⟨v223, rfl, ho0, hb⟩
                refine ⟨_, rfl, ?_⟩
                have n0_ := Aside0.mk (Kd.R_below (by (with_reducible repeat (first | apply Kd.R_alloc | apply Kd.R_drewN | apply Kd.R_drew)); exact HO192.out) hb)
                have n1_ := Aside0.mk (Kd.R_elder' (by (with_reducible repeat (first | apply Kd.R_alloc | apply Kd.R_drewN | apply Kd.R_drew)); exact HO196.out) (Kd.R_base ho0) hb)
                have n2_ := Aside0.mk (Kd.R_below (by (with_reducible repeat (first | apply Kd.R_alloc | apply Kd.R_drewN | apply Kd.R_drew)); exact HO200.out) hb)
                have n3_ := Aside0.mk (Kd.R_elder' (by (with_reducible repeat (first | apply Kd.R_alloc | apply Kd.R_drewN | apply Kd.R_drew)); exact HO205.out) (Kd.R_base ho0) hb)
                have n4_ := Aside0.mk (Kd.R_below (by (with_reducible repeat (first | apply Kd.R_alloc | apply Kd.R_drewN | apply Kd.R_drew)); exact HO208.out) hb)
                have n5_ := Aside0.mk (Kd.R_elder' (by (with_reducible repeat (first | apply Kd.R_alloc | apply Kd.R_drewN | apply Kd.R_drew)); exact HO211.out) (Kd.R_base ho0) hb)
                have n6_ := Aside0.mk (Kd.R_elder' (by (with_reducible repeat (first | apply Kd.R_alloc | apply Kd.R_drewN | apply Kd.R_drew)); exact HO216.out) (Kd.R_base ho0) hb)
                have n7_ := Aside0.mk (Kd.R_elder' (by (with_reducible repeat (first | apply Kd.R_alloc | apply Kd.R_drewN | apply Kd.R_drew)); exact HO220.out) (Kd.R_base ho0) hb)
                have n8_ := Aside0.mk (Kd.R_lower (Kd.R_new' (Kd.R_new' (Kd.R_new' (Kd.R_new' (Kd.R_new' ho0 (Kd.R_lt (by (with_reducible repeat (first | apply Kd.R_alloc | apply Kd.R_drewN | apply Kd.R_drew)); exact HO196.out))) (Kd.R_lt (by (with_reducible repeat (first | apply Kd.R_alloc | apply Kd.R_drewN | apply Kd.R_drew)); exact HO205.out))) (Kd.R_lt (by (with_reducible repeat (first | apply Kd.R_alloc | apply Kd.R_drewN | apply Kd.R_drew)); exact HO211.out))) (Kd.R_lt (by (with_reducible repeat (first | apply Kd.R_alloc | apply Kd.R_drewN | apply Kd.R_drew)); exact HO216.out))) (Kd.R_lt (by (with_reducible repeat (first | apply Kd.R_alloc | apply Kd.R_drewN | apply Kd.R_drew)); exact HO220.out))) (below_size (by repeat (first | (with_reducible first | exact HB.out | apply below_alloc | apply pw_below_drewN | apply below_drew1 | refine below_set ?_ GE193.out) | exact HB.out))))
                have n9_ := Aside0.mk (blk_below (g := gb193) (o := .cells #[.string (⟨#[97]⟩ : ByteArray), .int .i64 0, .slice Ao44 y190.length co44] 27 (0, 0)) (by (with_reducible repeat (first | refine blk_drewN ?_ _ | refine blk_drew ?_ | refine blk_alloc ?_ _)); exact BK193.out) hb)
                have n10_ := Aside0.mk (below_step (by repeat (first | (with_reducible first | exact HB.out | apply below_alloc | apply pw_below_drewN | apply below_drew1 | refine below_set ?_ GE193.out) | exact HB.out)) hb)
                clear HO192
                clear HO196
                clear HO200
                clear HO205
                clear HO208
                clear HO211
                clear HO216
                clear HO220
                clear BK193
                clear HB
                have HO192 := n0_
                have HO196 := n1_
                have HO200 := n2_
                have HO205 := n3_
                have HO208 := n4_
                have HO211 := n5_
                have HO216 := n6_
                have HO220 := n7_
                have HO224 := n8_
                have BK193 := n9_
                have HB := n10_
                clear n0_ n1_ n2_ n3_ n4_ n5_ n6_ n7_ n8_ n9_ n10_
                (try clear hb)
                (try clear hb2)
                (try clear hk)
                (try clear hi)
                (try clear ho0)
                obtain ⟨Ao66, co66, eo66⟩ := Kd.R_slice HO205.out
                (first | subst eo66 | (injection eo66 with f1_ f2_ f3_; have f4_ := f1_.symm; have f5_ := f3_.symm; clear f1_ f2_ f3_; subst f4_; subst f5_))
                obtain ⟨Ao67, co67, eo67⟩ := Kd.R_slice HO224.out
                (first | subst eo67 | (injection eo67 with f1_ f2_ f3_; have f4_ := f1_.symm; have f5_ := f3_.symm; clear f1_ f2_ f3_; subst f4_; subst f5_))
                refine hK.out _ _ ⟨(blk_cell BK193.out 0).trans rfl, (blk_cell BK193.out 1).trans rfl, (blk_cell BK193.out 2).trans rfl⟩ (fun hHeld => ?_)
                clear hK K
                refine norm_ (a' := ?_) ?_ ?_
                rotate_left
                · show Act.put _ (some 54) _ = _
                  simp only [Act.put, List.setIfInBounds_toArray, List.set_cons_zero, List.set_cons_succ, i64_w, i32_w]
                  rfl
                refine one_ (i := 24) (N := some 55) #[true, true, true, true, true, true, true, true, true, true, true, true, true, true, true, true, true, true, true, true, true, true, true, true, true, false, false, false, false, false, false, false, false, false, false] rfl rfl (one_of HT_.out (by kernel_rfl)) (by decide) (fun K hK => ?_)
                refine goes_ Try.func28 (by kernel_rfl) rfl #[.slice Ao66 t201.length co66, .slice Ao67 t222.length co67] (by rfl) rfl rfl (by (try simp only [List.map_toArray, List.map_cons, List.map_nil]); first | done | rfl | (simp only [List.length_drop, List.length_take]; rfl)) ?_
                with_reducible refine (expr_Same.calls k _ _ t201 _ _ t222 true _ ?side1 ?side2 ?side3 ?side4 A39.out).mono ?_
                (case side1 => repeat (first | exact (Kd.R_reads' HO205.out).2.2 | (with_reducible refine Kd.C_alloc ?_ _) | (with_reducible refine Kd.C_drewN ?_ _) | (with_reducible refine Kd.C_drew ?_)))
                (case side2 => exact (Kd.R_reads' HO205.out).2.1)
                (case side3 => repeat (first | exact (Kd.R_reads' HO224.out).2.2 | (with_reducible refine Kd.C_alloc ?_ _) | (with_reducible refine Kd.C_drewN ?_ _) | (with_reducible refine Kd.C_drew ?_)))
                (case side4 => exact (Kd.R_reads' HO224.out).2.1)
                rintro e w' ⟨rfl, ⟨nd, rfl⟩⟩
                refine ⟨_, rfl, ?_⟩
                refine hK.out _ _ ⟨(blk_cell BK193.out 0).trans rfl, (blk_cell BK193.out 1).trans rfl, (blk_cell BK193.out 2).trans rfl⟩ (fun hHeld => ?_)
                clear hK K
                refine norm_ (a' := ?_) ?_ ?_
                rotate_left
                · show Act.put _ (some 55) _ = _
                  simp only [Act.put, List.setIfInBounds_toArray, List.set_cons_zero, List.set_cons_succ, i64_w, i32_w]
                  rfl
                refine pure_ (i := 25) (N := some 56) (v := ?_) (a' := ?_) #[true, true, true, true, true, true, true, true, true, true, true, true, true, true, true, true, true, true, true, true, true, true, true, true, true, true, false, false, false, false, false, false, false, false, false] rfl rfl (any_of HT_.out (by kernel_rfl)) (fun _ _ _ h => h) (Or.inl ⟨by rfl, ?_⟩) ?_ ?_
                rotate_left
                · intro w'
                  go_simp
                  with_reducible rfl
                rotate_left
                · simp only [Act.put, List.setIfInBounds_toArray, List.set_cons_zero, List.set_cons_succ, i64_w, i32_w]
                  rfl
                refine pure_ (i := 26) (N := some 57) (v := ?_) (a' := ?_) #[true, true, true, true, true, true, true, true, true, true, true, true, true, true, true, true, true, true, true, true, true, true, true, true, true, true, true, false, false, false, false, false, false, false, false] rfl rfl (any_of HT_.out (by kernel_rfl)) (fun _ _ _ h => h) (Or.inl ⟨by rfl, ?_⟩) ?_ ?_
                rotate_left
                · intro w'
                  go_simp
                  with_reducible rfl
                rotate_left
                · simp only [Act.put, List.setIfInBounds_toArray, List.set_cons_zero, List.set_cons_succ, i64_w, i32_w]
                  rfl
                refine pure_ (i := 27) (N := some 58) (v := ?_) (a' := ?_) #[true, true, true, true, true, true, true, true, true, true, true, true, true, true, true, true, true, true, true, true, true, true, true, true, true, true, true, true, false, false, false, false, false, false, false] rfl rfl (any_of HT_.out (by kernel_rfl)) (fun _ _ _ h => h) (Or.inl ⟨by rfl, ?_⟩) ?_ ?_
                rotate_left
                · intro w'
                  go_simp
                  with_reducible rfl
                rotate_left
                · simp only [Act.put, List.setIfInBounds_toArray, List.set_cons_zero, List.set_cons_succ, i64_w, i32_w]
                  rfl
                refine pure_ (i := 28) (N := some 59) (v := ?_) (a' := ?_) #[true, true, true, true, true, true, true, true, true, true, true, true, true, true, true, true, true, true, true, true, true, true, true, true, true, true, true, true, true, false, false, false, false, false, false] rfl rfl (any_of HT_.out (by kernel_rfl)) (fun _ _ _ h => h) (Or.inl ⟨by rfl, ?_⟩) ?_ ?_
                rotate_left
                · intro w'
                  go_simp
                  with_reducible rfl
                rotate_left
                · simp only [Act.put, List.setIfInBounds_toArray, List.set_cons_zero, List.set_cons_succ, i64_w, i32_w]
                  rfl
                refine pure_ (i := 29) (N := some 60) (v := ?_) (a' := ?_) #[true, true, true, true, true, true, true, true, true, true, true, true, true, true, true, true, true, true, true, true, true, true, true, true, true, true, true, true, true, true, false, false, false, false, false] rfl rfl (any_of HT_.out (by kernel_rfl)) (fun _ _ _ h => h) (Or.inl ⟨by rfl, ?_⟩) ?_ ?_
                rotate_left
                · intro w'
                  go_simp
                  with_reducible rfl
                rotate_left
                · simp only [Act.put, List.setIfInBounds_toArray, List.set_cons_zero, List.set_cons_succ, i64_w, i32_w]
                  rfl
                refine pure_ (i := 30) (N := some 61) (v := ?_) (a' := ?_) #[true, true, true, true, true, true, true, true, true, true, true, true, true, true, true, true, true, true, true, true, true, true, true, true, true, true, true, true, true, true, true, false, false, false, false] rfl rfl (any_of HT_.out (by kernel_rfl)) (fun _ _ _ h => h) (Or.inl ⟨by rfl, ?_⟩) ?_ ?_
                rotate_left
                · intro w'
                  go_simp
                  with_reducible rfl
                rotate_left
                · simp only [Act.put, List.setIfInBounds_toArray, List.set_cons_zero, List.set_cons_succ, i64_w, i32_w]
                  rfl
                refine pure_ (i := 31) (N := some 62) (v := ?_) (a' := ?_) #[true, true, true, true, true, true, true, true, true, true, true, true, true, true, true, true, true, true, true, true, true, true, true, true, true, true, true, true, true, true, true, true, false, false, false] rfl rfl (any_of HT_.out (by kernel_rfl)) (fun _ _ _ h => h) (Or.inl ⟨by rfl, ?_⟩) ?_ ?_
                rotate_left
                · intro w'
                  go_simp
                  with_reducible rfl
                rotate_left
                · simp only [Act.put, List.setIfInBounds_toArray, List.set_cons_zero, List.set_cons_succ, i64_w, i32_w]
                  rfl
                refine pure_ (i := 32) (N := some 63) (v := ?_) (a' := ?_) #[true, true, true, true, true, true, true, true, true, true, true, true, true, true, true, true, true, true, true, true, true, true, true, true, true, true, true, true, true, true, true, true, true, false, false] rfl rfl (any_of HT_.out (by kernel_rfl)) (fun _ _ _ h => h) (Or.inl ⟨by rfl, ?_⟩) ?_ ?_
                rotate_left
                · intro w'
                  go_simp
                  with_reducible rfl
                rotate_left
                · simp only [Act.put, List.setIfInBounds_toArray, List.set_cons_zero, List.set_cons_succ, i64_w, i32_w]
                  rfl
                refine pure_ (i := 33) (N := some 64) (v := ?_) (a' := ?_) #[true, true, true, true, true, true, true, true, true, true, true, true, true, true, true, true, true, true, true, true, true, true, true, true, true, true, true, true, true, true, true, true, true, true, false] rfl rfl (any_of HT_.out (by kernel_rfl)) (fun _ _ _ h => h) (Or.inl ⟨by rfl, ?_⟩) ?_ ?_
                rotate_left
                · intro w'
                  go_simp
                  with_reducible rfl
                rotate_left
                · simp only [Act.put, List.setIfInBounds_toArray, List.set_cons_zero, List.set_cons_succ, i64_w, i32_w]
                  rfl
                refine pure_ (i := 34) (N := some 0) (v := ?_) (a' := ?_) #[true, true, true, true, true, true, true, true, true, true, true, true, true, true, true, true, true, true, true, true, true, true, true, true, true, true, true, true, true, true, true, true, true, true, true] rfl rfl (any_of HT_.out (by kernel_rfl)) (fun _ _ _ h => h) (Or.inl ⟨by rfl, ?_⟩) ?_ ?_
                rotate_left
                · intro w'
                  go_simp
                  with_reducible rfl
                rotate_left
                · simp only [Act.put, List.setIfInBounds_toArray, List.set_cons_zero, List.set_cons_succ, i64_w, i32_w]
                  rfl
                refine done_ (done_of HT_.out (by kernel_rfl)) ?_
                try go_wp2
                go_ret
                exact ⟨by first | rfl | (simp [errW_none, errW_some] <;> rfl) | (simp [*, errW_none, errW_some] <;> rfl), by repeat (first | (with_reducible first | exact HB.out | apply below_alloc | apply pw_below_drewN | apply below_drew1 | refine below_set ?_ GE193.out) | exact HB.out)⟩
              · rw [if_neg c41] at H
                have c41b0 : (t212 == 1) = false := beq_eq_false_iff_ne.mpr c41
                have c41b1 : (t212 != 1) = true := bne_iff_ne.mpr c41
                exact absurd H (by simp)
            · replace c40 := Bool.eq_false_iff.mpr c40
              subst c40
              have H1 : (none) = some r := by rw [if_neg (show ¬ (false = true) by decide)] at H; exact H
              clear H
              have H := H1
              clear H1
              exact absurd H (by simp)
          · rw [if_neg c37] at H
            have c37b0 : (t202 == (t197.length : Int)) = false := beq_eq_false_iff_ne.mpr c37
            have c37b1 : (t202 != (t197.length : Int)) = true := bne_iff_ne.mpr c37
            exact absurd H (by simp)
        · replace c36 := Bool.eq_false_iff.mpr c36
          subst c36
          have H1 : (none) = some r := by rw [if_neg (show ¬ (false = true) by decide)] at H; exact H
          clear H
          have H := H1
          clear H1
          exact absurd H (by simp)
      · replace c35 := Bool.eq_false_iff.mpr c35
        subst c35
        have H1 : (none) = some r := by rw [if_neg (show ¬ (false = true) by decide)] at H; exact H
        clear H
        have H := H1
        clear H1
        exact absurd H (by simp)
  · replace c8 := Bool.eq_false_iff.mpr c8
    subst c8
    have H1 : (none) = some r := by rw [if_neg (show ¬ (false = true) by decide)] at H; exact H
    clear H
    have H := H1
    clear H1
    exact absurd H (by simp)

theorem awakeN.eq : awakeN.f 40 = some true := by kernel_rfl
def towncrierlaw08_awake.f : Option Bool := some true
theorem towncrierlaw08_awake.calls (r : Bool) (w : World) (h : towncrierlaw08_awake.f = some r) :
    Calls Try.prog 13 #[] w fun e w' => e = .returned (.bool r) ∧ Below w.heap.size w w' := by
  obtain rfl := Option.some.inj h
  exact awakeN.calls 40 true w awakeN.eq

end Go.Proofs.Yteommchgnocgnaa.PE
end

section
namespace Go.Proofs.Yteommchgnocgnaa.PE
open Go.RowKit Go.Proofs.YteommchgnocgnaaW.PrintWords Go.Proofs.YteommchgnocgnaaW.PrintLast Go.Proofs.YteommchgnocgnaaW.PrintMore
set_option linter.unusedVariables false
set_option linter.unusedSimpArgs false

/-- Bytes, as numbers. -/
def By (xs : List Int) : Prop := ∀ x ∈ xs, 0 ≤ x ∧ x < 256
theorem By.nil : By [] := fun x h => by cases h
theorem By.drop {xs : List Int} (h : By xs) (n : Nat) : By (xs.drop n) := fun x hx => h x (List.mem_of_mem_drop hx)
theorem By.take {xs : List Int} (h : By xs) (n : Nat) : By (xs.take n) := fun x hx => h x (List.mem_of_mem_take hx)
theorem By.append {xs ys : List Int} (h : By xs) (g : By ys) : By (xs ++ ys) := fun x hx => by
  rcases List.mem_append.1 hx with hx | hx
  · exact h x hx
  · exact g x hx
theorem putL_more {n : Nat} (h : 128 ≤ n) : putL n = ((n : Int) % 128 + 128) :: putL (n / 128) := by
  rw [putL_big h, Go.Lib.u8_or128_any _ (by omega) (by omega)]
  congr 1; omega
theorem By.putL (n : Nat) : By (putL n) := by
  induction n using Nat.strongRecOn with
  | _ n ih =>
    by_cases h : n < 128
    · rw [putL_small h]; intro x hx; rw [List.mem_singleton] at hx; subst hx; omega
    · rw [putL_more (by omega)]
      intro x hx
      rcases List.mem_cons.1 hx with rfl | hx
      · omega
      · exact ih (n / 128) (by omega) x hx
theorem putL_pos (n : Nat) : 1 ≤ (PE.putL n).length := by
  by_cases h : n < 128
  · rw [putL_small h]; simp
  · rw [putL_more (by omega)]; simp
/-- What bytes begin by: a number, and how many bytes it takes; i groups stand ahead. -/
def getN : Nat → List Int → Option (Nat × Nat)
  | _, [] => none
  | i, c :: r => if 10 ≤ i then none else if 128 ≤ c then (getN (i + 1) r).map (fun p => ((c - 128).toNat + 128 * p.1, p.2 + 1)) else if (0 < i ∧ c = 0) ∨ (i = 9 ∧ 1 < c) then none else some (c.toNat, 1)
theorem getN_put (v : Nat) : ∀ (i : Nat) (ys : List Int), v * 128 ^ i < 18446744073709551616 → (0 < i → 0 < v) → getN i (PE.putL v ++ ys) = some (v, (PE.putL v).length) := by
  induction v using Nat.strongRecOn with
  | _ v ih =>
    intro i ys h1 h2
    have hi : i ≤ 9 := by
      by_cases hi : i ≤ 9
      · exact hi
      · have h3 : 128 ^ 10 ≤ 128 ^ i := Nat.pow_le_pow_right (by decide) (by omega)
        have h4 := h2 (by omega)
        have h5 : 1 * 128 ^ i ≤ v * 128 ^ i := Nat.mul_le_mul_right _ h4
        have h6 : (128 : Nat) ^ 10 = 1180591620717411303424 := by decide
        omega
    by_cases h : v < 128
    · rw [putL_small h]
      simp only [List.singleton_append, getN]
      rw [if_neg (by omega), if_neg (by omega), if_neg ?_]
      · simp
      · rintro (⟨h3, h4⟩ | ⟨rfl, h4⟩)
        · have := h2 h3; omega
        · have h6 : (128 : Nat) ^ 9 = 9223372036854775808 := by decide
          rw [h6] at h1; omega
    · rw [putL_more (by omega)]
      simp only [List.cons_append, getN]
      rw [if_neg (by omega), if_pos (by omega), ih (v / 128) (by omega) (i + 1) ys ?_ (fun _ => by omega)]
      · simp only [Option.map_some, List.length_cons, Option.some.injEq, Prod.mk.injEq, and_true]
        omega
      · have h3 : v / 128 * 128 ^ (i + 1) = (v / 128 * 128) * 128 ^ i := by rw [Nat.pow_succ]; ac_rfl
        rw [h3]
        exact Nat.lt_of_le_of_lt (Nat.mul_le_mul_right _ (by omega)) h1
theorem too_big {v : Nat} (h : v * 1180591620717411303424 < 18446744073709551616) : ¬ 0 < v := by omega
theorem getN_got : ∀ (xs : List Int) (i v u : Nat), By xs → getN i xs = some (v, u) → v * 128 ^ i < 18446744073709551616 ∧ (0 < i → 0 < v) ∧ u ≤ xs.length ∧ PE.putL v = xs.take u
  | [], i, v, u, _, h => by simp [getN] at h
  | c :: r, i, v, u, hb, h => by
    have hc := hb c (List.mem_cons_self ..)
    simp only [getN] at h
    by_cases hi : 10 ≤ i
    · rw [if_pos hi] at h; cases h
    rw [if_neg hi] at h
    by_cases hm : 128 ≤ c
    · rw [if_pos hm] at h
      obtain ⟨⟨v', u'⟩, hg, he⟩ := Option.map_eq_some_iff.1 h
      simp only [Prod.mk.injEq] at he
      obtain ⟨rfl, rfl⟩ := he
      obtain ⟨h1, h2, h3, h4⟩ := getN_got r (i + 1) v' u' (fun x hx => hb x (List.mem_cons_of_mem _ hx)) hg
      have hv := h2 (by omega)
      refine ⟨?_, fun _ => by omega, by simp only [List.length_cons]; omega, ?_⟩
      · have e2 : (18446744073709551616 : Nat) = 128 ^ (i + 1) * (2 * 128 ^ (8 - i)) ∨ i = 9 := by
          by_cases h9 : i = 9
          · exact .inr h9
          · left
            have : (18446744073709551616 : Nat) = 2 * 128 ^ 9 := by decide
            rw [this, show (9 : Nat) = (i + 1) + (8 - i) by omega, Nat.pow_add]; ac_rfl
        rcases e2 with e2 | rfl
        · have h1' := Nat.lt_of_lt_of_eq h1 e2
          rw [Nat.mul_comm] at h1'
          have h5 := Nat.lt_of_mul_lt_mul_left h1'
          have h6 : ((c - 128).toNat + 128 * v') < 128 * (2 * 128 ^ (8 - i)) := by omega
          have h7 : ((c - 128).toNat + 128 * v') * 128 ^ i < 128 * (2 * 128 ^ (8 - i)) * 128 ^ i := Nat.mul_lt_mul_of_pos_right h6 (Nat.pow_pos (by decide))
          have h8 : 128 * (2 * 128 ^ (8 - i)) * 128 ^ i = 128 ^ (i + 1) * (2 * 128 ^ (8 - i)) := by rw [Nat.pow_succ]; ac_rfl
          exact Nat.lt_of_lt_of_eq h7 (h8.trans e2.symm)
        · have h6 : (128 : Nat) ^ (9 + 1) = 1180591620717411303424 := by decide
          rw [h6] at h1; exact absurd hv (too_big h1)
      · rw [putL_more (by omega), List.take_succ_cons]
        congr 1
        · omega
        · rw [← h4]; congr 1; omega
    · rw [if_neg hm] at h
      by_cases hz : (0 < i ∧ c = 0) ∨ (i = 9 ∧ 1 < c)
      · rw [if_pos hz] at h; cases h
      rw [if_neg hz] at h
      simp only [Option.some.injEq, Prod.mk.injEq] at h
      obtain ⟨rfl, rfl⟩ := h
      refine ⟨?_, fun h => by omega, by simp, ?_⟩
      · by_cases h9 : i = 9
        · subst h9
          have h6 : (128 : Nat) ^ 9 = 9223372036854775808 := by decide
          rw [h6]; omega
        · have h7 : 128 ^ i ≤ 128 ^ 8 := Nat.pow_le_pow_right (by decide) (by omega)
          have h8 : c.toNat * 128 ^ i ≤ 127 * 128 ^ 8 := Nat.mul_le_mul (by omega) h7
          have h6 : (127 : Nat) * 128 ^ 8 = 9151314442816847872 := by decide
          omega
      · rw [putL_small (by omega)]
        simp only [List.take_succ_cons, List.take_zero, List.cons.injEq, and_true]
        omega
/-- Of a number's bytes the number is got, whatever stands behind. -/
theorem getN_of {n : Nat} (h : n < 18446744073709551616) (ys : List Int) : getN 0 (PE.putL n ++ ys) = some (n, (PE.putL n).length) := getN_put n 0 ys (by simpa using h) (fun h => absurd h (by omega))
theorem getN_is {xs : List Int} {v u : Nat} (hb : By xs) (h : getN 0 xs = some (v, u)) : v < 18446744073709551616 ∧ u ≤ xs.length ∧ PE.putL v = xs.take u := by
  obtain ⟨h1, _, h3, h4⟩ := getN_got xs 0 v u hb h
  exact ⟨by simpa using h1, h3, h4⟩
theorem andNot128 : ∀ c : Fin 256, Go.bits .andNot .u64 ((c.val : Nat) : Int) 128 = ((c.val % 128 : Nat) : Int) := by decide +kernel
theorem andNot_of {c : Int} (h0 : 0 ≤ c) (h1 : c < 256) : Go.bits .andNot .u64 c 128 = c % 128 := by
  have := andNot128 ⟨c.toNat, by omega⟩
  simp only at this
  rw [show ((c.toNat : Nat) : Int) = c by omega] at this
  rw [this]; omega
theorem u64_small {c : Int} (h0 : 0 ≤ c) (h1 : c < 18446744073709551616) : IntKind.u64.wrap c = c := by rw [IntKind.wrap_u64]; omega
theorem rd_mem {xs : List Int} {i : Nat} (h : i < xs.length) : rd xs (i : Int) = xs[i] ∧ xs.drop i = xs[i] :: xs.drop (i + 1) := by
  refine ⟨?_, List.drop_eq_getElem_cons h⟩
  unfold rd; simp [List.getD, h]
/-- A round of le.Get: the number so far, and one group more. -/
theorem group_of {acc c : Int} {i : Nat} (hi : i ≤ 8) (ha : 0 ≤ acc) (ha' : acc < 2 ^ (7 * i)) (h0 : 0 ≤ c) (h1 : c < 256) :
    Go.bits .or .u64 acc (shl .u64 (Go.bits .andNot .u64 c 128) (wrap64 (7 * (i : Int)))) = acc + c % 128 * 2 ^ (7 * i) ∧ acc + c % 128 * 2 ^ (7 * i) < 2 ^ (7 * (i + 1)) := by
  have hp : (0 : Int) < 2 ^ (7 * i) := Int.pow_pos (by decide)
  have hpl : (2 : Int) ^ (7 * i) ≤ 2 ^ 56 := by
    have := Nat.pow_le_pow_right (n := 2) (by decide) (show 7 * i ≤ 56 by omega)
    exact_mod_cast this
  have e56 : (2 : Int) ^ 56 = 72057594037927936 := by decide
  have hc : 0 ≤ c % 128 ∧ c % 128 ≤ 127 := by omega
  have hm : c % 128 * 2 ^ (7 * i) ≤ 127 * 2 ^ (7 * i) := Int.mul_le_mul_of_nonneg_right hc.2 (by omega)
  have hm0 : 0 ≤ c % 128 * 2 ^ (7 * i) := Int.mul_nonneg hc.1 (by omega)
  rw [andNot_of h0 h1]
  have hs : shl .u64 (c % 128) (wrap64 (7 * (i : Int))) = c % 128 * 2 ^ (7 * i) := by
    unfold shl
    rw [show wrap64 (7 * (i : Int)) = 7 * (i : Int) by unfold wrap64; omega, show (7 * (i : Int)).toNat = 7 * i by omega, Nat.min_eq_left (by show 7 * i ≤ 64; omega), u64_small hm0 (by omega)]
  rw [hs]
  refine ⟨Go.bits_join_low .u64 64 (by decide) wraps_u64 (7 * i) acc _ ha ha' (by omega) hm0 (by simp) (by omega), ?_⟩
  rw [show 7 * (i + 1) = 7 * i + 7 by omega, Int.pow_add]
  omega
def gotN (i : Nat) (acc : Int) (r : Option (Nat × Nat)) : Int × Int × Bool := match r with | none => (0, 0, false) | some (v, u) => (acc + v * 2 ^ (7 * i), i + u, true)
theorem le_round (xs : List Int) (hb : By xs) (hlen : xs.length < 4000000000000000000) : ∀ (d k i : Nat) (acc : Int), 10 - i = d → i ≤ 10 → i ≤ xs.length → d < k → 0 ≤ acc → acc < 2 ^ (7 * i) →
    le_Get.l0 k xs acc (mn (xs.length : Int) 10) (i : Int) = some (gotN i acc (getN i (xs.drop i))) := by
  intro d
  induction d with
  | zero =>
    intro k i acc hd hi hl hk h0 h1
    obtain rfl : i = 10 := by omega
    obtain ⟨k, rfl⟩ : ∃ m, k = m + 1 := ⟨k - 1, by omega⟩
    simp only [le_Get.l0]
    rw [if_neg (by unfold mn; omega)]
    cases hx : xs.drop 10 with
    | nil => rfl
    | cons c r => simp only [getN]; rw [if_pos (by omega)]; rfl
  | succ d ih =>
    intro k i acc hd hi hl hk h0 h1
    obtain ⟨k, rfl⟩ : ∃ m, k = m + 1 := ⟨k - 1, by omega⟩
    simp only [le_Get.l0]
    by_cases hx : i < xs.length
    · obtain ⟨e1, e2⟩ := rd_mem hx
      have hc := hb xs[i] (List.getElem_mem hx)
      rw [if_pos (by unfold mn; omega), if_pos (by omega), if_pos (by omega), if_pos (by rw [show wrap64 (7 * (i : Int)) = 7 * (i : Int) by unfold wrap64; omega]; omega), e1, u64_small hc.1 (by omega), e2]
      generalize xs[i] = c at *
      simp only [getN]
      rw [if_neg (show ¬ 10 ≤ i by omega)]
      have ew : wrap64 ((i : Int) + 1) = ((i + 1 : Nat) : Int) := by unfold wrap64; omega
      by_cases hm : 128 ≤ c
      · rw [if_pos hm, if_pos hm, ew]
        by_cases h9 : i = 9
        · subst h9
          obtain ⟨k, rfl⟩ : ∃ m, k = m + 1 := ⟨k - 1, by omega⟩
          simp only [le_Get.l0]
          rw [if_neg (by unfold mn; omega)]
          cases hx : xs.drop (9 + 1) with
          | nil => rfl
          | cons c r => simp only [getN]; rw [if_pos (by omega)]; rfl
        · obtain ⟨g1, g2⟩ := group_of (i := i) (by omega) h0 h1 hc.1 hc.2
          have hm0 : 0 ≤ c % 128 * 2 ^ (7 * i) := Int.mul_nonneg (by omega) (Int.le_of_lt (Int.pow_pos (by decide)))
          rw [g1, ih k (i + 1) _ (by omega) (by omega) (by omega) (by omega) (by omega) g2]
          cases hg : getN (i + 1) (xs.drop (i + 1)) with
          | none => rfl
          | some p =>
            obtain ⟨v, u⟩ := p
            simp only [gotN, Option.map_some, Option.some.injEq, Prod.mk.injEq, and_true]
            refine ⟨?_, by omega⟩
            rw [show 7 * (i + 1) = 7 * i + 7 by omega, Int.pow_add, show (((c - 128).toNat + 128 * v : Nat) : Int) = c % 128 + 128 * (v : Int) by omega, Int.add_mul, show (2 : Int) ^ 7 = 128 by decide]
            have : (v : Int) * (2 ^ (7 * i) * 128) = 128 * v * 2 ^ (7 * i) := by ac_rfl
            omega
      · rw [if_neg hm, if_neg hm]
        have hfin : ¬ ((0 < i ∧ c = 0) ∨ (i = 9 ∧ 1 < c)) → Go.bits .or .u64 acc (shl .u64 (Go.bits .andNot .u64 c 128) (wrap64 (7 * (i : Int)))) = acc + c * 2 ^ (7 * i) := by
          intro hz
          by_cases h9 : i = 9
          · subst h9
            have hp : (2 : Int) ^ (7 * 9) = 9223372036854775808 := by decide
            have hs : shl .u64 (c % 128) (wrap64 (7 * ((9 : Nat) : Int))) = c * 9223372036854775808 := by
              unfold shl
              rw [show wrap64 (7 * ((9 : Nat) : Int)) = 63 by decide +kernel, show min (63 : Int).toNat IntKind.u64.bits = 63 by decide, show (2 : Int) ^ 63 = 9223372036854775808 by decide, u64_small (by omega) (by omega)]
              omega
            rw [andNot_of hc.1 hc.2, hs, hp]
            exact Go.bits_join_low .u64 64 (by decide) wraps_u64 63 acc _ h0 (by rw [show (2 : Int) ^ 63 = 9223372036854775808 by decide]; omega) (by rw [hp] at h1; omega) (by omega) (by rw [show (2 : Int) ^ 63 = 9223372036854775808 by decide]; omega) (by omega)
          · obtain ⟨g1, _⟩ := group_of (i := i) (by omega) h0 h1 hc.1 hc.2
            rw [g1, show c % 128 = c by omega]
        rw [ew]
        by_cases hz : (0 < i ∧ c = 0) ∨ (i = 9 ∧ 1 < c)
        · rw [if_pos hz]
          rcases hz with ⟨z1, z2⟩ | ⟨z1, z2⟩
          · rw [if_pos (by omega), if_pos z2]; rfl
          · by_cases z3 : c = 0
            · omega
            · rw [if_pos (by omega), if_neg z3, if_pos (by omega), if_pos (by omega)]; rfl
        · rw [if_neg hz, hfin hz]
          have hr : (acc + c * 2 ^ (7 * i), ((i + 1 : Nat) : Int), true) = gotN i acc (some (c.toNat, 1)) := by
            simp only [gotN, Prod.mk.injEq, and_true]
            exact ⟨by rw [show ((c.toNat : Nat) : Int) = c by omega], by omega⟩
          rw [← hr]
          by_cases z0 : 0 < i
          · rw [if_pos (by omega), if_neg (by intro h; exact hz (.inl ⟨z0, h⟩))]
            by_cases h9 : i = 9
            · rw [if_pos (by omega), if_neg (by intro h; exact hz (.inr ⟨h9, h⟩))]
            · rw [if_neg (by omega)]
          · rw [if_neg (by omega), if_neg (by omega)]
    · rw [if_neg (by unfold mn; omega), List.drop_eq_nil_of_le (by omega)]
      rfl
/-- le.Get. -/
theorem le_Get_is (xs : List Int) (hb : By xs) (hlen : xs.length < 4000000000000000000) {k : Nat} (hk : 11 ≤ k) : le_Get.f k xs = some (gotN 0 0 (getN 0 xs)) := by
  unfold le_Get.f
  have := le_round xs hb hlen 10 k 0 0 rfl (by omega) (by omega) (by omega) (by omega) (by simp)
  simpa using this
end Go.Proofs.Yteommchgnocgnaa.PE
end

section
namespace Go.Proofs.Yteommchgnocgnaa.PE
section
open Go.RowKit Go.Proofs.YteommchgnocgnaaW.PrintWords Go.Proofs.YteommchgnocgnaaW.PrintLast Go.Proofs.YteommchgnocgnaaW.PrintMore
open Go.ChangeShapes Go.WideShapes Go.Deep Go.Joins
set_option linter.unusedVariables false
set_option linter.unusedSimpArgs false
set_option maxRecDepth 100000

instance : Inhabited S38 := ⟨z38⟩
instance : Inhabited S50 := ⟨z50⟩
instance : Inhabited S78 := ⟨z78⟩
abbrev WFi (n : Int) : Prop := (Lit.int .i64 n).wf = true
def good38 (p : S38) : Prop := WFi p.f0 ∧ WFi p.f1 ∧ p.f2.size ≤ maxLen
def good50 (p : S50) : Prop := WFi p.f0 ∧ WFi p.f1 ∧ good38 p.f2
def good78 (p : S78) : Prop := p.f0.size ≤ maxLen ∧ WFi p.f1
section
variable {H : Type} {enc : TypeId × Value → H} {w : World} {base : Nat} {spare : Nat → Bool} {held : Bool}

theorem cells_T38 {n : Nat} {cs : List Value} {y : DataW H × List MemPlace} (h : DataW.trod enc Try.prog w base spare held n 38 cs = some y) :
    ∃ p : S38, cs = [.int .i64 p.f0, .int .i64 p.f1, .string p.f2] ∧ good38 p := by
  obtain ⟨xs, m, _, _, hcl, hxl, hf⟩ := DataW.trod_struct Try.underlying38 h
  have hc3 : cs.length = 3 := hcl.trans (by kernel_rfl)
  match cs, hc3 with
  | [c0, c1, c2], _ =>
    match xs, hxl with
    | [x0, x1, x2], _ =>
      have h0 : DataW.trod enc Try.prog w base spare held m 3 ((List.drop 0 [c0, c1, c2]).take (Try.prog.cellsOf 3)) = some x0 := hf 0 _ rfl
      have h1 : DataW.trod enc Try.prog w base spare held m 3 ((List.drop 1 [c0, c1, c2]).take (Try.prog.cellsOf 3)) = some x1 := hf 1 _ rfl
      have h2 : DataW.trod enc Try.prog w base spare held m 9 ((List.drop 2 [c0, c1, c2]).take (Try.prog.cellsOf 9)) = some x2 := hf 2 _ rfl
      rw [show Try.prog.cellsOf 3 = 1 from by kernel_rfl] at h0 h1
      rw [show Try.prog.cellsOf 9 = 1 from by kernel_rfl] at h2
      obtain ⟨a, e0, _, w0⟩ := DataW.trod_int Try.underlying3 h0
      obtain ⟨b, e1, _, w1⟩ := DataW.trod_int Try.underlying3 h1
      obtain ⟨s, e2, _, w2⟩ := DataW.trod_string Try.underlying9 h2
      have e0' : c0 = .int .i64 a := by simpa using e0
      have e1' : c1 = .int .i64 b := by simpa using e1
      have e2' : c2 = .string s := by simpa using e2
      exact ⟨⟨a, b, s⟩, by rw [e0', e1', e2'], w0, w1, w2⟩

theorem cells_T78 {n : Nat} {cs : List Value} {y : DataW H × List MemPlace} (h : DataW.trod enc Try.prog w base spare held n 78 cs = some y) :
    ∃ p : S78, cs = [.string p.f0, .int .i64 p.f1] ∧ good78 p := by
  obtain ⟨xs, m, _, _, hcl, hxl, hf⟩ := DataW.trod_struct Try.underlying78 h
  have hc3 : cs.length = 2 := hcl.trans (by kernel_rfl)
  match cs, hc3 with
  | [c0, c1], _ =>
    match xs, hxl with
    | [x0, x1], _ =>
      have h0 : DataW.trod enc Try.prog w base spare held m 9 ((List.drop 0 [c0, c1]).take (Try.prog.cellsOf 9)) = some x0 := hf 0 _ rfl
      have h1 : DataW.trod enc Try.prog w base spare held m 3 ((List.drop 1 [c0, c1]).take (Try.prog.cellsOf 3)) = some x1 := hf 1 _ rfl
      rw [show Try.prog.cellsOf 9 = 1 from by kernel_rfl] at h0
      rw [show Try.prog.cellsOf 3 = 1 from by kernel_rfl] at h1
      obtain ⟨s, e0, _, w0⟩ := DataW.trod_string Try.underlying9 h0
      obtain ⟨b, e1, _, w1⟩ := DataW.trod_int Try.underlying3 h1
      have e0' : c0 = .string s := by simpa using e0
      have e1' : c1 = .int .i64 b := by simpa using e1
      exact ⟨⟨s, b⟩, by rw [e0', e1'], w0, w1⟩

theorem cells_T50 {n : Nat} {cs : List Value} {y : DataW H × List MemPlace} (h : DataW.trod enc Try.prog w base spare held n 50 cs = some y) :
    ∃ p : S50, cs = [.int .i64 p.f0, .int .i64 p.f1, .int .i64 p.f2.f0, .int .i64 p.f2.f1, .string p.f2.f2] ∧ good50 p := by
  obtain ⟨xs, m, _, _, hcl, hxl, hf⟩ := DataW.trod_struct Try.underlying50 h
  have hc3 : cs.length = 5 := hcl.trans (by kernel_rfl)
  match cs, hc3 with
  | [c0, c1, c2, c3, c4], _ =>
    match xs, hxl with
    | [x0, x1, x2], _ =>
      have h0 : DataW.trod enc Try.prog w base spare held m 3 ((List.drop 0 [c0, c1, c2, c3, c4]).take (Try.prog.cellsOf 3)) = some x0 := hf 0 _ rfl
      have h1 : DataW.trod enc Try.prog w base spare held m 3 ((List.drop 1 [c0, c1, c2, c3, c4]).take (Try.prog.cellsOf 3)) = some x1 := hf 1 _ rfl
      have h2 : DataW.trod enc Try.prog w base spare held m 38 ((List.drop 2 [c0, c1, c2, c3, c4]).take (Try.prog.cellsOf 38)) = some x2 := hf 2 _ rfl
      rw [show Try.prog.cellsOf 3 = 1 from by kernel_rfl] at h0 h1
      rw [show Try.prog.cellsOf 38 = 3 from by kernel_rfl] at h2
      obtain ⟨a, e0, _, w0⟩ := DataW.trod_int Try.underlying3 h0
      obtain ⟨b, e1, _, w1⟩ := DataW.trod_int Try.underlying3 h1
      obtain ⟨v, e2, w2⟩ := cells_T38 h2
      have e0' : c0 = .int .i64 a := by simpa using e0
      have e1' : c1 = .int .i64 b := by simpa using e1
      have e2' : [c2, c3, c4] = [.int .i64 v.f0, .int .i64 v.f1, .string v.f2] := by simpa using e2
      simp only [List.cons.injEq, and_true] at e2'
      exact ⟨⟨a, b, v⟩, by rw [e0', e1', e2'.1, e2'.2.1, e2'.2.2], w0, w1, w2⟩

/-- A slice of such elements, opened to a row. -/
theorem open_rowC {α : Type} [Inhabited α] (d : Kd α) (good : α → Prop) {t e : TypeId} {fuel : Nat} {cs : List Value} {x : DataW H × List MemPlace} (ht : Try.prog.underlying t = some (.slice e)) (hC : Try.prog.cellsOf e = d.sz)
    (hel : ∀ (n : Nat) (cs : List Value) (y : DataW H × List MemPlace), DataW.trod enc Try.prog w base spare held n e cs = some y → ∃ p, d.K w p cs ∧ good p)
    (h : DataW.trod enc Try.prog w base spare held fuel t cs = some x) :
    ∃ (A : Option Addr) (cap : Nat) (vs : List α), cs = [.slice A vs.length cap] ∧ vs.length ≤ cap ∧ Kd.C d w A vs.length vs ∧ ∀ p ∈ vs, good p := by
  rcases open_slice ht h with ⟨h0, _⟩ | ⟨a, len, cap, m, n, D, Pl, hcs, hb, hl, hm, hmm, hx, hi⟩
  · exact ⟨none, 0, [], h0, Nat.le_refl _, ⟨rfl, by simp, fun h => absurd h (by simp)⟩, fun p hp => by cases hp⟩
  · have hlm : len ≤ m := by rw [hmm]; split <;> omega
    have hex : ∀ i, i < len → ∃ p : α, good p ∧ ∃ c : List Value, c.length = d.sz ∧ d.K w p c ∧ ∀ j u, c[j]? = some u → w.cell? (a.add (i * d.sz + j)) = some u := by
      intro i hil
      obtain ⟨cs', hc, ht'⟩ := hi i (by omega)
      obtain ⟨p, hk, hg⟩ := hel _ _ _ ht'
      rw [hC] at hc
      obtain ⟨_, hcl, hat⟩ := World.cells?_some hc
      refine ⟨p, hg, cs', hcl, hk, fun j u hu => ?_⟩
      have hj : j < d.sz := by
        have := (List.getElem?_eq_some_iff.1 hu).1
        omega
      have := hat j hj
      rw [← Go.Deep.add_add, this, hu]
    obtain ⟨f, hf⟩ := choose_lt hex
    refine ⟨some a, cap, (List.range len).map f, by rw [hcs]; simp, by simpa using hl, ⟨rfl, ?_, fun hn => ⟨a, rfl, fun j p hj => ?_⟩⟩, fun p hp => ?_⟩
    · have : len ≤ maxLen := Nat.le_trans hl hm
      simp only [List.length_map, List.length_range]
      exact Nat.le_trans this (by decide)
    · rw [List.getElem?_map] at hj
      have hjl : j < len := by
        by_cases hjl : j < len
        · exact hjl
        · rw [List.getElem?_eq_none (by simp; omega)] at hj; cases hj
      rw [List.getElem?_range hjl] at hj
      simp only [Option.map_some, Option.some.injEq] at hj
      subst hj
      exact (hf j hjl).2
    · rw [List.mem_map] at hp
      obtain ⟨i, hi', rfl⟩ := hp
      exact (hf i (List.mem_range.1 hi')).1
theorem open_vals {fuel : Nat} {cs : List Value} {x : DataW H × List MemPlace} (h : DataW.trod enc Try.prog w base spare held fuel 25 cs = some x) :
    ∃ (A : Option Addr) (cap : Nat) (vs : List S38), cs = [.slice A vs.length cap] ∧ vs.length ≤ cap ∧ Kd.C k38 w A vs.length vs ∧ ∀ p ∈ vs, good38 p :=
  open_rowC k38 good38 Try.underlying25 (by kernel_rfl) (fun n cs y hy => by obtain ⟨p, rfl, hg⟩ := cells_T38 hy; exact ⟨p, k38_mk w p, hg⟩) h
theorem open_ops {fuel : Nat} {cs : List Value} {x : DataW H × List MemPlace} (h : DataW.trod enc Try.prog w base spare held fuel 28 cs = some x) :
    ∃ (A : Option Addr) (cap : Nat) (vs : List S50), cs = [.slice A vs.length cap] ∧ vs.length ≤ cap ∧ Kd.C k50 w A vs.length vs ∧ ∀ p ∈ vs, good50 p :=
  open_rowC k50 good50 Try.underlying28 (by kernel_rfl) (fun n cs y hy => by obtain ⟨p, rfl, hg⟩ := cells_T50 hy; exact ⟨p, k50_mk w p, hg⟩) h
theorem open_flds {fuel : Nat} {cs : List Value} {x : DataW H × List MemPlace} (h : DataW.trod enc Try.prog w base spare held fuel 22 cs = some x) :
    ∃ (A : Option Addr) (cap : Nat) (vs : List S78), cs = [.slice A vs.length cap] ∧ vs.length ≤ cap ∧ Kd.C k78 w A vs.length vs ∧ ∀ p ∈ vs, good78 p :=
  open_rowC k78 good78 Try.underlying22 (by kernel_rfl) (fun n cs y hy => by obtain ⟨p, rfl, hg⟩ := cells_T78 hy; exact ⟨p, k78_mk w p, hg⟩) h
theorem open_event {r : Reach} {b0 : Nat} {v : Value} {d : DataW H} {p : List MemPlace} (hv : Value.okWide Try.prog w r b0 27 v) (h : DataW.Trod enc Try.prog w base spare held 27 v d p) :
    ∃ (nm : ByteArray) (at_ : Int) (A : Option Addr) (cap : Nat) (vs : List S38), v = .agg #[.string nm, .int .i64 at_, .slice A vs.length cap] ∧ vs.length ≤ cap ∧ Kd.C k38 w A vs.length vs ∧ (∀ p ∈ vs, good38 p) ∧ nm.size ≤ maxLen ∧ WFi at_ := by
  obtain ⟨v0, v1, v2, y0, y1, y2, n, rfl, _, _, h0, h1, h2⟩ := open_agg3 Try.underlying27 (by kernel_rfl) (by kernel_rfl) hv h
  obtain ⟨s, e0, _, w0⟩ := DataW.trod_string Try.underlying9 h0
  obtain ⟨a, e1, _, w1⟩ := DataW.trod_int Try.underlying3 h1
  obtain ⟨A, cap, vs, e2, hl, hc, hg⟩ := open_vals h2
  simp only [List.cons.injEq, and_true] at e0 e1 e2
  exact ⟨s, a, A, cap, vs, by rw [e0, e1, e2], hl, hc, hg, w0, w1⟩
theorem open_schema {r : Reach} {b0 : Nat} {v : Value} {d : DataW H} {p : List MemPlace} (hv : Value.okWide Try.prog w r b0 24 v) (h : DataW.Trod enc Try.prog w base spare held 24 v d p) :
    ∃ (nm : ByteArray) (at_ : Int) (A : Option Addr) (cap : Nat) (vs : List S78), v = .agg #[.string nm, .int .i64 at_, .slice A vs.length cap] ∧ vs.length ≤ cap ∧ Kd.C k78 w A vs.length vs ∧ (∀ p ∈ vs, good78 p) ∧ nm.size ≤ maxLen ∧ WFi at_ := by
  obtain ⟨v0, v1, v2, y0, y1, y2, n, rfl, _, _, h0, h1, h2⟩ := open_agg3 Try.underlying24 (by kernel_rfl) (by kernel_rfl) hv h
  obtain ⟨s, e0, _, w0⟩ := DataW.trod_string Try.underlying9 h0
  obtain ⟨a, e1, _, w1⟩ := DataW.trod_int Try.underlying3 h1
  obtain ⟨A, cap, vs, e2, hl, hc, hg⟩ := open_flds h2
  simp only [List.cons.injEq, and_true] at e0 e1 e2
  exact ⟨s, a, A, cap, vs, by rw [e0, e1, e2], hl, hc, hg, w0, w1⟩
theorem open_value {r : Reach} {b0 : Nat} {v : Value} {d : DataW H} {p : List MemPlace} (hv : Value.okWide Try.prog w r b0 38 v) (h : DataW.Trod enc Try.prog w base spare held 38 v d p) :
    ∃ (q : S38), v = .agg #[.int .i64 q.f0, .int .i64 q.f1, .string q.f2] ∧ good38 q := by
  obtain ⟨v0, v1, v2, y0, y1, y2, n, rfl, _, _, h0, h1, h2⟩ := open_agg3 Try.underlying38 (by kernel_rfl) (by kernel_rfl) hv h
  obtain ⟨a, e0, _, w0⟩ := DataW.trod_int Try.underlying3 h0
  obtain ⟨b, e1, _, w1⟩ := DataW.trod_int Try.underlying3 h1
  obtain ⟨s, e2, _, w2⟩ := DataW.trod_string Try.underlying9 h2
  simp only [List.cons.injEq, and_true] at e0 e1 e2
  exact ⟨⟨a, b, s⟩, by rw [e0, e1, e2], w0, w1, w2⟩
theorem open_opsV {r : Reach} {b0 : Nat} {v : Value} {d : DataW H} {p : List MemPlace} (hv : Value.okWide Try.prog w r b0 28 v) (h : DataW.Trod enc Try.prog w base spare held 28 v d p) :
    ∃ (A : Option Addr) (cap : Nat) (vs : List S50), v = .slice A vs.length cap ∧ vs.length ≤ cap ∧ Kd.C k50 w A vs.length vs ∧ ∀ p ∈ vs, good50 p := by
  obtain ⟨a, len, cap, rfl⟩ := okWide_slice Try.underlying28 hv
  obtain ⟨fuel, hf⟩ := h
  obtain ⟨A, c, vs, e, hl, hc, hg⟩ := open_ops hf
  have e' : Value.slice a len cap = .slice A vs.length c := by simpa [Value.cells] using e
  exact ⟨A, c, vs, e', hl, hc, hg⟩
end
end

section
open Go.RowKit Go.Proofs.YteommchgnocgnaaW.PrintWords Go.Proofs.YteommchgnocgnaaW.PrintLast Go.Proofs.YteommchgnocgnaaW.PrintMore
set_option linter.unusedVariables false
set_option linter.unusedSimpArgs false

theorem nameA : nameB ⟨#[97]⟩ = true := by decide +kernel
theorem mayEvA : mayEv ⟨#[97]⟩ 0 [] = true := by decide +kernel
theorem mayB_int (n : Int) : mayB 0 n ⟨#[]⟩ = true := by kernel_rfl
theorem opOk_push (n : Int) : opOk 0 0 0 n ⟨#[]⟩ = true := by kernel_rfl
theorem opOk_sum {c : Int} (h : c = 2 ∨ c = 3 ∨ c = 4) : opOk c 0 0 0 ⟨#[]⟩ = true := by
  rcases h with rfl | rfl | rfl <;> kernel_rfl
theorem twoT_num {c : Int} (hc : c ≠ 6 ∧ c ≠ 5 ∧ ¬ (c = 7 ∨ c = 8)) (p q : Int) : twoT c (.num p) (.num q) = if (sumT c p q).2 = true then (some (.num (sumT c p q).1), 0) else (none, 6) := by
  unfold twoT
  rw [if_pos (show tK (Thing.num p) = tK (Thing.num q) from rfl), if_neg hc.1, if_neg hc.2.1, if_neg hc.2.2]
theorem evalE_sum (a b c : Int) (h : c = 2 ∨ c = 3 ∨ c = 4) :
    evalE ⟨#[97]⟩ 0 [] [⟨0, 0, ⟨0, a, ⟨#[]⟩⟩⟩, ⟨0, 0, ⟨0, b, ⟨#[]⟩⟩⟩, ⟨c, 0, ⟨0, 0, ⟨#[]⟩⟩⟩] = if (sumT c a b).2 = true then (0, (sumT c a b).1, ⟨#[]⟩, 0) else (0, 0, ⟨#[]⟩, 6) := by
  have h1 : mayE [⟨0, 0, ⟨0, a, ⟨#[]⟩⟩⟩, ⟨0, 0, ⟨0, b, ⟨#[]⟩⟩⟩, ⟨c, 0, ⟨0, 0, ⟨#[]⟩⟩⟩] = true := by
    unfold mayE opBad
    simp [opOk_push, opOk_sum h]
  unfold evalE
  rw [if_pos h1, if_pos mayEvA]
  have hc : c ≠ 0 ∧ c ≠ 1 ∧ c ≠ 9 ∧ c ≠ 6 ∧ c ≠ 5 ∧ ¬ (c = 7 ∨ c = 8) := by omega
  cases hs : (sumT c a b).2 <;>
  simp [evalT, throughL, partL, laid2, twoT_num hc.2.2.2, thingOf, hc, tK, tN, tS, hs]

theorem int_bounds {n : Int} (h : (Lit.int .i64 n).wf = true) : -9223372036854775808 ≤ n ∧ n < 9223372036854775808 := by
  have h1 : (decide (IntKind.i64.min ≤ n) && decide (n ≤ IntKind.i64.max)) = true := h
  rw [Bool.and_eq_true] at h1
  have a := of_decide_eq_true h1.1
  have b := of_decide_eq_true h1.2
  have e1 : IntKind.i64.min = -9223372036854775808 := by decide +kernel
  have e2 : IntKind.i64.max = 9223372036854775807 := by decide +kernel
  omega

theorem wrap64_id {n : Int} (h1 : -9223372036854775808 ≤ n) (h2 : n < 9223372036854775808) : wrap64 n = n := by unfold wrap64; omega
theorem wrap64_eq (n : Int) : ∃ q : Int, wrap64 n = n + q * 18446744073709551616 := ⟨-((n + 9223372036854775808) / 18446744073709551616), by unfold wrap64; omega⟩
theorem wrap64_lo (n : Int) : -9223372036854775808 ≤ wrap64 n := by unfold wrap64; omega
theorem wrap64_hi (n : Int) : wrap64 n < 9223372036854775808 := by unfold wrap64; omega

theorem sum_plus {a b : Int} (ha : -9223372036854775808 ≤ a) (ha' : a < 9223372036854775808) (hb : -9223372036854775808 ≤ b) (hb' : b < 9223372036854775808) :
    ((sumT 2 a b).2 = true → wrap64 ((sumT 2 a b).1 - b) = a ∧ (decide (b ≥ 0) == decide ((sumT 2 a b).1 ≥ a)) = true) ∧
    ((sumT 2 a b).2 ≠ true → ¬ (a < 1073741824 ∧ a > -1073741824 ∧ b < 1073741824 ∧ b > -1073741824)) := by
  have e : sumT 2 a b = (wrap64 (a + b), (decide (wrap64 (a + b) > a) == decide (b > 0))) := rfl
  rw [e]
  simp only [ne_eq, beq_iff_eq, decide_eq_decide]
  unfold wrap64
  refine ⟨fun h => ⟨by omega, ?_⟩, fun h => ?_⟩ <;> omega
theorem sum_minus {a b : Int} (ha : -9223372036854775808 ≤ a) (ha' : a < 9223372036854775808) (hb : -9223372036854775808 ≤ b) (hb' : b < 9223372036854775808) :
    ((sumT 3 a b).2 = true → wrap64 ((sumT 3 a b).1 + b) = a ∧ (decide (b ≥ 0) == decide ((sumT 3 a b).1 ≤ a)) = true) ∧
    ((sumT 3 a b).2 ≠ true → ¬ (a < 1073741824 ∧ a > -1073741824 ∧ b < 1073741824 ∧ b > -1073741824)) := by
  have e : sumT 3 a b = (wrap64 (a - b), (decide (wrap64 (a - b) < a) == decide (b > 0))) := rfl
  rw [e]
  simp only [ne_eq, beq_iff_eq, decide_eq_decide]
  unfold wrap64
  refine ⟨fun h => ⟨by omega, ?_⟩, fun h => ?_⟩ <;> omega
theorem tdiv_small {n b : Int} : -(n.natAbs : Int) ≤ n.tdiv b ∧ n.tdiv b ≤ n.natAbs := by
  have h := Int.natAbs_tdiv n b
  have h2 : (n.tdiv b).natAbs ≤ n.natAbs := by rw [h]; exact Nat.div_le_self _ _
  omega
theorem sum_times {a b : Int} (ha : -9223372036854775808 ≤ a) (ha' : a < 9223372036854775808) (hb : -9223372036854775808 ≤ b) (hb' : b < 9223372036854775808) :
    ((sumT 4 a b).2 = true → (b = 0 → (sumT 4 a b).1 = 0) ∧ (b ≠ 0 → wrap64 ((sumT 4 a b).1.tdiv b) = a ∧ (sumT 4 a b).1.tmod b = 0)) ∧
    ((sumT 4 a b).2 ≠ true → ¬ (a < 1073741824 ∧ a > -1073741824 ∧ b < 1073741824 ∧ b > -1073741824)) := by
  by_cases a0 : a = 0
  · subst a0
    have e : sumT 4 0 b = (0, true) := rfl
    rw [e]
    refine ⟨fun _ => ⟨fun _ => rfl, fun _ => ⟨?_, ?_⟩⟩, fun h => absurd rfl h⟩
    · rw [Int.zero_tdiv]; exact wrap64_id (by omega) (by omega)
    · exact Int.zero_tmod b
  by_cases b0 : b = 0
  · subst b0
    have e : sumT 4 a 0 = (0, true) := by unfold sumT expr_sum.f; simp [a0]
    rw [e]
    exact ⟨fun _ => ⟨fun _ => rfl, fun h => absurd rfl h⟩, fun h => absurd rfl h⟩
  have e : sumT 4 a b = (wrap64 (a * b), decide (wrap64 ((wrap64 (a * b)).tdiv b) = a ∧ ¬ (b = -1 ∧ a = wrap64 (a * b)) ∧ ¬ (a = -1 ∧ b = wrap64 (a * b)))) := by
    unfold sumT expr_sum.f
    rw [if_neg (by decide), if_neg (by decide), if_neg a0, if_neg b0]
    by_cases h1 : wrap64 ((wrap64 (a * b)).tdiv b) = a
    · rw [if_pos h1]
      by_cases h2 : b = -1
      · rw [if_pos h2]
        by_cases h3 : a = wrap64 (a * b)
        · rw [if_pos h3]; rw [decide_eq_false (by intro h; exact h.2.1 ⟨h2, h3⟩)]; rfl
        · rw [if_neg h3]
          by_cases h4 : a = -1
          · rw [if_pos h4]
            by_cases h5 : b = wrap64 (a * b)
            · rw [decide_eq_false (by intro h; exact h.2.2 ⟨h4, h5⟩)]; simp [← h5]
            · rw [decide_eq_true ⟨h1, fun h => h3 h.2, fun h => h5 h.2⟩]; simp [h5]
          · rw [if_neg h4, decide_eq_true ⟨h1, fun h => h3 h.2, fun h => h4 h.1⟩]; rfl
      · rw [if_neg h2]
        by_cases h4 : a = -1
        · rw [if_pos h4]
          by_cases h5 : b = wrap64 (a * b)
          · rw [decide_eq_false (by intro h; exact h.2.2 ⟨h4, h5⟩)]; simp [← h5]
          · rw [decide_eq_true ⟨h1, fun h => h2 h.1, fun h => h5 h.2⟩]; simp [h5]
        · rw [if_neg h4, decide_eq_true ⟨h1, fun h => h2 h.1, fun h => h4 h.1⟩]; rfl
    · rw [if_neg h1, decide_eq_false (by intro h; exact h1 h.1)]; rfl
  rw [e]
  have hlo := wrap64_lo (a * b)
  have hhi := wrap64_hi (a * b)
  obtain ⟨q, hq⟩ := wrap64_eq (a * b)
  refine ⟨fun h => ⟨fun h' => absurd h' b0, fun _ => ?_⟩, fun h hs => ?_⟩
  · obtain ⟨h1, h2, h3⟩ := of_decide_eq_true h
    refine ⟨h1, ?_⟩
    show (wrap64 (a * b)).tmod b = 0
    generalize hn : wrap64 (a * b) = n at *
    have hts := @tdiv_small n b
    have hdm := Int.mul_tdiv_add_tmod n b
    have hml : n.tmod b < b.natAbs ∧ -(b.natAbs : Int) < n.tmod b := by
      have hm := Int.natAbs_tmod n b
      have hb1 : 0 < b.natAbs := by omega
      have := Nat.mod_lt n.natAbs hb1
      omega
    have ht : n.tdiv b = a := by
      by_cases hx : n.tdiv b < 9223372036854775808
      · rw [wrap64_id (by omega) hx] at h1; exact h1
      · exfalso
        have hn1 : n = -9223372036854775808 := by omega
        have ht1 : n.tdiv b = 9223372036854775808 := by omega
        rw [ht1] at h1
        have ha1 : a = -9223372036854775808 := by rw [← h1]; unfold wrap64; omega
        have hnat : n.natAbs / b.natAbs = 9223372036854775808 := by
          have := Int.natAbs_tdiv n b
          rw [ht1] at this; exact this.symm
        have hb2 : b.natAbs = 1 := by
          have h5 : n.natAbs = 9223372036854775808 := by omega
          rw [h5] at hnat
          have h6 := Nat.div_mul_le_self 9223372036854775808 b.natAbs
          rw [hnat] at h6
          omega
        have hb3 : b = 1 ∨ b = -1 := by omega
        rcases hb3 with hb3 | hb3
        · subst hb3; rw [Int.tdiv_one] at ht1; omega
        · exact h2 ⟨hb3, by omega⟩
    rw [ht] at hdm
    have : n.tmod b = q * 18446744073709551616 := by
      have : b * a = a * b := Int.mul_comm _ _
      omega
    omega
  · apply h
    obtain ⟨s1, s2, s3, s4⟩ := hs
    have hm : (a * b).natAbs ≤ 1073741824 * 1073741824 := by
      rw [Int.natAbs_mul]
      exact Nat.mul_le_mul (by omega) (by omega)
    have hw : wrap64 (a * b) = a * b := wrap64_id (by omega) (by omega)
    apply decide_eq_true
    rw [hw, Int.mul_tdiv_cancel _ b0, wrap64_id ha ha']
    refine ⟨rfl, fun h => ?_, fun h => ?_⟩
    · obtain ⟨rfl, h⟩ := h; omega
    · obtain ⟨rfl, h⟩ := h; omega
end

section
open Go.RowKit Go.Proofs.YteommchgnocgnaaW.PrintWords Go.Proofs.YteommchgnocgnaaW.PrintLast Go.Proofs.YteommchgnocgnaaW.PrintMore
set_option linter.unusedVariables false
set_option linter.unusedSimpArgs false

theorem isEmpty_nil {s : ByteArray} (h : s.toList.isEmpty = true) : s.toList = [] := List.isEmpty_iff.1 h
theorem empty_toList : (⟨#[]⟩ : ByteArray).toList = [] := by decide +kernel
theorem u64_lt2 {n : Int} (h1 : -9223372036854775808 ≤ n) (h2 : n < 9223372036854775808) (h : IntKind.u64.wrap n < 2) : n = 0 ∨ n = 1 := by
  have e : IntKind.u64.wrap n = n % 18446744073709551616 := rfl
  rw [e] at h
  omega
/-- A value that may be: what it was as a thing. -/
theorem thing_back {k n : Int} {s : ByteArray} (h : mayB k n s = true) (hn : WFi n) : tK (thingOf k n s) = k ∧ tN (thingOf k n s) = n ∧ (tS (thingOf k n s)).toList = s.toList := by
  have hb := int_bounds hn
  unfold mayB heldV at h
  unfold thingOf
  by_cases h0 : k = 0
  · subst h0
    rw [if_pos rfl] at h ⊢
    by_cases hs : s.toList.isEmpty = true
    · exact ⟨rfl, rfl, empty_toList.trans (isEmpty_nil hs).symm⟩
    · rw [if_neg hs] at h; cases h
  rw [if_neg h0] at h ⊢
  by_cases h1 : k = 1
  · subst h1
    rw [if_pos rfl] at h ⊢
    by_cases hs : s.toList.isEmpty = true
    · rw [if_pos hs] at h
      by_cases hw : IntKind.u64.wrap n < 2
      · rcases u64_lt2 hb.1 hb.2 hw with rfl | rfl
        · exact ⟨rfl, rfl, empty_toList.trans (isEmpty_nil hs).symm⟩
        · exact ⟨rfl, rfl, empty_toList.trans (isEmpty_nil hs).symm⟩
      · rw [if_neg hw] at h; cases h
    · rw [if_neg hs] at h; cases h
  rw [if_neg h1] at h ⊢
  exact ⟨rfl, rfl, rfl⟩
theorem mayEv_vals {nm : ByteArray} {at_ : Int} {vs : List S38} (h : mayEv nm at_ vs = true) : vs.length ≤ 6 ∧ ∀ x ∈ vs, mayB x.f0 x.f1 x.f2 = true := by
  unfold mayEv at h
  simp only [Bool.and_eq_true, decide_eq_true_eq, Bool.not_eq_true', List.any_eq_false, valBad] at h
  refine ⟨h.2.2.2.1, fun x hx => ?_⟩
  have := h.2.2.2.2 x hx
  simpa using this
theorem rd38_mem {vs : List S38} {i : Int} (h0 : 0 ≤ i) (h1 : i < vs.length) : rd_T38 vs i ∈ vs := by
  unfold rd_T38
  have : i.toNat < vs.length := by omega
  rw [List.getD_eq_getElem?_getD, List.getElem?_eq_getElem this, Option.getD_some]
  exact List.getElem_mem this
theorem mayE_load {a : Int} (h0 : 0 ≤ a) (h1 : a ≤ 5) : mayE [⟨1, a, ⟨0, 0, ⟨#[]⟩⟩⟩] = true := by
  have : a = 0 ∨ a = 1 ∨ a = 2 ∨ a = 3 ∨ a = 4 ∨ a = 5 := by omega
  rcases this with rfl | rfl | rfl | rfl | rfl | rfl <;> decide +kernel
theorem evalE_load {nm : ByteArray} {at_ : Int} {vs : List S38} {a : Int} (h0 : 0 ≤ a) (h1 : a ≤ 5) :
    evalE nm at_ vs [⟨1, a, ⟨0, 0, ⟨#[]⟩⟩⟩] = if mayEv nm at_ vs = true then (if (vs.length : Int) ≤ a then (0, 0, ⟨#[]⟩, 3) else (tK (thingOf (rd_T38 vs a).f0 (rd_T38 vs a).f1 (rd_T38 vs a).f2), tN (thingOf (rd_T38 vs a).f0 (rd_T38 vs a).f1 (rd_T38 vs a).f2), tS (thingOf (rd_T38 vs a).f0 (rd_T38 vs a).f1 (rd_T38 vs a).f2), 0)) else (0, 0, ⟨#[]⟩, 1) := by
  unfold evalE
  rw [if_pos (mayE_load h0 h1)]
  by_cases hm : mayEv nm at_ vs = true
  · rw [if_pos hm, if_pos hm]
    by_cases hl : (vs.length : Int) ≤ a
    · rw [if_pos hl]; simp [evalT, throughL, partL, hl]
    · rw [if_neg hl]; simp [evalT, throughL, partL, hl]
  · rw [if_neg hm, if_neg hm]

theorem opOk_val {k n : Int} {s : ByteArray} (h : mayB k n s = true) : opOk 0 0 k n s = true := by
  unfold opOk
  simp [h]
theorem evalE_nil : evalE ⟨#[97]⟩ 0 [] [] = (0, 0, ⟨#[]⟩, 2) := by
  have h1 : mayE [] = true := by decide +kernel
  unfold evalE
  rw [if_pos h1, if_pos mayEvA]
  simp [evalT, throughL]
theorem evalE_one {x : S38} (h : mayB x.f0 x.f1 x.f2 = true) : evalE ⟨#[97]⟩ 0 [] [⟨0, 0, ⟨x.f0, x.f1, x.f2⟩⟩] = (tK (thingOf x.f0 x.f1 x.f2), tN (thingOf x.f0 x.f1 x.f2), tS (thingOf x.f0 x.f1 x.f2), 0) := by
  have h1 : mayE [⟨0, 0, ⟨x.f0, x.f1, x.f2⟩⟩] = true := by
    unfold mayE opBad
    simp [opOk_val h]
  unfold evalE
  rw [if_pos h1, if_pos mayEvA]
  simp [evalT, throughL, partL]
theorem evalE_two {x : S38} (h : mayB x.f0 x.f1 x.f2 = true) : evalE ⟨#[97]⟩ 0 [] [⟨0, 0, ⟨x.f0, x.f1, x.f2⟩⟩, ⟨0, 0, ⟨x.f0, x.f1, x.f2⟩⟩] = (0, 0, ⟨#[]⟩, 2) := by
  have h1 : mayE [⟨0, 0, ⟨x.f0, x.f1, x.f2⟩⟩, ⟨0, 0, ⟨x.f0, x.f1, x.f2⟩⟩] = true := by
    unfold mayE opBad
    simp [opOk_val h]
  unfold evalE
  rw [if_pos h1, if_pos mayEvA]
  simp [evalT, throughL, partL]
theorem evalE_code {c : Int} (h2 : ¬ c < 2) (h10 : ¬ c ≥ 10) : evalE ⟨#[97]⟩ 0 [] [⟨c, 0, ⟨0, 0, ⟨#[]⟩⟩⟩] = (0, 0, ⟨#[]⟩, 2) := by
  have hc : c = 2 ∨ c = 3 ∨ c = 4 ∨ c = 5 ∨ c = 6 ∨ c = 7 ∨ c = 8 ∨ c = 9 := by omega
  rcases hc with rfl | rfl | rfl | rfl | rfl | rfl | rfl | rfl <;> (clear h2 h10; decide +kernel)
end

section
open Go.RowKit Go.Proofs.YteommchgnocgnaaW.PrintWords Go.Proofs.YteommchgnocgnaaW.PrintLast Go.Proofs.YteommchgnocgnaaW.PrintMore
attribute [local go_sem] max2_int min2_int max_two min_two max_three min_three max_four min_four   -- for this text's walks alone
set_option linter.unusedVariables false
set_option linter.unusedSimpArgs false


/-! ### towncrierlaw05_Few: function 14 -/
mutual
def towncrierlaw05_Few.j0 : Nat → Bool → ByteArray → Int → List (S78) → Option (Bool)
  | 0, _, _, _, _ => none
  | k + 1, x13, x191000, x191001, x191002 => if x13 = true then (some false) else (towncrierlaw05_Few.l0 k 0 x191000 x191001 x191002)
def towncrierlaw05_Few.l0 : Nat → Int → ByteArray → Int → List (S78) → Option (Bool)
  | 0, _, _, _, _ => none
  | k + 1, x3, x191000, x191001, x191002 => if x3 < (x191002.length : Int) then (if 0 ≤ x3 then (if (((rd_T78 x191002 x3).f0).size : Int) > 60 then (some false) else (towncrierlaw05_Few.l0 k (wrap64 (x3 + 1)) x191000 x191001 x191002)) else (none)) else (some true)
end
def towncrierlaw05_Few.f (k : Nat) (a0_0 : ByteArray) (a0_1 : Int) (l0_2 : List (S78)) : Option (Bool) := if (a0_0.size : Int) > 60 then (towncrierlaw05_Few.j0 k true a0_0 a0_1 l0_2) else (towncrierlaw05_Few.j0 k (decide ((l0_2.length : Int) > 10)) a0_0 a0_1 l0_2)
theorem towncrierlaw05_Few.mono_l : ∀ k, (∀ y0 y1 y2 y3, LeO (towncrierlaw05_Few.j0 k y0 y1 y2 y3) (towncrierlaw05_Few.j0 (k + 1) y0 y1 y2 y3)) ∧ (∀ y0 y1 y2 y3, LeO (towncrierlaw05_Few.l0 k y0 y1 y2 y3) (towncrierlaw05_Few.l0 (k + 1) y0 y1 y2 y3))
  | 0 => ⟨fun _ _ _ _ r h => by simp [towncrierlaw05_Few.j0] at h, fun _ _ _ _ r h => by simp [towncrierlaw05_Few.l0] at h⟩
  | k + 1 => by
    obtain ⟨ih0, ih1⟩ := towncrierlaw05_Few.mono_l k
    refine ⟨?_, ?_⟩
    · intro y0 y1 y2 y3
      unfold towncrierlaw05_Few.j0
      repeat' first
      | (with_reducible exact ih0 _ _ _ _)
      | (with_reducible exact ih1 _ _ _ _)
      | (with_reducible exact LeO.refl _)
      | (with_reducible exact LeO.none _)
      | (with_reducible refine LeO.ite ?_ ?_)
      | (with_reducible refine LeO.bind ?_ (fun _ => ?_))
      | exact ih0 _ _ _ _
      | exact ih1 _ _ _ _
      | exact LeO.none _
      | refine LeO.ite ?_ ?_
      | refine LeO.bind ?_ (fun _ => ?_)
    · intro y0 y1 y2 y3
      unfold towncrierlaw05_Few.l0
      repeat' first
      | (with_reducible exact ih0 _ _ _ _)
      | (with_reducible exact ih1 _ _ _ _)
      | (with_reducible exact LeO.refl _)
      | (with_reducible exact LeO.none _)
      | (with_reducible refine LeO.ite ?_ ?_)
      | (with_reducible refine LeO.bind ?_ (fun _ => ?_))
      | exact ih0 _ _ _ _
      | exact ih1 _ _ _ _
      | exact LeO.none _
      | refine LeO.ite ?_ ?_
      | refine LeO.bind ?_ (fun _ => ?_)
theorem towncrierlaw05_Few.mono : ∀ a0 a1 a2 k, LeO (towncrierlaw05_Few.f k a0 a1 a2) (towncrierlaw05_Few.f (k + 1) a0 a1 a2) := by
  intro a0 a1 a2 k
  obtain ⟨ih0, ih1⟩ := towncrierlaw05_Few.mono_l k
  unfold towncrierlaw05_Few.f
  repeat' first
      | (with_reducible exact ih0 _ _ _ _)
      | (with_reducible exact ih1 _ _ _ _)
      | (with_reducible exact LeO.refl _)
      | (with_reducible exact LeO.none _)
      | (with_reducible refine LeO.ite ?_ ?_)
      | (with_reducible refine LeO.bind ?_ (fun _ => ?_))
      | exact ih0 _ _ _ _
      | exact ih1 _ _ _ _
      | exact LeO.none _
      | refine LeO.ite ?_ ?_
      | refine LeO.bind ?_ (fun _ => ?_)
set_option maxHeartbeats 8000000 in
set_option maxRecDepth 100000 in
theorem towncrierlaw05_Few.calls (k : Nat) (a0_0 : ByteArray) (a0_1 : Int) (A0_2 : Option Addr) (c0_2 : Nat) (l0_2 : List (S78)) (r : Bool) (w : World) (hr0_2 : Kd.C k78 w A0_2 l0_2.length l0_2) (hc0_2 : l0_2.length ≤ c0_2) (h : towncrierlaw05_Few.f k a0_0 a0_1 l0_2 = some r) :
    Calls Try.prog 14 #[.agg #[.string a0_0, .int .i64 a0_1, .slice A0_2 l0_2.length c0_2]] w fun e w' => e = .returned (.bool r) ∧ Below w.heap.size w w' := by
  have hu24 := Try.underlying24
  have HR0_2 := Aside0.mk hr0_2
  have HC0_2 := Aside0.mk hc0_2
  clear hr0_2 hc0_2
  have HB := Aside0.mk (Below.refl w.heap.size w)
  have H : (if (a0_0.size : Int) > 60 then (towncrierlaw05_Few.j0 k true a0_0 a0_1 l0_2) else (towncrierlaw05_Few.j0 k (decide ((l0_2.length : Int) > 10)) a0_0 a0_1 l0_2)) = some r := h
  clear h
  have HC2 := Aside0.mk H
  clear H
  go_enter Try.func14, Try.ntmps14
  go_upto_region 1 with (first | ((with_reducible refine gate_dst (N := 1) rfl ?_); (try (refine gate_guard (by rfl) ?_; dsimp only)); refine box_event ?hg (N := 1) ?hd (cs := #[.string a0_0, .int .i64 a0_1, .slice A0_2 l0_2.length c0_2]) (t := 24) ?hr ?_; (case hd => rfl); (case hg => rfl); (case hr => first | (go_simp; done) | (go_simp; rfl)); intro gb190 hg w3 hbox hb; have n0_ := Aside0.mk (below_step (by repeat (first | (with_reducible first | exact HB.out | apply below_alloc | apply pw_below_drewN | apply below_drew1) | exact HB.out)) hb); have n1_ := Aside0.mk (hbox); have n2_ := Aside0.mk ((by rw [hg]; exact (below_size (by repeat (first | (with_reducible first | exact HB.out | apply below_alloc | apply pw_below_drewN | apply below_drew1) | exact HB.out))) : w.heap.size ≤ gb190)); have n3_ := Aside0.mk ((by rw [hg]; exact (below_size (by repeat (first | (with_reducible first | exact HB.out | apply below_alloc | apply pw_below_drewN | apply below_drew1) | exact HB.out))) : w.heap.size ≤ gb190)); clear HB; have HB := n0_; have BK190 := n1_; have GW190 := n2_; have GE190 := n3_; clear n0_ n1_ n2_ n3_; clear hb hbox hg))
  (try simp only [Act.put, List.setIfInBounds_toArray, List.set_cons_zero, List.set_cons_succ])
  go_cut [13] (fun v13 wc => ∃ (kq : Nat) (x13_1 : Bool), v13 = .bool x13_1 ∧ Aside0 (towncrierlaw05_Few.j0 kq x13_1 a0_0 a0_1 l0_2 = some r) ∧ Aside0 (kq ≤ k) ∧ Aside0 (wc.heap[gb190]? = some (.cells #[.string a0_0, .int .i64 a0_1, (.slice A0_2 l0_2.length c0_2)] 24 (0, 0))) ∧ Aside0 (Below w.heap.size w wc))
  case first =>
    have H := HC2.out
    clear HC2
    by_cases c4 : (a0_0.size : Int) > 60
    · rw [if_pos c4] at H
      have c4b0 : decide (60 < (a0_0.size : Int)) = true := decide_eq_true c4
      have c4b1 : decide (60 < a0_0.size) = true := decide_eq_true (by omega)
      clear c4
      (first | rw [c4b0] | (simp only [i64_w, i32_w]; rw [c4b0]) | skip)
      have H' := Aside0.mk H
      clear H
      have hcz5_0 : w3.cell? ⟨gb190, 0, none⟩ = some (.string a0_0) := (blk_cell BK190.out 0).trans rfl
      have hcz5_1 : w3.cell? ⟨gb190, 1, none⟩ = some (.int .i64 a0_1) := (blk_cell BK190.out 1).trans rfl
      have hcz5_2 : w3.cell? ⟨gb190, 2, none⟩ = some (.slice A0_2 l0_2.length c0_2) := (blk_cell BK190.out 2).trans rfl
      have hfz5_0 := blk_frozen BK190.out 0
      have hfz5_1 := blk_frozen BK190.out 1
      have hfz5_2 := blk_frozen BK190.out 2
      go_wp2
      go_meet
      case rel => exact ⟨_, (true), (by first | rfl | (simp; done) | (simp [*]; done)), H', ⟨by first | omega | exact Nat.le_refl _⟩, ⟨by (with_reducible repeat (first | refine blk_drewN ?_ _ | refine blk_drew ?_ | refine blk_alloc ?_ _)); exact BK190.out⟩, ⟨by repeat (first | (with_reducible first | exact HB.out | apply below_alloc | apply pw_below_drewN | apply below_drew1 | refine below_set ?_ GE190.out) | exact HB.out)⟩⟩
    · rw [if_neg c4] at H
      have c4b0 : decide (60 < (a0_0.size : Int)) = false := decide_eq_false c4
      have c4b1 : decide (60 < a0_0.size) = false := decide_eq_false (by omega)
      clear c4
      (first | rw [c4b0] | (simp only [i64_w, i32_w]; rw [c4b0]) | skip)
      have H' := Aside0.mk H
      clear H
      have hcz6_0 : w3.cell? ⟨gb190, 0, none⟩ = some (.string a0_0) := (blk_cell BK190.out 0).trans rfl
      have hcz6_1 : w3.cell? ⟨gb190, 1, none⟩ = some (.int .i64 a0_1) := (blk_cell BK190.out 1).trans rfl
      have hcz6_2 : w3.cell? ⟨gb190, 2, none⟩ = some (.slice A0_2 l0_2.length c0_2) := (blk_cell BK190.out 2).trans rfl
      have hfz6_0 := blk_frozen BK190.out 0
      have hfz6_1 := blk_frozen BK190.out 1
      have hfz6_2 := blk_frozen BK190.out 2
      go_wp2
      go_meet
      case rel => exact ⟨_, (decide ((l0_2.length : Int) > 10)), (by first | rfl | (simp; done) | (simp [*]; done)), H', ⟨by first | omega | exact Nat.le_refl _⟩, ⟨by (with_reducible repeat (first | refine blk_drewN ?_ _ | refine blk_drew ?_ | refine blk_alloc ?_ _)); exact BK190.out⟩, ⟨by repeat (first | (with_reducible first | exact HB.out | apply below_alloc | apply pw_below_drewN | apply below_drew1 | refine below_set ?_ GE190.out) | exact HB.out)⟩⟩
  case rest =>
    clear HC2
    try clear c1
    try clear p2
    try clear c4
    try clear c4b0
    try clear c4b1
    try clear hcz5_0
    try clear hcz5_1
    try clear hcz5_2
    try clear hcz6_0
    try clear hcz6_1
    try clear hcz6_2
    try clear hfz5_0
    try clear hfz5_1
    try clear hfz5_2
    try clear hfz6_0
    try clear hfz6_1
    try clear hfz6_2
    obtain ⟨kq, x13_1, rfl, HA, HJ1, BK190, HB⟩ := hcut
    cases kq with
    | zero => exact absurd HA.out (by simp [towncrierlaw05_Few.j0])
    | succ kj1 =>
      have H := HA.out
      clear HA
      simp only [towncrierlaw05_Few.j0] at H
      by_cases c7 : x13_1 = true
      · subst c7
        have H1 : (some false) = some r := by rw [if_pos rfl] at H; exact H
        clear H
        have H := H1
        clear H1
        obtain rfl := Option.some.inj H
        go_wp2
        go_ret
        exact ⟨by first | rfl | (simp [errW_none, errW_some] <;> rfl) | (simp [*, errW_none, errW_some] <;> rfl), by repeat (first | (with_reducible first | exact HB.out | apply below_alloc | apply pw_below_drewN | apply below_drew1 | refine below_set ?_ GE190.out) | exact HB.out)⟩
      · replace c7 := Bool.eq_false_iff.mpr c7
        subst c7
        have H1 : (towncrierlaw05_Few.l0 kj1 0 a0_0 a0_1 l0_2) = some r := by rw [if_neg (show ¬ (false = true) by decide)] at H; exact H
        clear H
        have H := H1
        clear H1
        have H' := Aside0.mk H
        clear H
        go_wp2
        go_loopg [3] kj1 (fun kq v3 w' => ∃ (x3_2 : Int), v3 = .int .i64 x3_2 ∧ Aside0 (towncrierlaw05_Few.l0 kq x3_2 a0_0 a0_1 l0_2 = some r) ∧ Aside0 (kq ≤ kj1) ∧ Aside0 (w'.heap[gb190]? = some (.cells #[.string a0_0, .int .i64 a0_1, (.slice A0_2 l0_2.length c0_2)] 24 (0, 0))) ∧ Aside0 (Below w.heap.size w w'))
        case atStart => exact ⟨(0), (by first | rfl | (simp; done) | (simp [*]; done)), H', ⟨Nat.le_refl _⟩, ⟨by (with_reducible repeat (first | refine blk_drewN ?_ _ | refine blk_drew ?_ | refine blk_alloc ?_ _)); exact BK190.out⟩, ⟨by repeat (first | (with_reducible first | exact HB.out | apply below_alloc | apply pw_below_drewN | apply below_drew1 | refine below_set ?_ GE190.out) | exact HB.out)⟩⟩
        case round =>
          clear H'
          try clear c1
          try clear p2
          try clear c4
          try clear c4b0
          try clear c4b1
          try clear c7
          try clear hcz5_0
          try clear hcz5_1
          try clear hcz5_2
          try clear hcz6_0
          try clear hcz6_1
          try clear hcz6_2
          try clear hfz5_0
          try clear hfz5_1
          try clear hfz5_2
          try clear hfz6_0
          try clear hfz6_1
          try clear hfz6_2
          try clear p2
          obtain ⟨x3_2, rfl, HA, HK2, BK190, HB⟩ := hrel
          cases gk with
          | zero => exact absurd HA.out (by simp [towncrierlaw05_Few.l0])
          | succ k2 =>
            have H := HA.out
            clear HA
            simp only [towncrierlaw05_Few.l0] at H
            by_cases c8 : x3_2 < (l0_2.length : Int)
            · rw [if_pos c8] at H
              have c8b0 : decide (x3_2 < (l0_2.length : Int)) = true := decide_eq_true c8
              clear c8
              by_cases c9 : 0 ≤ x3_2
              · rw [if_pos c9] at H
                have c9b0 : decide (0 ≤ x3_2) = true := decide_eq_true c9
                clear c9
                by_cases c10 : (((rd_T78 l0_2 x3_2).f0).size : Int) > 60
                · rw [if_pos c10] at H
                  have c10b0 : decide (60 < (((rd_T78 l0_2 x3_2).f0).size : Int)) = true := decide_eq_true c10
                  have c10b1 : decide (60 < ((rd_T78 l0_2 x3_2).f0).size) = true := decide_eq_true (by omega)
                  clear c10
                  obtain rfl := Option.some.inj H
                  have hcz11_0 : wr.cell? ⟨gb190, 0, none⟩ = some (.string a0_0) := (blk_cell BK190.out 0).trans rfl
                  have hcz11_1 : wr.cell? ⟨gb190, 1, none⟩ = some (.int .i64 a0_1) := (blk_cell BK190.out 1).trans rfl
                  have hcz11_2 : wr.cell? ⟨gb190, 2, none⟩ = some (.slice A0_2 l0_2.length c0_2) := (blk_cell BK190.out 2).trans rfl
                  have hfz11_0 := blk_frozen BK190.out 0
                  have hfz11_1 := blk_frozen BK190.out 1
                  have hfz11_2 := blk_frozen BK190.out 2
                  have p191 : 0 ≤ (x3_2 : Int) := of_decide_eq_true (by first | (with_reducible assumption) | assumption)
                  have q191 : x3_2 < (l0_2.length : Int) := of_decide_eq_true (by first | (with_reducible assumption) | assumption)
                  obtain ⟨ad191, e191, hx191_0, hx191_1⟩ := at_T78 HR0_2.out x3_2 p191 q191
                  cases e191
                  replace hx191_0 := (HB.out.cell (World.block_lt_of_cell? w _ hx191_0)).trans hx191_0
                  replace hx191_1 := (HB.out.cell (World.block_lt_of_cell? w _ hx191_1)).trans hx191_1
                  replace p191 := eq_true p191
                  replace q191 := eq_true q191
                  go_wp2
                  go_ret
                  exact ⟨by first | rfl | (simp [errW_none, errW_some] <;> rfl) | (simp [*, errW_none, errW_some] <;> rfl), by repeat (first | (with_reducible first | exact HB.out | apply below_alloc | apply pw_below_drewN | apply below_drew1 | refine below_set ?_ GE190.out) | exact HB.out)⟩
                · rw [if_neg c10] at H
                  have c10b0 : decide (60 < (((rd_T78 l0_2 x3_2).f0).size : Int)) = false := decide_eq_false c10
                  have c10b1 : decide (60 < ((rd_T78 l0_2 x3_2).f0).size) = false := decide_eq_false (by omega)
                  clear c10
                  have H' := Aside0.mk H
                  clear H
                  have hcz12_0 : wr.cell? ⟨gb190, 0, none⟩ = some (.string a0_0) := (blk_cell BK190.out 0).trans rfl
                  have hcz12_1 : wr.cell? ⟨gb190, 1, none⟩ = some (.int .i64 a0_1) := (blk_cell BK190.out 1).trans rfl
                  have hcz12_2 : wr.cell? ⟨gb190, 2, none⟩ = some (.slice A0_2 l0_2.length c0_2) := (blk_cell BK190.out 2).trans rfl
                  have hfz12_0 := blk_frozen BK190.out 0
                  have hfz12_1 := blk_frozen BK190.out 1
                  have hfz12_2 := blk_frozen BK190.out 2
                  have p191 : 0 ≤ (x3_2 : Int) := of_decide_eq_true (by first | (with_reducible assumption) | assumption)
                  have q191 : x3_2 < (l0_2.length : Int) := of_decide_eq_true (by first | (with_reducible assumption) | assumption)
                  obtain ⟨ad191, e191, hx191_0, hx191_1⟩ := at_T78 HR0_2.out x3_2 p191 q191
                  cases e191
                  replace hx191_0 := (HB.out.cell (World.block_lt_of_cell? w _ hx191_0)).trans hx191_0
                  replace hx191_1 := (HB.out.cell (World.block_lt_of_cell? w _ hx191_1)).trans hx191_1
                  replace p191 := eq_true p191
                  replace q191 := eq_true q191
                  go_wp2
                  go_roundg k2
                  case measure => have := HJ1.out; have := HK2.out; omega
                  case rel => exact ⟨(wrap64 (x3_2 + 1)), (by first | rfl | (simp; done) | (simp [*]; done)), H', ⟨by have := HJ1.out; have := HK2.out; omega⟩, ⟨by (with_reducible repeat (first | refine blk_drewN ?_ _ | refine blk_drew ?_ | refine blk_alloc ?_ _)); exact BK190.out⟩, ⟨by repeat (first | (with_reducible first | exact HB.out | apply below_alloc | apply pw_below_drewN | apply below_drew1 | refine below_set ?_ GE190.out) | exact HB.out)⟩⟩
              · rw [if_neg c9] at H
                exact absurd H (by simp)
            · rw [if_neg c8] at H
              have c8b0 : decide (x3_2 < (l0_2.length : Int)) = false := decide_eq_false c8
              clear c8
              obtain rfl := Option.some.inj H
              have hcz13_0 : wr.cell? ⟨gb190, 0, none⟩ = some (.string a0_0) := (blk_cell BK190.out 0).trans rfl
              have hcz13_1 : wr.cell? ⟨gb190, 1, none⟩ = some (.int .i64 a0_1) := (blk_cell BK190.out 1).trans rfl
              have hcz13_2 : wr.cell? ⟨gb190, 2, none⟩ = some (.slice A0_2 l0_2.length c0_2) := (blk_cell BK190.out 2).trans rfl
              have hfz13_0 := blk_frozen BK190.out 0
              have hfz13_1 := blk_frozen BK190.out 1
              have hfz13_2 := blk_frozen BK190.out 2
              go_wp2
              go_ret
              exact ⟨by first | rfl | (simp [errW_none, errW_some] <;> rfl) | (simp [*, errW_none, errW_some] <;> rfl), by repeat (first | (with_reducible first | exact HB.out | apply below_alloc | apply pw_below_drewN | apply below_drew1 | refine below_set ?_ GE190.out) | exact HB.out)⟩

/-! ### towncrierlaw06_Few: function 15 -/
mutual
def towncrierlaw06_Few.j0 : Nat → Bool → ByteArray → Int → List (S38) → Option (Bool)
  | 0, _, _, _, _ => none
  | k + 1, x13, x193000, x193001, x193002 => if x13 = true then (some false) else (towncrierlaw06_Few.l0 k 0 x193000 x193001 x193002)
def towncrierlaw06_Few.l0 : Nat → Int → ByteArray → Int → List (S38) → Option (Bool)
  | 0, _, _, _, _ => none
  | k + 1, x3, x193000, x193001, x193002 => if x3 < (x193002.length : Int) then (if 0 ≤ x3 then (if (((rd_T38 x193002 x3).f2).size : Int) > 100 then (some false) else (towncrierlaw06_Few.l0 k (wrap64 (x3 + 1)) x193000 x193001 x193002)) else (none)) else (some true)
end
def towncrierlaw06_Few.f (k : Nat) (a0_0 : ByteArray) (a0_1 : Int) (l0_2 : List (S38)) : Option (Bool) := if (a0_0.size : Int) > 60 then (towncrierlaw06_Few.j0 k true a0_0 a0_1 l0_2) else (towncrierlaw06_Few.j0 k (decide ((l0_2.length : Int) > 10)) a0_0 a0_1 l0_2)
theorem towncrierlaw06_Few.mono_l : ∀ k, (∀ y0 y1 y2 y3, LeO (towncrierlaw06_Few.j0 k y0 y1 y2 y3) (towncrierlaw06_Few.j0 (k + 1) y0 y1 y2 y3)) ∧ (∀ y0 y1 y2 y3, LeO (towncrierlaw06_Few.l0 k y0 y1 y2 y3) (towncrierlaw06_Few.l0 (k + 1) y0 y1 y2 y3))
  | 0 => ⟨fun _ _ _ _ r h => by simp [towncrierlaw06_Few.j0] at h, fun _ _ _ _ r h => by simp [towncrierlaw06_Few.l0] at h⟩
  | k + 1 => by
    obtain ⟨ih0, ih1⟩ := towncrierlaw06_Few.mono_l k
    refine ⟨?_, ?_⟩
    · intro y0 y1 y2 y3
      unfold towncrierlaw06_Few.j0
      repeat' first
      | (with_reducible exact ih0 _ _ _ _)
      | (with_reducible exact ih1 _ _ _ _)
      | (with_reducible exact LeO.refl _)
      | (with_reducible exact LeO.none _)
      | (with_reducible refine LeO.ite ?_ ?_)
      | (with_reducible refine LeO.bind ?_ (fun _ => ?_))
      | exact ih0 _ _ _ _
      | exact ih1 _ _ _ _
      | exact LeO.none _
      | refine LeO.ite ?_ ?_
      | refine LeO.bind ?_ (fun _ => ?_)
    · intro y0 y1 y2 y3
      unfold towncrierlaw06_Few.l0
      repeat' first
      | (with_reducible exact ih0 _ _ _ _)
      | (with_reducible exact ih1 _ _ _ _)
      | (with_reducible exact LeO.refl _)
      | (with_reducible exact LeO.none _)
      | (with_reducible refine LeO.ite ?_ ?_)
      | (with_reducible refine LeO.bind ?_ (fun _ => ?_))
      | exact ih0 _ _ _ _
      | exact ih1 _ _ _ _
      | exact LeO.none _
      | refine LeO.ite ?_ ?_
      | refine LeO.bind ?_ (fun _ => ?_)
theorem towncrierlaw06_Few.mono : ∀ a0 a1 a2 k, LeO (towncrierlaw06_Few.f k a0 a1 a2) (towncrierlaw06_Few.f (k + 1) a0 a1 a2) := by
  intro a0 a1 a2 k
  obtain ⟨ih0, ih1⟩ := towncrierlaw06_Few.mono_l k
  unfold towncrierlaw06_Few.f
  repeat' first
      | (with_reducible exact ih0 _ _ _ _)
      | (with_reducible exact ih1 _ _ _ _)
      | (with_reducible exact LeO.refl _)
      | (with_reducible exact LeO.none _)
      | (with_reducible refine LeO.ite ?_ ?_)
      | (with_reducible refine LeO.bind ?_ (fun _ => ?_))
      | exact ih0 _ _ _ _
      | exact ih1 _ _ _ _
      | exact LeO.none _
      | refine LeO.ite ?_ ?_
      | refine LeO.bind ?_ (fun _ => ?_)
set_option maxHeartbeats 8000000 in
set_option maxRecDepth 100000 in
theorem towncrierlaw06_Few.calls (k : Nat) (a0_0 : ByteArray) (a0_1 : Int) (A0_2 : Option Addr) (c0_2 : Nat) (l0_2 : List (S38)) (r : Bool) (w : World) (hr0_2 : Kd.C k38 w A0_2 l0_2.length l0_2) (hc0_2 : l0_2.length ≤ c0_2) (h : towncrierlaw06_Few.f k a0_0 a0_1 l0_2 = some r) :
    Calls Try.prog 15 #[.agg #[.string a0_0, .int .i64 a0_1, .slice A0_2 l0_2.length c0_2]] w fun e w' => e = .returned (.bool r) ∧ Below w.heap.size w w' := by
  have hu27 := Try.underlying27
  have HR0_2 := Aside0.mk hr0_2
  have HC0_2 := Aside0.mk hc0_2
  clear hr0_2 hc0_2
  have HB := Aside0.mk (Below.refl w.heap.size w)
  have H : (if (a0_0.size : Int) > 60 then (towncrierlaw06_Few.j0 k true a0_0 a0_1 l0_2) else (towncrierlaw06_Few.j0 k (decide ((l0_2.length : Int) > 10)) a0_0 a0_1 l0_2)) = some r := h
  clear h
  have HC2 := Aside0.mk H
  clear H
  go_enter Try.func15, Try.ntmps15
  go_upto_region 1 with (first | ((with_reducible refine gate_dst (N := 1) rfl ?_); (try (refine gate_guard (by rfl) ?_; dsimp only)); refine box_event ?hg (N := 1) ?hd (cs := #[.string a0_0, .int .i64 a0_1, .slice A0_2 l0_2.length c0_2]) (t := 27) ?hr ?_; (case hd => rfl); (case hg => rfl); (case hr => first | (go_simp; done) | (go_simp; rfl)); intro gb192 hg w3 hbox hb; have n0_ := Aside0.mk (below_step (by repeat (first | (with_reducible first | exact HB.out | apply below_alloc | apply pw_below_drewN | apply below_drew1) | exact HB.out)) hb); have n1_ := Aside0.mk (hbox); have n2_ := Aside0.mk ((by rw [hg]; exact (below_size (by repeat (first | (with_reducible first | exact HB.out | apply below_alloc | apply pw_below_drewN | apply below_drew1) | exact HB.out))) : w.heap.size ≤ gb192)); have n3_ := Aside0.mk ((by rw [hg]; exact (below_size (by repeat (first | (with_reducible first | exact HB.out | apply below_alloc | apply pw_below_drewN | apply below_drew1) | exact HB.out))) : w.heap.size ≤ gb192)); clear HB; have HB := n0_; have BK192 := n1_; have GW192 := n2_; have GE192 := n3_; clear n0_ n1_ n2_ n3_; clear hb hbox hg))
  (try simp only [Act.put, List.setIfInBounds_toArray, List.set_cons_zero, List.set_cons_succ])
  go_cut [13] (fun v13 wc => ∃ (kq : Nat) (x13_1 : Bool), v13 = .bool x13_1 ∧ Aside0 (towncrierlaw06_Few.j0 kq x13_1 a0_0 a0_1 l0_2 = some r) ∧ Aside0 (kq ≤ k) ∧ Aside0 (wc.heap[gb192]? = some (.cells #[.string a0_0, .int .i64 a0_1, (.slice A0_2 l0_2.length c0_2)] 27 (0, 0))) ∧ Aside0 (Below w.heap.size w wc))
  case first =>
    have H := HC2.out
    clear HC2
    by_cases c4 : (a0_0.size : Int) > 60
    · rw [if_pos c4] at H
      have c4b0 : decide (60 < (a0_0.size : Int)) = true := decide_eq_true c4
      have c4b1 : decide (60 < a0_0.size) = true := decide_eq_true (by omega)
      clear c4
      (first | rw [c4b0] | (simp only [i64_w, i32_w]; rw [c4b0]) | skip)
      have H' := Aside0.mk H
      clear H
      have hcz5_0 : w3.cell? ⟨gb192, 0, none⟩ = some (.string a0_0) := (blk_cell BK192.out 0).trans rfl
      have hcz5_1 : w3.cell? ⟨gb192, 1, none⟩ = some (.int .i64 a0_1) := (blk_cell BK192.out 1).trans rfl
      have hcz5_2 : w3.cell? ⟨gb192, 2, none⟩ = some (.slice A0_2 l0_2.length c0_2) := (blk_cell BK192.out 2).trans rfl
      have hfz5_0 := blk_frozen BK192.out 0
      have hfz5_1 := blk_frozen BK192.out 1
      have hfz5_2 := blk_frozen BK192.out 2
      go_wp2
      go_meet
      case rel => exact ⟨_, (true), (by first | rfl | (simp; done) | (simp [*]; done)), H', ⟨by first | omega | exact Nat.le_refl _⟩, ⟨by (with_reducible repeat (first | refine blk_drewN ?_ _ | refine blk_drew ?_ | refine blk_alloc ?_ _)); exact BK192.out⟩, ⟨by repeat (first | (with_reducible first | exact HB.out | apply below_alloc | apply pw_below_drewN | apply below_drew1 | refine below_set ?_ GE192.out) | exact HB.out)⟩⟩
    · rw [if_neg c4] at H
      have c4b0 : decide (60 < (a0_0.size : Int)) = false := decide_eq_false c4
      have c4b1 : decide (60 < a0_0.size) = false := decide_eq_false (by omega)
      clear c4
      (first | rw [c4b0] | (simp only [i64_w, i32_w]; rw [c4b0]) | skip)
      have H' := Aside0.mk H
      clear H
      have hcz6_0 : w3.cell? ⟨gb192, 0, none⟩ = some (.string a0_0) := (blk_cell BK192.out 0).trans rfl
      have hcz6_1 : w3.cell? ⟨gb192, 1, none⟩ = some (.int .i64 a0_1) := (blk_cell BK192.out 1).trans rfl
      have hcz6_2 : w3.cell? ⟨gb192, 2, none⟩ = some (.slice A0_2 l0_2.length c0_2) := (blk_cell BK192.out 2).trans rfl
      have hfz6_0 := blk_frozen BK192.out 0
      have hfz6_1 := blk_frozen BK192.out 1
      have hfz6_2 := blk_frozen BK192.out 2
      go_wp2
      go_meet
      case rel => exact ⟨_, (decide ((l0_2.length : Int) > 10)), (by first | rfl | (simp; done) | (simp [*]; done)), H', ⟨by first | omega | exact Nat.le_refl _⟩, ⟨by (with_reducible repeat (first | refine blk_drewN ?_ _ | refine blk_drew ?_ | refine blk_alloc ?_ _)); exact BK192.out⟩, ⟨by repeat (first | (with_reducible first | exact HB.out | apply below_alloc | apply pw_below_drewN | apply below_drew1 | refine below_set ?_ GE192.out) | exact HB.out)⟩⟩
  case rest =>
    clear HC2
    try clear c1
    try clear p2
    try clear c4
    try clear c4b0
    try clear c4b1
    try clear hcz5_0
    try clear hcz5_1
    try clear hcz5_2
    try clear hcz6_0
    try clear hcz6_1
    try clear hcz6_2
    try clear hfz5_0
    try clear hfz5_1
    try clear hfz5_2
    try clear hfz6_0
    try clear hfz6_1
    try clear hfz6_2
    obtain ⟨kq, x13_1, rfl, HA, HJ1, BK192, HB⟩ := hcut
    cases kq with
    | zero => exact absurd HA.out (by simp [towncrierlaw06_Few.j0])
    | succ kj1 =>
      have H := HA.out
      clear HA
      simp only [towncrierlaw06_Few.j0] at H
      by_cases c7 : x13_1 = true
      · subst c7
        have H1 : (some false) = some r := by rw [if_pos rfl] at H; exact H
        clear H
        have H := H1
        clear H1
        obtain rfl := Option.some.inj H
        go_wp2
        go_ret
        exact ⟨by first | rfl | (simp [errW_none, errW_some] <;> rfl) | (simp [*, errW_none, errW_some] <;> rfl), by repeat (first | (with_reducible first | exact HB.out | apply below_alloc | apply pw_below_drewN | apply below_drew1 | refine below_set ?_ GE192.out) | exact HB.out)⟩
      · replace c7 := Bool.eq_false_iff.mpr c7
        subst c7
        have H1 : (towncrierlaw06_Few.l0 kj1 0 a0_0 a0_1 l0_2) = some r := by rw [if_neg (show ¬ (false = true) by decide)] at H; exact H
        clear H
        have H := H1
        clear H1
        have H' := Aside0.mk H
        clear H
        go_wp2
        go_loopg [3] kj1 (fun kq v3 w' => ∃ (x3_2 : Int), v3 = .int .i64 x3_2 ∧ Aside0 (towncrierlaw06_Few.l0 kq x3_2 a0_0 a0_1 l0_2 = some r) ∧ Aside0 (kq ≤ kj1) ∧ Aside0 (w'.heap[gb192]? = some (.cells #[.string a0_0, .int .i64 a0_1, (.slice A0_2 l0_2.length c0_2)] 27 (0, 0))) ∧ Aside0 (Below w.heap.size w w'))
        case atStart => exact ⟨(0), (by first | rfl | (simp; done) | (simp [*]; done)), H', ⟨Nat.le_refl _⟩, ⟨by (with_reducible repeat (first | refine blk_drewN ?_ _ | refine blk_drew ?_ | refine blk_alloc ?_ _)); exact BK192.out⟩, ⟨by repeat (first | (with_reducible first | exact HB.out | apply below_alloc | apply pw_below_drewN | apply below_drew1 | refine below_set ?_ GE192.out) | exact HB.out)⟩⟩
        case round =>
          clear H'
          try clear c1
          try clear p2
          try clear c4
          try clear c4b0
          try clear c4b1
          try clear c7
          try clear hcz5_0
          try clear hcz5_1
          try clear hcz5_2
          try clear hcz6_0
          try clear hcz6_1
          try clear hcz6_2
          try clear hfz5_0
          try clear hfz5_1
          try clear hfz5_2
          try clear hfz6_0
          try clear hfz6_1
          try clear hfz6_2
          try clear p2
          obtain ⟨x3_2, rfl, HA, HK2, BK192, HB⟩ := hrel
          cases gk with
          | zero => exact absurd HA.out (by simp [towncrierlaw06_Few.l0])
          | succ k2 =>
            have H := HA.out
            clear HA
            simp only [towncrierlaw06_Few.l0] at H
            by_cases c8 : x3_2 < (l0_2.length : Int)
            · rw [if_pos c8] at H
              have c8b0 : decide (x3_2 < (l0_2.length : Int)) = true := decide_eq_true c8
              clear c8
              by_cases c9 : 0 ≤ x3_2
              · rw [if_pos c9] at H
                have c9b0 : decide (0 ≤ x3_2) = true := decide_eq_true c9
                clear c9
                by_cases c10 : (((rd_T38 l0_2 x3_2).f2).size : Int) > 100
                · rw [if_pos c10] at H
                  have c10b0 : decide (100 < (((rd_T38 l0_2 x3_2).f2).size : Int)) = true := decide_eq_true c10
                  have c10b1 : decide (100 < ((rd_T38 l0_2 x3_2).f2).size) = true := decide_eq_true (by omega)
                  clear c10
                  obtain rfl := Option.some.inj H
                  have hcz11_0 : wr.cell? ⟨gb192, 0, none⟩ = some (.string a0_0) := (blk_cell BK192.out 0).trans rfl
                  have hcz11_1 : wr.cell? ⟨gb192, 1, none⟩ = some (.int .i64 a0_1) := (blk_cell BK192.out 1).trans rfl
                  have hcz11_2 : wr.cell? ⟨gb192, 2, none⟩ = some (.slice A0_2 l0_2.length c0_2) := (blk_cell BK192.out 2).trans rfl
                  have hfz11_0 := blk_frozen BK192.out 0
                  have hfz11_1 := blk_frozen BK192.out 1
                  have hfz11_2 := blk_frozen BK192.out 2
                  have p193 : 0 ≤ (x3_2 : Int) := of_decide_eq_true (by first | (with_reducible assumption) | assumption)
                  have q193 : x3_2 < (l0_2.length : Int) := of_decide_eq_true (by first | (with_reducible assumption) | assumption)
                  obtain ⟨ad193, e193, hx193_0, hx193_1, hx193_2⟩ := at_T38 HR0_2.out x3_2 p193 q193
                  cases e193
                  replace hx193_0 := (HB.out.cell (World.block_lt_of_cell? w _ hx193_0)).trans hx193_0
                  replace hx193_1 := (HB.out.cell (World.block_lt_of_cell? w _ hx193_1)).trans hx193_1
                  replace hx193_2 := (HB.out.cell (World.block_lt_of_cell? w _ hx193_2)).trans hx193_2
                  replace p193 := eq_true p193
                  replace q193 := eq_true q193
                  go_wp2
                  go_ret
                  exact ⟨by first | rfl | (simp [errW_none, errW_some] <;> rfl) | (simp [*, errW_none, errW_some] <;> rfl), by repeat (first | (with_reducible first | exact HB.out | apply below_alloc | apply pw_below_drewN | apply below_drew1 | refine below_set ?_ GE192.out) | exact HB.out)⟩
                · rw [if_neg c10] at H
                  have c10b0 : decide (100 < (((rd_T38 l0_2 x3_2).f2).size : Int)) = false := decide_eq_false c10
                  have c10b1 : decide (100 < ((rd_T38 l0_2 x3_2).f2).size) = false := decide_eq_false (by omega)
                  clear c10
                  have H' := Aside0.mk H
                  clear H
                  have hcz12_0 : wr.cell? ⟨gb192, 0, none⟩ = some (.string a0_0) := (blk_cell BK192.out 0).trans rfl
                  have hcz12_1 : wr.cell? ⟨gb192, 1, none⟩ = some (.int .i64 a0_1) := (blk_cell BK192.out 1).trans rfl
                  have hcz12_2 : wr.cell? ⟨gb192, 2, none⟩ = some (.slice A0_2 l0_2.length c0_2) := (blk_cell BK192.out 2).trans rfl
                  have hfz12_0 := blk_frozen BK192.out 0
                  have hfz12_1 := blk_frozen BK192.out 1
                  have hfz12_2 := blk_frozen BK192.out 2
                  have p193 : 0 ≤ (x3_2 : Int) := of_decide_eq_true (by first | (with_reducible assumption) | assumption)
                  have q193 : x3_2 < (l0_2.length : Int) := of_decide_eq_true (by first | (with_reducible assumption) | assumption)
                  obtain ⟨ad193, e193, hx193_0, hx193_1, hx193_2⟩ := at_T38 HR0_2.out x3_2 p193 q193
                  cases e193
                  replace hx193_0 := (HB.out.cell (World.block_lt_of_cell? w _ hx193_0)).trans hx193_0
                  replace hx193_1 := (HB.out.cell (World.block_lt_of_cell? w _ hx193_1)).trans hx193_1
                  replace hx193_2 := (HB.out.cell (World.block_lt_of_cell? w _ hx193_2)).trans hx193_2
                  replace p193 := eq_true p193
                  replace q193 := eq_true q193
                  go_wp2
                  go_roundg k2
                  case measure => have := HJ1.out; have := HK2.out; omega
                  case rel => exact ⟨(wrap64 (x3_2 + 1)), (by first | rfl | (simp; done) | (simp [*]; done)), H', ⟨by have := HJ1.out; have := HK2.out; omega⟩, ⟨by (with_reducible repeat (first | refine blk_drewN ?_ _ | refine blk_drew ?_ | refine blk_alloc ?_ _)); exact BK192.out⟩, ⟨by repeat (first | (with_reducible first | exact HB.out | apply below_alloc | apply pw_below_drewN | apply below_drew1 | refine below_set ?_ GE192.out) | exact HB.out)⟩⟩
              · rw [if_neg c9] at H
                exact absurd H (by simp)
            · rw [if_neg c8] at H
              have c8b0 : decide (x3_2 < (l0_2.length : Int)) = false := decide_eq_false c8
              clear c8
              obtain rfl := Option.some.inj H
              have hcz13_0 : wr.cell? ⟨gb192, 0, none⟩ = some (.string a0_0) := (blk_cell BK192.out 0).trans rfl
              have hcz13_1 : wr.cell? ⟨gb192, 1, none⟩ = some (.int .i64 a0_1) := (blk_cell BK192.out 1).trans rfl
              have hcz13_2 : wr.cell? ⟨gb192, 2, none⟩ = some (.slice A0_2 l0_2.length c0_2) := (blk_cell BK192.out 2).trans rfl
              have hfz13_0 := blk_frozen BK192.out 0
              have hfz13_1 := blk_frozen BK192.out 1
              have hfz13_2 := blk_frozen BK192.out 2
              go_wp2
              go_ret
              exact ⟨by first | rfl | (simp [errW_none, errW_some] <;> rfl) | (simp [*, errW_none, errW_some] <;> rfl), by repeat (first | (with_reducible first | exact HB.out | apply below_alloc | apply pw_below_drewN | apply below_drew1 | refine below_set ?_ GE192.out) | exact HB.out)⟩

/-! ### towncrierlaw08_Few: function 16 -/
def towncrierlaw08_Few.l0 : Nat → List (S50) → Int → Option (Bool)
  | 0, _, _ => none
  | k + 1, x0, x3 => if x3 < (x0.length : Int) then (if 0 ≤ x3 then (if (((rd_T50 x0 x3).f2.f2).size : Int) > 100 then (some false) else (towncrierlaw08_Few.l0 k x0 (wrap64 (x3 + 1)))) else (none)) else (some true)
def towncrierlaw08_Few.f (k : Nat) (l0 : List (S50)) : Option (Bool) := if (l0.length : Int) > 20 then (some false) else (towncrierlaw08_Few.l0 k l0 0)
theorem towncrierlaw08_Few.mono_l : ∀ k, (∀ y0 y1, LeO (towncrierlaw08_Few.l0 k y0 y1) (towncrierlaw08_Few.l0 (k + 1) y0 y1))
  | 0 => fun _ _ r h => by simp [towncrierlaw08_Few.l0] at h
  | k + 1 => by
    have ih0 := towncrierlaw08_Few.mono_l k
    · intro y0 y1
      unfold towncrierlaw08_Few.l0
      repeat' first
      | (with_reducible exact ih0 _ _)
      | (with_reducible exact LeO.refl _)
      | (with_reducible exact LeO.none _)
      | (with_reducible refine LeO.ite ?_ ?_)
      | (with_reducible refine LeO.bind ?_ (fun _ => ?_))
      | exact ih0 _ _
      | exact LeO.none _
      | refine LeO.ite ?_ ?_
      | refine LeO.bind ?_ (fun _ => ?_)
theorem towncrierlaw08_Few.mono : ∀ a0 k, LeO (towncrierlaw08_Few.f k a0) (towncrierlaw08_Few.f (k + 1) a0) := by
  intro a0 k
  have ih0 := towncrierlaw08_Few.mono_l k
  unfold towncrierlaw08_Few.f
  repeat' first
      | (with_reducible exact ih0 _ _)
      | (with_reducible exact LeO.refl _)
      | (with_reducible exact LeO.none _)
      | (with_reducible refine LeO.ite ?_ ?_)
      | (with_reducible refine LeO.bind ?_ (fun _ => ?_))
      | exact ih0 _ _
      | exact LeO.none _
      | refine LeO.ite ?_ ?_
      | refine LeO.bind ?_ (fun _ => ?_)
set_option maxHeartbeats 8000000 in
set_option maxRecDepth 100000 in
theorem towncrierlaw08_Few.calls (k : Nat) (A0 : Option Addr) (c0 : Nat) (l0 : List (S50)) (r : Bool) (w : World) (hr0 : Kd.C k50 w A0 l0.length l0) (hc0 : l0.length ≤ c0) (h : towncrierlaw08_Few.f k l0 = some r) :
    Calls Try.prog 16 #[.slice A0 l0.length c0] w fun e w' => e = .returned (.bool r) ∧ Drawn0 w w' := by
  have HR0 := Aside0.mk hr0
  have HC0 := Aside0.mk hc0
  clear hr0 hc0
  have H : (if (l0.length : Int) > 20 then (some false) else (towncrierlaw08_Few.l0 k l0 0)) = some r := h
  clear h
  by_cases c2 : (l0.length : Int) > 20
  · rw [if_pos c2] at H
    have c2b0 : decide (20 < (l0.length : Int)) = true := decide_eq_true c2
    have c2b1 : decide (20 < l0.length) = true := decide_eq_true (by omega)
    clear c2
    obtain rfl := Option.some.inj H
    go_enter Try.func16, Try.ntmps16
    go_wp2
    go_ret
    exact ⟨by first | rfl | (simp; done) | (simp [*]; done), by repeat (first | exact Drawn0.refl _ | apply Drawn0.step)⟩
  · rw [if_neg c2] at H
    have c2b0 : decide (20 < (l0.length : Int)) = false := decide_eq_false c2
    have c2b1 : decide (20 < l0.length) = false := decide_eq_false (by omega)
    clear c2
    have H' := Aside0.mk H
    clear H
    go_enter Try.func16, Try.ntmps16
    go_wp2
    go_loopg [3] k (fun kq v3 w' => ∃ (x3_1 : Int), v3 = .int .i64 x3_1 ∧ Aside0 (towncrierlaw08_Few.l0 kq l0 x3_1 = some r) ∧ Aside0 (kq ≤ k) ∧ Drawn0 w w')
    case atStart => exact ⟨(0), (by first | rfl | (simp; done) | (simp [*]; done)), H', ⟨Nat.le_refl _⟩, by repeat (first | exact Drawn0.refl _ | apply Drawn0.step)⟩
    case round =>
      clear H'
      try clear c1
      try clear c2
      try clear c2b0
      try clear c2b1
      try clear p2
      obtain ⟨x3_1, rfl, HA, HK1, ⟨m1, rfl⟩⟩ := hrel
      cases gk with
      | zero => exact absurd HA.out (by simp [towncrierlaw08_Few.l0])
      | succ k1 =>
        have H := HA.out
        clear HA
        simp only [towncrierlaw08_Few.l0] at H
        by_cases c3 : x3_1 < (l0.length : Int)
        · rw [if_pos c3] at H
          have c3b0 : decide (x3_1 < (l0.length : Int)) = true := decide_eq_true c3
          clear c3
          by_cases c4 : 0 ≤ x3_1
          · rw [if_pos c4] at H
            have c4b0 : decide (0 ≤ x3_1) = true := decide_eq_true c4
            clear c4
            by_cases c5 : (((rd_T50 l0 x3_1).f2.f2).size : Int) > 100
            · rw [if_pos c5] at H
              have c5b0 : decide (100 < (((rd_T50 l0 x3_1).f2.f2).size : Int)) = true := decide_eq_true c5
              have c5b1 : decide (100 < ((rd_T50 l0 x3_1).f2.f2).size) = true := decide_eq_true (by omega)
              clear c5
              obtain rfl := Option.some.inj H
              have p194 : 0 ≤ (x3_1 : Int) := of_decide_eq_true (by first | (with_reducible assumption) | assumption)
              have q194 : x3_1 < (l0.length : Int) := of_decide_eq_true (by first | (with_reducible assumption) | assumption)
              obtain ⟨ad194, e194, hx194_0, hx194_1, hx194_2, hx194_3, hx194_4⟩ := at_T50 HR0.out x3_1 p194 q194
              cases e194
              replace p194 := eq_true p194
              replace q194 := eq_true q194
              go_wp2
              go_ret
              exact ⟨by first | rfl | (simp; done) | (simp [*]; done), by repeat (first | exact Drawn0.refl _ | apply Drawn0.step)⟩
            · rw [if_neg c5] at H
              have c5b0 : decide (100 < (((rd_T50 l0 x3_1).f2.f2).size : Int)) = false := decide_eq_false c5
              have c5b1 : decide (100 < ((rd_T50 l0 x3_1).f2.f2).size) = false := decide_eq_false (by omega)
              clear c5
              have H' := Aside0.mk H
              clear H
              have p194 : 0 ≤ (x3_1 : Int) := of_decide_eq_true (by first | (with_reducible assumption) | assumption)
              have q194 : x3_1 < (l0.length : Int) := of_decide_eq_true (by first | (with_reducible assumption) | assumption)
              obtain ⟨ad194, e194, hx194_0, hx194_1, hx194_2, hx194_3, hx194_4⟩ := at_T50 HR0.out x3_1 p194 q194
              cases e194
              replace p194 := eq_true p194
              replace q194 := eq_true q194
              go_wp2
              go_roundg k1
              case measure => have := HK1.out; omega
              case rel => exact ⟨(wrap64 (x3_1 + 1)), (by first | rfl | (simp; done) | (simp [*]; done)), H', ⟨by have := HK1.out; omega⟩, by repeat (first | exact Drawn0.refl _ | apply Drawn0.step)⟩
          · rw [if_neg c4] at H
            exact absurd H (by simp)
        · rw [if_neg c3] at H
          have c3b0 : decide (x3_1 < (l0.length : Int)) = false := decide_eq_false c3
          clear c3
          obtain rfl := Option.some.inj H
          go_wp2
          go_ret
          exact ⟨by first | rfl | (simp; done) | (simp [*]; done), by repeat (first | exact Drawn0.refl _ | apply Drawn0.step)⟩
end

section
open Go.RowKit Go.Proofs.YteommchgnocgnaaW.PrintWords Go.Proofs.YteommchgnocgnaaW.PrintLast Go.Proofs.YteommchgnocgnaaW.PrintMore
set_option linter.unusedVariables false
set_option linter.unusedSimpArgs false

theorem few06_l {nm : ByteArray} {at_ : Int} {vs : List S38} (hl : vs.length ≤ 10) : ∀ (n i : Nat), vs.length - i < n → i ≤ vs.length → ∃ b, towncrierlaw06_Few.l0 n (i : Int) nm at_ vs = some b := by
  intro n
  induction n with
  | zero => intro i h; omega
  | succ n ih =>
    intro i h hi
    simp only [towncrierlaw06_Few.l0]
    by_cases h1 : (i : Int) < (vs.length : Int)
    · rw [if_pos h1, if_pos (by omega)]
      by_cases h2 : ((rd_T38 vs (i : Int)).f2.size : Int) > 100
      · rw [if_pos h2]; exact ⟨_, rfl⟩
      · rw [if_neg h2, wrap64_id (by omega) (by omega)]
        have := ih (i + 1) (by omega) (by omega)
        simpa using this
    · rw [if_neg h1]; exact ⟨_, rfl⟩
theorem few06_some (nm : ByteArray) (at_ : Int) (vs : List S38) : ∃ b, towncrierlaw06_Few.f 13 nm at_ vs = some b := by
  unfold towncrierlaw06_Few.f
  by_cases h : (nm.size : Int) > 60
  · rw [if_pos h]; exact ⟨false, rfl⟩
  · rw [if_neg h]
    by_cases hl : (vs.length : Int) > 10
    · rw [decide_eq_true hl]; exact ⟨false, rfl⟩
    · rw [decide_eq_false hl]
      simp only [towncrierlaw06_Few.j0]
      rw [if_neg (by decide)]
      exact few06_l (by omega) 12 0 (by omega) (by omega)
end

end Go.Proofs.Yteommchgnocgnaa.PE
end

