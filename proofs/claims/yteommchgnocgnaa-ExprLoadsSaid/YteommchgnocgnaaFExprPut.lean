-- Written by a program of this session (drive.py, over the kit's printer): contracts of the functions that the printer takes, beside contracts proved by hand.
import Derived.Test.YteommchgnocgnaaPE0
import Derived.Test.YteommchgnocgnaaHandB
import Derived.Test.YteommchgnocgnaaHandE
import Derived.Test.YteommchgnocgnaaHandP
namespace Go.Proofs.Yteommchgnocgnaa.PE
open Go.RowKit Go.Proofs.YteommchgnocgnaaW.PrintWords Go.Proofs.YteommchgnocgnaaW.PrintLast Go.Proofs.YteommchgnocgnaaW.PrintMore
attribute [local go_sem] max2_int min2_int max_two min_two max_three min_three max_four min_four   -- for this text's walks alone
set_option linter.unusedVariables false
set_option linter.unusedSimpArgs false

/-! ### expr_Put: function 21 -/
def expr_Put.l0 : Nat → List Int → List (S50) → Int → Int → Option (List Int × Bool)
  | 0, _, _, _, _ => none
  | k + 1, x4, x16, x17, x18 => if x18 < x17 then (if 0 ≤ x18 then (if x18 < (x16.length : Int) then (if x4.length < 140737488355328 then ((some (x4 ++ [((rd_T50 x16 x18).f0) % 256] : List Int)).bind fun y120 => (if ((rd_T50 x16 x18).f0) = 0 then ((value_Put.f ((rd_T50 x16 x18).f2.f0) ((rd_T50 x16 x18).f2.f1) ((rd_T50 x16 x18).f2.f2)).bind fun bt123 => (if y120.length + bt123.1.length < 140737488355328 then (expr_Put.l0 k (y120 ++ bt123.1) x16 x17 (wrap64 (x18 + 1))) else (none))) else (if ((rd_T50 x16 x18).f0) = 1 then (if y120.length < 140737488355328 then (expr_Put.l0 k (y120 ++ [((rd_T50 x16 x18).f1) % 256]) x16 x17 (wrap64 (x18 + 1))) else (none)) else (expr_Put.l0 k y120 x16 x17 (wrap64 (x18 + 1)))))) else (none)) else (none)) else (none)) else (some (x4, true))
def expr_Put.f (k : Nat) (l0 : List (S50)) : Option (List Int × Bool) := (expr_may.f l0).bind fun t114 => (if t114 = true then ((le_Put.f (IntKind.u64.wrap ((l0.length : Int)))).bind fun t115 => (expr_Put.l0 k t115 l0 (l0.length : Int) 0)) else (some (([] : List Int), false)))
theorem expr_Put.mono_l : ∀ k, (∀ y0 y1 y2 y3, LeO (expr_Put.l0 k y0 y1 y2 y3) (expr_Put.l0 (k + 1) y0 y1 y2 y3))
  | 0 => fun _ _ _ _ r h => by simp [expr_Put.l0] at h
  | k + 1 => by
    have ih0 := expr_Put.mono_l k
    · intro y0 y1 y2 y3
      unfold expr_Put.l0
      repeat' first
      | (with_reducible exact ih0 _ _ _ _)
      | (with_reducible exact LeO.refl _)
      | (with_reducible exact LeO.none _)
      | (with_reducible refine LeO.ite ?_ ?_)
      | (with_reducible refine LeO.bind ?_ (fun _ => ?_))
      | exact ih0 _ _ _ _
      | exact LeO.none _
      | refine LeO.ite ?_ ?_
      | refine LeO.bind ?_ (fun _ => ?_)
theorem expr_Put.mono : ∀ a0 k, LeO (expr_Put.f k a0) (expr_Put.f (k + 1) a0) := by
  intro a0 k
  have ih0 := expr_Put.mono_l k
  unfold expr_Put.f
  repeat' first
      | (with_reducible exact ih0 _ _ _ _)
      | (with_reducible exact LeO.refl _)
      | (with_reducible exact LeO.none _)
      | (with_reducible refine LeO.ite ?_ ?_)
      | (with_reducible refine LeO.bind ?_ (fun _ => ?_))
      | exact ih0 _ _ _ _
      | exact LeO.none _
      | refine LeO.ite ?_ ?_
      | refine LeO.bind ?_ (fun _ => ?_)
set_option maxHeartbeats 8000000 in
set_option maxRecDepth 100000 in
theorem expr_Put.calls (k : Nat) (A0 : Option Addr) (c0 : Nat) (l0 : List (S50)) (r1 : List Int) (r2 : Bool) (w : World) (hr0 : Kd.C k50 w A0 l0.length l0) (hc0 : l0.length ≤ c0) (h : expr_Put.f k l0 = some (r1, r2)) :
    Calls Try.prog 21 #[.slice A0 l0.length c0] w fun e w' => ∃ v0_ : Value, e = .returned (.tuple #[v0_, .bool r2]) ∧ Kd.R (Kd.int .u8) 5 w' w.heap.size (fun _ => True) v0_ r1 ∧ Below w.heap.size w w' := by
  have hu50 := Try.underlying50
  have hu38 := Try.underlying38
  have HR0 := Aside0.mk hr0
  have HC0 := Aside0.mk hc0
  clear hr0 hc0
  have HB := Aside0.mk (Below.refl w.heap.size w)
  have H : ((expr_may.f l0).bind fun t114 => (if t114 = true then ((le_Put.f (IntKind.u64.wrap ((l0.length : Int)))).bind fun t115 => (expr_Put.l0 k t115 l0 (l0.length : Int) 0)) else (some (([] : List Int), false)))) = some (r1, r2) := h
  clear h
  replace H := Option.bind_eq_some_iff.mp H
  obtain ⟨t114, A20, H⟩ := H
  replace H : (if t114 = true then ((le_Put.f (IntKind.u64.wrap ((l0.length : Int)))).bind fun t115 => (expr_Put.l0 k t115 l0 (l0.length : Int) 0)) else (some (([] : List Int), false))) = some (r1, r2) := H
  have A2 := Aside0.mk A20
  clear A20
  by_cases c3 : t114 = true
  · subst c3
    have H1 : ((le_Put.f (IntKind.u64.wrap ((l0.length : Int)))).bind fun t115 => (expr_Put.l0 k t115 l0 (l0.length : Int) 0)) = some (r1, r2) := by rw [if_pos rfl] at H; exact H
    clear H
    have H := H1
    clear H1
    replace H := Option.bind_eq_some_iff.mp H
    obtain ⟨t115, A40, H⟩ := H
    replace H : (expr_Put.l0 k t115 l0 (l0.length : Int) 0) = some (r1, r2) := H
    have A4 := Aside0.mk A40
    clear A40
    have H' := Aside0.mk H
    clear H
    go_enter Try.func21, Try.ntmps21
    go_wp2_with (first | ((with_reducible refine gate_callee (f := 41) rfl ?_); refine goesL_ (some 10) rfl rfl Try.func41 (by kernel_rfl) rfl #[.slice A0 l0.length c0] rfl (by (try simp only [List.map_toArray, List.map_cons, List.map_nil]); first | done | rfl | (simp only [List.length_drop, List.length_take]; rfl)) ?_; (with_reducible refine (expr_may.calls _ _ l0 true _ ?side1 ?side2 A2.out).mono ?_); (case side1 => repeat (first | exact HR0.out | (with_reducible refine Kd.C_alloc ?_ _) | (with_reducible refine Kd.C_drewN ?_ _) | (with_reducible refine Kd.C_drew ?_))); (case side2 => exact HC0.out); rintro e w5 ⟨rfl, hb⟩; refine ⟨_, rfl, ?_⟩; have n0_ := Aside0.mk (below_step (by repeat (first | (with_reducible first | exact HB.out | apply below_alloc | apply pw_below_drewN | apply below_drew1) | exact HB.out)) hb); clear HB; have HB := n0_; clear n0_; (try clear hb); (try clear hb2); (try clear hk); (try clear hi)) | ((with_reducible refine gate_callee (f := 48) rfl ?_); refine goesL_ (some 15) rfl rfl Try.func48 (by kernel_rfl) rfl #[.int .u64 (IntKind.u64.wrap ((l0.length : Int)))] rfl (by (try simp only [List.map_toArray, List.map_cons, List.map_nil]); first | done | rfl | (simp only [List.length_drop, List.length_take]; rfl)) ?_; (with_reducible refine (le_Put.calls (IntKind.u64.wrap ((l0.length : Int))) t115 _ A4.out).mono ?_); rintro e w6 ⟨v116, rfl, ho0, hb⟩; refine ⟨_, rfl, ?_⟩; have n0_ := Aside0.mk (Kd.R_lower ho0 (below_size (by repeat (first | (with_reducible first | exact HB.out | apply below_alloc | apply pw_below_drewN | apply below_drew1) | exact HB.out)))); have n1_ := Aside0.mk (below_step (by repeat (first | (with_reducible first | exact HB.out | apply below_alloc | apply pw_below_drewN | apply below_drew1) | exact HB.out)) hb); clear HB; have HO117 := n0_; have HB := n1_; clear n0_ n1_; (try clear hb); (try clear hb2); (try clear hk); (try clear hi); (try clear ho0)))
    go_loopg [4, 18] k (fun kq v4 v18 w' => ∃ (x4_1 : List Int) (x18_1 : Int), v18 = .int .i64 x18_1 ∧ Aside0 (expr_Put.l0 kq x4_1 l0 (l0.length : Int) x18_1 = some (r1, r2)) ∧ Aside0 (kq ≤ k) ∧ Aside0 (Kd.R (Kd.int .u8) 5 w' w.heap.size (fun _ => True) v4 x4_1) ∧ Aside0 (Below w.heap.size w w'))
    case atStart => exact ⟨(t115), (0), (by first | rfl | (simp; done) | (simp [*]; done)), H', ⟨Nat.le_refl _⟩, ⟨by (with_reducible repeat (first | apply Kd.R_alloc | apply Kd.R_drewN | apply Kd.R_drew)); exact HO117.out⟩, ⟨by repeat (first | (with_reducible first | exact HB.out | apply below_alloc | apply pw_below_drewN | apply below_drew1) | exact HB.out)⟩⟩
    case round =>
      clear H'
      try clear c2
      try clear p2
      try clear c3
      try clear c4
      obtain ⟨x4_1, x18_1, rfl, HA, HK1, HO_4, HB⟩ := hrel
      cases gk with
      | zero => exact absurd HA.out (by simp [expr_Put.l0])
      | succ k1 =>
        have H := HA.out
        clear HA
        simp only [expr_Put.l0] at H
        by_cases c7 : x18_1 < (l0.length : Int)
        · rw [if_pos c7] at H
          have c7b0 : decide (x18_1 < (l0.length : Int)) = true := decide_eq_true c7
          clear c7
          by_cases c8 : 0 ≤ x18_1
          · rw [if_pos c8] at H
            have c8b0 : decide (0 ≤ x18_1) = true := decide_eq_true c8
            clear c8
            by_cases c9 : x18_1 < (l0.length : Int)
            · rw [if_pos c9] at H
              have c9b0 : decide (x18_1 < (l0.length : Int)) = true := decide_eq_true c9
              clear c9
              by_cases c10 : x4_1.length < 140737488355328
              · rw [if_pos c10] at H
                have LMc10 := Aside0.mk c10
                clear c10
                obtain ⟨y120, hy120⟩ : ∃ y_ : List Int, y_ = (x4_1 ++ [((rd_T50 l0 x18_1).f0) % 256]) := ⟨_, rfl⟩
                replace H : (if ((rd_T50 l0 x18_1).f0) = 0 then ((value_Put.f ((rd_T50 l0 x18_1).f2.f0) ((rd_T50 l0 x18_1).f2.f1) ((rd_T50 l0 x18_1).f2.f2)).bind fun bt123 => (if y120.length + bt123.1.length < 140737488355328 then (expr_Put.l0 k1 (y120 ++ bt123.1) l0 (l0.length : Int) (wrap64 (x18_1 + 1))) else (none))) else (if ((rd_T50 l0 x18_1).f0) = 1 then (if y120.length < 140737488355328 then (expr_Put.l0 k1 (y120 ++ [((rd_T50 l0 x18_1).f1) % 256]) l0 (l0.length : Int) (wrap64 (x18_1 + 1))) else (none)) else (expr_Put.l0 k1 y120 l0 (l0.length : Int) (wrap64 (x18_1 + 1))))) = some (r1, r2) := by first | (rw [hy120]; with_reducible exact H) | (have H2_ := (Option.bind_some _ _).symm.trans H; rw [hy120]; with_reducible exact H2_) | (have H2_ := (Option.bind_some _ _).symm.trans H; with_reducible exact H2_) | with_reducible exact H | (rw [hy120]; exact H) | exact H
                have Ny120 := Aside0.mk hy120
                clear hy120
                by_cases c11 : ((rd_T50 l0 x18_1).f0) = 0
                · rw [if_pos c11] at H
                  have c11b0 : (((rd_T50 l0 x18_1).f0) == 0) = true := beq_iff_eq.mpr c11
                  have c11b1 : (((rd_T50 l0 x18_1).f0) != 0) = false := bne_eq_false_iff_eq.mpr c11
                  clear c11
                  replace H := Option.bind_eq_some_iff.mp H
                  obtain ⟨⟨t123, t126⟩, A120, H⟩ := H
                  replace H : (if y120.length + t123.length < 140737488355328 then (expr_Put.l0 k1 (y120 ++ t123) l0 (l0.length : Int) (wrap64 (x18_1 + 1))) else (none)) = some (r1, r2) := H
                  have A12 := Aside0.mk A120
                  clear A120
                  by_cases c13 : y120.length + t123.length < 140737488355328
                  · rw [if_pos c13] at H
                    have LMc13 := Aside0.mk c13
                    clear c13
                    obtain ⟨y127, hy127⟩ : ∃ y_ : List Int, y_ = (y120 ++ t123) := ⟨_, rfl⟩
                    replace H : (expr_Put.l0 k1 y127 l0 (l0.length : Int) (wrap64 (x18_1 + 1))) = some (r1, r2) := by first | (rw [hy127]; with_reducible exact H) | (have H2_ := (Option.bind_some _ _).symm.trans H; rw [hy127]; with_reducible exact H2_) | (have H2_ := (Option.bind_some _ _).symm.trans H; with_reducible exact H2_) | with_reducible exact H | (rw [hy127]; exact H) | exact H
                    have Ny127 := Aside0.mk hy127
                    clear hy127
                    have H' := Aside0.mk H
                    clear H
                    have p118 : 0 ≤ (x18_1 : Int) := of_decide_eq_true (by first | (with_reducible assumption) | assumption)
                    have q118 : x18_1 < (l0.length : Int) := of_decide_eq_true (by first | (with_reducible assumption) | assumption)
                    obtain ⟨ad118, e118, hx118_0, hx118_1, hx118_2, hx118_3, hx118_4⟩ := at_T50 HR0.out x18_1 p118 q118
                    cases e118
                    replace hx118_0 := (HB.out.cell (World.block_lt_of_cell? w _ hx118_0)).trans hx118_0
                    replace hx118_1 := (HB.out.cell (World.block_lt_of_cell? w _ hx118_1)).trans hx118_1
                    replace hx118_2 := (HB.out.cell (World.block_lt_of_cell? w _ hx118_2)).trans hx118_2
                    replace hx118_3 := (HB.out.cell (World.block_lt_of_cell? w _ hx118_3)).trans hx118_3
                    replace hx118_4 := (HB.out.cell (World.block_lt_of_cell? w _ hx118_4)).trans hx118_4
                    replace p118 := eq_true p118
                    replace q118 := eq_true q118
                    go_wp2_with (first | ((with_reducible refine gate_dst (N := 6) rfl ?_); refine box_event ?hg (N := 6) ?hd (cs := #[.int .i64 0, .int .i64 0, .int .i64 0, .int .i64 0, .string (⟨#[]⟩ : ByteArray)]) (t := 50) ?hr ?_; (case hd => rfl); (case hg => rfl); (case hr => first | (go_simp; done) | (go_simp; rfl)); intro gb119 hg w14 hbox hb; have n0_ := Aside0.mk (Kd.R_below (by (with_reducible repeat (first | apply Kd.R_alloc | apply Kd.R_drewN | apply Kd.R_drew)); exact HO_4.out) hb); have n1_ := Aside0.mk (below_step (by repeat (first | (with_reducible first | exact HB.out | apply below_alloc | apply pw_below_drewN | apply below_drew1) | exact HB.out)) hb); have n2_ := Aside0.mk (hbox); have n3_ := Aside0.mk ((by rw [hg]; exact (below_size (by repeat (first | (with_reducible first | exact HB.out | apply below_alloc | apply pw_below_drewN | apply below_drew1) | exact HB.out))) : w.heap.size ≤ gb119)); have n4_ := Aside0.mk ((by rw [hg]; exact (below_size (by repeat (first | (with_reducible first | exact HB.out | apply below_alloc | apply pw_below_drewN | apply below_drew1) | exact HB.out))) : w.heap.size ≤ gb119)); clear HO_4; clear HB; have HO_4 := n0_; have HB := n1_; have BK119 := n2_; have GW119 := n3_; have GE119 := n4_; clear n0_ n1_ n2_ n3_ n4_; clear hb hbox hg; have hcz15_0 : w14.cell? ⟨gb119, 0, none⟩ = some (.int .i64 0) := (blk_cell BK119.out 0).trans rfl; have hcz15_1 : w14.cell? ⟨gb119, 1, none⟩ = some (.int .i64 0) := (blk_cell BK119.out 1).trans rfl; have hcz15_2 : w14.cell? ⟨gb119, 2, none⟩ = some (.int .i64 0) := (blk_cell BK119.out 2).trans rfl; have hcz15_3 : w14.cell? ⟨gb119, 3, none⟩ = some (.int .i64 0) := (blk_cell BK119.out 3).trans rfl; have hcz15_4 : w14.cell? ⟨gb119, 4, none⟩ = some (.string (⟨#[]⟩ : ByteArray)) := (blk_cell BK119.out 4).trans rfl; have hfz15_0 := blk_frozen BK119.out 0; have hfz15_1 := blk_frozen BK119.out 1; have hfz15_2 := blk_frozen BK119.out 2; have hfz15_3 := blk_frozen BK119.out 3; have hfz15_4 := blk_frozen BK119.out 4) | ((with_reducible refine gate_builtin (b := .append) (xs := #[.tmp 22, .tmp 26]) rfl ?_); at_builtin; refine Kd.R_append (Kd.int .u8) (w0 := w) w.heap.size rfl (.tmp 22) (.tmp 26) 29 5 (.int .u8 0) 1 rfl Try.underlying29 info5 rfl (by decide) (by omega) u4 x4_1 (((rd_T50 l0 x18_1).f0) % 256) [.int .u8 (((rd_T50 l0 x18_1).f0) % 256)] (fun _ => True) (fun _ => False) rfl (by first | (go_simp; done) | (go_simp; rfl)) ?aP (fun _ hk => hk.elim) ?aF ?aO ?aB ?aS ?aL ?_; (case aP => exact rfl); (case aB => exact (by repeat (first | (with_reducible first | exact HB.out | apply below_alloc | apply pw_below_drewN | apply below_drew1 | refine below_set ?_ GE119.out) | exact HB.out))); (case aF => exact (fun _ _ => trivial)); (case aO => exact (by (with_reducible repeat (first | apply Kd.R_alloc | apply Kd.R_drewN | apply Kd.R_drew)); exact Kd.R_mono (Kd.R_far (p := ⟨gb119, 4, none⟩) (Kd.R_far (p := ⟨gb119, 3, none⟩) (Kd.R_far (p := ⟨gb119, 2, none⟩) (Kd.R_far (p := ⟨gb119, 1, none⟩) (Kd.R_far (p := ⟨gb119, 0, none⟩) (Kd.R_types HO_4.out BK119.out (by decide)) (fun _ hk => hk.2) (.int .i64 ((rd_T50 l0 x18_1).f0))) (fun _ hk => hk.2) (.int .i64 ((rd_T50 l0 x18_1).f1))) (fun _ hk => hk.2) (.int .i64 ((rd_T50 l0 x18_1).f2.f0))) (fun _ hk => hk.2) (.int .i64 ((rd_T50 l0 x18_1).f2.f1))) (fun _ hk => hk.2) (.string ((rd_T50 l0 x18_1).f2.f2))) (fun _ hk => trivial))); (case aS => exact (below_size (by repeat (first | (with_reducible first | exact HB.out | apply below_alloc | apply pw_below_drewN | apply below_drew1 | refine below_set ?_ GE119.out) | exact HB.out)))); (case aL => have := LMc10.out; omega); intro v121 w16 ho hb hg hat; rw [← Ny120.out] at ho; have n0_ := Aside0.mk (blk_grown (g := gb119) (o := .cells #[.int .i64 ((rd_T50 l0 x18_1).f0), .int .i64 ((rd_T50 l0 x18_1).f1), .int .i64 ((rd_T50 l0 x18_1).f2.f0), .int .i64 ((rd_T50 l0 x18_1).f2.f1), .string ((rd_T50 l0 x18_1).f2.f2)] 50 (0, 0)) (by (with_reducible repeat (first | refine blk_drewN ?_ _ | refine blk_drew ?_ | refine blk_alloc ?_ _)); refine blk_put (cs := #[.int .i64 ((rd_T50 l0 x18_1).f0), .int .i64 ((rd_T50 l0 x18_1).f1), .int .i64 ((rd_T50 l0 x18_1).f2.f0), .int .i64 ((rd_T50 l0 x18_1).f2.f1), .string (⟨#[]⟩ : ByteArray)]) ?_ 4 _ rfl; (with_reducible repeat (first | refine blk_drewN ?_ _ | refine blk_drew ?_ | refine blk_alloc ?_ _)); refine blk_put (cs := #[.int .i64 ((rd_T50 l0 x18_1).f0), .int .i64 ((rd_T50 l0 x18_1).f1), .int .i64 ((rd_T50 l0 x18_1).f2.f0), .int .i64 0, .string (⟨#[]⟩ : ByteArray)]) ?_ 3 _ rfl; (with_reducible repeat (first | refine blk_drewN ?_ _ | refine blk_drew ?_ | refine blk_alloc ?_ _)); refine blk_put (cs := #[.int .i64 ((rd_T50 l0 x18_1).f0), .int .i64 ((rd_T50 l0 x18_1).f1), .int .i64 0, .int .i64 0, .string (⟨#[]⟩ : ByteArray)]) ?_ 2 _ rfl; (with_reducible repeat (first | refine blk_drewN ?_ _ | refine blk_drew ?_ | refine blk_alloc ?_ _)); refine blk_put (cs := #[.int .i64 ((rd_T50 l0 x18_1).f0), .int .i64 0, .int .i64 0, .int .i64 0, .string (⟨#[]⟩ : ByteArray)]) ?_ 1 _ rfl; (with_reducible repeat (first | refine blk_drewN ?_ _ | refine blk_drew ?_ | refine blk_alloc ?_ _)); refine blk_put (cs := #[.int .i64 0, .int .i64 0, .int .i64 0, .int .i64 0, .string (⟨#[]⟩ : ByteArray)]) ?_ 0 _ rfl; (with_reducible repeat (first | refine blk_drewN ?_ _ | refine blk_drew ?_ | refine blk_alloc ?_ _)); exact BK119.out) hg (Kd.R_ne HO_4.out BK119.out (by decide))); have n1_ := Aside0.mk (hb); have n2_ := Aside0.mk (ho); clear BK119; clear HB; clear HO_4; have BK119 := n0_; have HB := n1_; have HO122 := n2_; clear n0_ n1_ n2_; clear ho hb hg hat; have hcz17_0 : w16.cell? ⟨gb119, 0, none⟩ = some (.int .i64 ((rd_T50 l0 x18_1).f0)) := (blk_cell BK119.out 0).trans rfl; have hcz17_1 : w16.cell? ⟨gb119, 1, none⟩ = some (.int .i64 ((rd_T50 l0 x18_1).f1)) := (blk_cell BK119.out 1).trans rfl; have hcz17_2 : w16.cell? ⟨gb119, 2, none⟩ = some (.int .i64 ((rd_T50 l0 x18_1).f2.f0)) := (blk_cell BK119.out 2).trans rfl; have hcz17_3 : w16.cell? ⟨gb119, 3, none⟩ = some (.int .i64 ((rd_T50 l0 x18_1).f2.f1)) := (blk_cell BK119.out 3).trans rfl; have hcz17_4 : w16.cell? ⟨gb119, 4, none⟩ = some (.string ((rd_T50 l0 x18_1).f2.f2)) := (blk_cell BK119.out 4).trans rfl; have hfz17_0 := blk_frozen BK119.out 0; have hfz17_1 := blk_frozen BK119.out 1; have hfz17_2 := blk_frozen BK119.out 2; have hfz17_3 := blk_frozen BK119.out 3; have hfz17_4 := blk_frozen BK119.out 4) | ((with_reducible refine gate_callee (f := 49) rfl ?_); refine goesL_ (some 35) rfl rfl Try.func49 (by kernel_rfl) rfl #[.agg #[.int .i64 ((rd_T50 l0 x18_1).f2.f0), .int .i64 ((rd_T50 l0 x18_1).f2.f1), .string ((rd_T50 l0 x18_1).f2.f2)]] rfl (by (try simp only [List.map_toArray, List.map_cons, List.map_nil]); first | done | rfl | (simp only [List.length_drop, List.length_take]; rfl)) ?_; (with_reducible refine (value_Put.calls ((rd_T50 l0 x18_1).f2.f0) ((rd_T50 l0 x18_1).f2.f1) ((rd_T50 l0 x18_1).f2.f2) t123 t126 _ A12.out).mono ?_); rintro e w18 ⟨v124, rfl, ho0, hb⟩; refine ⟨_, rfl, ?_⟩; have n0_ := Aside0.mk (Kd.R_elder' (by (with_reducible repeat (first | apply Kd.R_alloc | apply Kd.R_drewN | apply Kd.R_drew)); exact HO122.out) (Kd.R_base ho0) hb); have n1_ := Aside0.mk (Kd.R_lower (Kd.R_new' ho0 (Kd.R_lt (by (with_reducible repeat (first | apply Kd.R_alloc | apply Kd.R_drewN | apply Kd.R_drew)); exact HO122.out))) (below_size (by repeat (first | (with_reducible first | exact HB.out | apply below_alloc | apply pw_below_drewN | apply below_drew1 | refine below_set ?_ GE119.out) | exact HB.out)))); have n2_ := Aside0.mk (blk_below (g := gb119) (o := .cells #[.int .i64 ((rd_T50 l0 x18_1).f0), .int .i64 ((rd_T50 l0 x18_1).f1), .int .i64 ((rd_T50 l0 x18_1).f2.f0), .int .i64 ((rd_T50 l0 x18_1).f2.f1), .string ((rd_T50 l0 x18_1).f2.f2)] 50 (0, 0)) (by (with_reducible repeat (first | refine blk_drewN ?_ _ | refine blk_drew ?_ | refine blk_alloc ?_ _)); exact BK119.out) hb); have n3_ := Aside0.mk (below_step (by repeat (first | (with_reducible first | exact HB.out | apply below_alloc | apply pw_below_drewN | apply below_drew1 | refine below_set ?_ GE119.out) | exact HB.out)) hb); clear HO122; clear BK119; clear HB; have HO122 := n0_; have HO125 := n1_; have BK119 := n2_; have HB := n3_; clear n0_ n1_ n2_ n3_; (try clear hb); (try clear hb2); (try clear hk); (try clear hi); (try clear ho0); obtain ⟨Ao20, co20, eo20⟩ := Kd.R_slice HO125.out; subst eo20) | ((with_reducible refine gate_builtin (b := .append) (xs := #[.tmp 38, .tmp 39]) rfl ?_); at_builtin; refine Kd.R_append_rows (Kd.int .u8) (w0 := w) w.heap.size rfl (.tmp 38) (.tmp 39) 29 5 (.int .u8 0) 1 rfl Try.underlying29 info5 rfl (by decide) (by omega) v121 y120 t123 _ _ _ (fun k_ => some k_ ≠ (.slice Ao20 t123.length co20 : Value).ownBlock) (fun _ => False) rfl rfl ?aO ?aR (fun _ _ h => h) (fun _ h => h.elim) ?aF ?aB ?aS ?aL ?_; (case aR => repeat (first | exact (Kd.R_reads' HO125.out).2.2 | (with_reducible refine Kd.C_alloc ?_ _) | (with_reducible refine Kd.C_drewN ?_ _) | (with_reducible refine Kd.C_drew ?_))); (case aB => exact (by repeat (first | (with_reducible first | exact HB.out | apply below_alloc | apply pw_below_drewN | apply below_drew1 | refine below_set ?_ GE119.out) | exact HB.out))); (case aF => exact (fun k_ hk => Kd.fresh' (Kd.R_lt (by (with_reducible repeat (first | apply Kd.R_alloc | apply Kd.R_drewN | apply Kd.R_drew)); exact HO125.out)) k_ hk)); (case aO => exact (by (with_reducible repeat (first | apply Kd.R_alloc | apply Kd.R_drewN | apply Kd.R_drew)); exact Kd.R_mono HO122.out (fun _ hk => hk.2))); (case aS => exact (below_size (by repeat (first | (with_reducible first | exact HB.out | apply below_alloc | apply pw_below_drewN | apply below_drew1 | refine below_set ?_ GE119.out) | exact HB.out)))); (case aL => have := LMc13.out; omega); intro v128 w19 ho hb hg hat; rw [← Ny127.out] at ho; have n0_ := Aside0.mk (blk_grown (g := gb119) (o := .cells #[.int .i64 ((rd_T50 l0 x18_1).f0), .int .i64 ((rd_T50 l0 x18_1).f1), .int .i64 ((rd_T50 l0 x18_1).f2.f0), .int .i64 ((rd_T50 l0 x18_1).f2.f1), .string ((rd_T50 l0 x18_1).f2.f2)] 50 (0, 0)) (by (with_reducible repeat (first | refine blk_drewN ?_ _ | refine blk_drew ?_ | refine blk_alloc ?_ _)); exact BK119.out) hg (Kd.R_ne HO122.out BK119.out (by decide))); have n1_ := Aside0.mk (Kd.R_after (ok := (fun _ => True)) (by (with_reducible repeat (first | apply Kd.R_alloc | apply Kd.R_drewN | apply Kd.R_drew)); exact HO125.out) hg hat); have n2_ := Aside0.mk (hb); have n3_ := Aside0.mk (ho); clear BK119; clear HO125; clear HB; clear HO122; have BK119 := n0_; have HO125 := n1_; have HB := n2_; have HO129 := n3_; clear n0_ n1_ n2_ n3_; clear ho hb hg hat))
                    go_roundg k1
                    case measure => have := HK1.out; omega
                    case rel => exact ⟨(y127), (wrap64 (x18_1 + 1)), (by first | rfl | (simp; done) | (simp [*]; done)), H', ⟨by have := HK1.out; omega⟩, ⟨by (with_reducible repeat (first | apply Kd.R_alloc | apply Kd.R_drewN | apply Kd.R_drew)); exact Kd.R_mono HO129.out (fun _ hk => trivial)⟩, ⟨by repeat (first | (with_reducible first | exact HB.out | apply below_alloc | apply pw_below_drewN | apply below_drew1 | refine below_set ?_ GE119.out) | exact HB.out)⟩⟩
                  · rw [if_neg c13] at H
                    exact absurd H (by simp)
                · rw [if_neg c11] at H
                  have c11b0 : (((rd_T50 l0 x18_1).f0) == 0) = false := beq_eq_false_iff_ne.mpr c11
                  have c11b1 : (((rd_T50 l0 x18_1).f0) != 0) = true := bne_iff_ne.mpr c11
                  by_cases c21 : ((rd_T50 l0 x18_1).f0) = 1
                  · rw [if_pos c21] at H
                    have c21b0 : (((rd_T50 l0 x18_1).f0) == 1) = true := beq_iff_eq.mpr c21
                    have c21b1 : (((rd_T50 l0 x18_1).f0) != 1) = false := bne_eq_false_iff_eq.mpr c21
                    clear c21
                    by_cases c22 : y120.length < 140737488355328
                    · rw [if_pos c22] at H
                      have LMc22 := Aside0.mk c22
                      clear c22
                      obtain ⟨y130, hy130⟩ : ∃ y_ : List Int, y_ = (y120 ++ [((rd_T50 l0 x18_1).f1) % 256]) := ⟨_, rfl⟩
                      replace H : (expr_Put.l0 k1 y130 l0 (l0.length : Int) (wrap64 (x18_1 + 1))) = some (r1, r2) := by first | (rw [hy130]; with_reducible exact H) | (have H2_ := (Option.bind_some _ _).symm.trans H; rw [hy130]; with_reducible exact H2_) | (have H2_ := (Option.bind_some _ _).symm.trans H; with_reducible exact H2_) | with_reducible exact H | (rw [hy130]; exact H) | exact H
                      have Ny130 := Aside0.mk hy130
                      clear hy130
                      have H' := Aside0.mk H
                      clear H
                      have p118 : 0 ≤ (x18_1 : Int) := of_decide_eq_true (by first | (with_reducible assumption) | assumption)
                      have q118 : x18_1 < (l0.length : Int) := of_decide_eq_true (by first | (with_reducible assumption) | assumption)
                      obtain ⟨ad118, e118, hx118_0, hx118_1, hx118_2, hx118_3, hx118_4⟩ := at_T50 HR0.out x18_1 p118 q118
                      cases e118
                      replace hx118_0 := (HB.out.cell (World.block_lt_of_cell? w _ hx118_0)).trans hx118_0
                      replace hx118_1 := (HB.out.cell (World.block_lt_of_cell? w _ hx118_1)).trans hx118_1
                      replace hx118_2 := (HB.out.cell (World.block_lt_of_cell? w _ hx118_2)).trans hx118_2
                      replace hx118_3 := (HB.out.cell (World.block_lt_of_cell? w _ hx118_3)).trans hx118_3
                      replace hx118_4 := (HB.out.cell (World.block_lt_of_cell? w _ hx118_4)).trans hx118_4
                      replace p118 := eq_true p118
                      replace q118 := eq_true q118
                      go_wp2_with (first | ((with_reducible refine gate_dst (N := 6) rfl ?_); refine box_event ?hg (N := 6) ?hd (cs := #[.int .i64 0, .int .i64 0, .int .i64 0, .int .i64 0, .string (⟨#[]⟩ : ByteArray)]) (t := 50) ?hr ?_; (case hd => rfl); (case hg => rfl); (case hr => first | (go_simp; done) | (go_simp; rfl)); intro gb119 hg w23 hbox hb; have n0_ := Aside0.mk (Kd.R_below (by (with_reducible repeat (first | apply Kd.R_alloc | apply Kd.R_drewN | apply Kd.R_drew)); exact HO_4.out) hb); have n1_ := Aside0.mk (below_step (by repeat (first | (with_reducible first | exact HB.out | apply below_alloc | apply pw_below_drewN | apply below_drew1) | exact HB.out)) hb); have n2_ := Aside0.mk (hbox); have n3_ := Aside0.mk ((by rw [hg]; exact (below_size (by repeat (first | (with_reducible first | exact HB.out | apply below_alloc | apply pw_below_drewN | apply below_drew1) | exact HB.out))) : w.heap.size ≤ gb119)); have n4_ := Aside0.mk ((by rw [hg]; exact (below_size (by repeat (first | (with_reducible first | exact HB.out | apply below_alloc | apply pw_below_drewN | apply below_drew1) | exact HB.out))) : w.heap.size ≤ gb119)); clear HO_4; clear HB; have HO_4 := n0_; have HB := n1_; have BK119 := n2_; have GW119 := n3_; have GE119 := n4_; clear n0_ n1_ n2_ n3_ n4_; clear hb hbox hg; have hcz24_0 : w23.cell? ⟨gb119, 0, none⟩ = some (.int .i64 0) := (blk_cell BK119.out 0).trans rfl; have hcz24_1 : w23.cell? ⟨gb119, 1, none⟩ = some (.int .i64 0) := (blk_cell BK119.out 1).trans rfl; have hcz24_2 : w23.cell? ⟨gb119, 2, none⟩ = some (.int .i64 0) := (blk_cell BK119.out 2).trans rfl; have hcz24_3 : w23.cell? ⟨gb119, 3, none⟩ = some (.int .i64 0) := (blk_cell BK119.out 3).trans rfl; have hcz24_4 : w23.cell? ⟨gb119, 4, none⟩ = some (.string (⟨#[]⟩ : ByteArray)) := (blk_cell BK119.out 4).trans rfl; have hfz24_0 := blk_frozen BK119.out 0; have hfz24_1 := blk_frozen BK119.out 1; have hfz24_2 := blk_frozen BK119.out 2; have hfz24_3 := blk_frozen BK119.out 3; have hfz24_4 := blk_frozen BK119.out 4) | ((with_reducible refine gate_builtin (b := .append) (xs := #[.tmp 22, .tmp 26]) rfl ?_); at_builtin; refine Kd.R_append (Kd.int .u8) (w0 := w) w.heap.size rfl (.tmp 22) (.tmp 26) 29 5 (.int .u8 0) 1 rfl Try.underlying29 info5 rfl (by decide) (by omega) u4 x4_1 (((rd_T50 l0 x18_1).f0) % 256) [.int .u8 (((rd_T50 l0 x18_1).f0) % 256)] (fun _ => True) (fun _ => False) rfl (by first | (go_simp; done) | (go_simp; rfl)) ?aP (fun _ hk => hk.elim) ?aF ?aO ?aB ?aS ?aL ?_; (case aP => exact rfl); (case aB => exact (by repeat (first | (with_reducible first | exact HB.out | apply below_alloc | apply pw_below_drewN | apply below_drew1 | refine below_set ?_ GE119.out) | exact HB.out))); (case aF => exact (fun _ _ => trivial)); (case aO => exact (by (with_reducible repeat (first | apply Kd.R_alloc | apply Kd.R_drewN | apply Kd.R_drew)); exact Kd.R_mono (Kd.R_far (p := ⟨gb119, 4, none⟩) (Kd.R_far (p := ⟨gb119, 3, none⟩) (Kd.R_far (p := ⟨gb119, 2, none⟩) (Kd.R_far (p := ⟨gb119, 1, none⟩) (Kd.R_far (p := ⟨gb119, 0, none⟩) (Kd.R_types HO_4.out BK119.out (by decide)) (fun _ hk => hk.2) (.int .i64 ((rd_T50 l0 x18_1).f0))) (fun _ hk => hk.2) (.int .i64 ((rd_T50 l0 x18_1).f1))) (fun _ hk => hk.2) (.int .i64 ((rd_T50 l0 x18_1).f2.f0))) (fun _ hk => hk.2) (.int .i64 ((rd_T50 l0 x18_1).f2.f1))) (fun _ hk => hk.2) (.string ((rd_T50 l0 x18_1).f2.f2))) (fun _ hk => trivial))); (case aS => exact (below_size (by repeat (first | (with_reducible first | exact HB.out | apply below_alloc | apply pw_below_drewN | apply below_drew1 | refine below_set ?_ GE119.out) | exact HB.out)))); (case aL => have := LMc10.out; omega); intro v121 w25 ho hb hg hat; rw [← Ny120.out] at ho; have n0_ := Aside0.mk (blk_grown (g := gb119) (o := .cells #[.int .i64 ((rd_T50 l0 x18_1).f0), .int .i64 ((rd_T50 l0 x18_1).f1), .int .i64 ((rd_T50 l0 x18_1).f2.f0), .int .i64 ((rd_T50 l0 x18_1).f2.f1), .string ((rd_T50 l0 x18_1).f2.f2)] 50 (0, 0)) (by (with_reducible repeat (first | refine blk_drewN ?_ _ | refine blk_drew ?_ | refine blk_alloc ?_ _)); refine blk_put (cs := #[.int .i64 ((rd_T50 l0 x18_1).f0), .int .i64 ((rd_T50 l0 x18_1).f1), .int .i64 ((rd_T50 l0 x18_1).f2.f0), .int .i64 ((rd_T50 l0 x18_1).f2.f1), .string (⟨#[]⟩ : ByteArray)]) ?_ 4 _ rfl; (with_reducible repeat (first | refine blk_drewN ?_ _ | refine blk_drew ?_ | refine blk_alloc ?_ _)); refine blk_put (cs := #[.int .i64 ((rd_T50 l0 x18_1).f0), .int .i64 ((rd_T50 l0 x18_1).f1), .int .i64 ((rd_T50 l0 x18_1).f2.f0), .int .i64 0, .string (⟨#[]⟩ : ByteArray)]) ?_ 3 _ rfl; (with_reducible repeat (first | refine blk_drewN ?_ _ | refine blk_drew ?_ | refine blk_alloc ?_ _)); refine blk_put (cs := #[.int .i64 ((rd_T50 l0 x18_1).f0), .int .i64 ((rd_T50 l0 x18_1).f1), .int .i64 0, .int .i64 0, .string (⟨#[]⟩ : ByteArray)]) ?_ 2 _ rfl; (with_reducible repeat (first | refine blk_drewN ?_ _ | refine blk_drew ?_ | refine blk_alloc ?_ _)); refine blk_put (cs := #[.int .i64 ((rd_T50 l0 x18_1).f0), .int .i64 0, .int .i64 0, .int .i64 0, .string (⟨#[]⟩ : ByteArray)]) ?_ 1 _ rfl; (with_reducible repeat (first | refine blk_drewN ?_ _ | refine blk_drew ?_ | refine blk_alloc ?_ _)); refine blk_put (cs := #[.int .i64 0, .int .i64 0, .int .i64 0, .int .i64 0, .string (⟨#[]⟩ : ByteArray)]) ?_ 0 _ rfl; (with_reducible repeat (first | refine blk_drewN ?_ _ | refine blk_drew ?_ | refine blk_alloc ?_ _)); exact BK119.out) hg (Kd.R_ne HO_4.out BK119.out (by decide))); have n1_ := Aside0.mk (hb); have n2_ := Aside0.mk (ho); clear BK119; clear HB; clear HO_4; have BK119 := n0_; have HB := n1_; have HO122 := n2_; clear n0_ n1_ n2_; clear ho hb hg hat; have hcz26_0 : w25.cell? ⟨gb119, 0, none⟩ = some (.int .i64 ((rd_T50 l0 x18_1).f0)) := (blk_cell BK119.out 0).trans rfl; have hcz26_1 : w25.cell? ⟨gb119, 1, none⟩ = some (.int .i64 ((rd_T50 l0 x18_1).f1)) := (blk_cell BK119.out 1).trans rfl; have hcz26_2 : w25.cell? ⟨gb119, 2, none⟩ = some (.int .i64 ((rd_T50 l0 x18_1).f2.f0)) := (blk_cell BK119.out 2).trans rfl; have hcz26_3 : w25.cell? ⟨gb119, 3, none⟩ = some (.int .i64 ((rd_T50 l0 x18_1).f2.f1)) := (blk_cell BK119.out 3).trans rfl; have hcz26_4 : w25.cell? ⟨gb119, 4, none⟩ = some (.string ((rd_T50 l0 x18_1).f2.f2)) := (blk_cell BK119.out 4).trans rfl; have hfz26_0 := blk_frozen BK119.out 0; have hfz26_1 := blk_frozen BK119.out 1; have hfz26_2 := blk_frozen BK119.out 2; have hfz26_3 := blk_frozen BK119.out 3; have hfz26_4 := blk_frozen BK119.out 4) | ((with_reducible refine gate_builtin (b := .append) (xs := #[.tmp 43, .tmp 47]) rfl ?_); at_builtin; refine Kd.R_append (Kd.int .u8) (w0 := w) w.heap.size rfl (.tmp 43) (.tmp 47) 29 5 (.int .u8 0) 1 rfl Try.underlying29 info5 rfl (by decide) (by omega) v121 y120 (((rd_T50 l0 x18_1).f1) % 256) [.int .u8 (((rd_T50 l0 x18_1).f1) % 256)] (fun _ => True) (fun _ => False) rfl rfl ?aP (fun _ hk => hk.elim) ?aF ?aO ?aB ?aS ?aL ?_; (case aP => exact rfl); (case aB => exact (by repeat (first | (with_reducible first | exact HB.out | apply below_alloc | apply pw_below_drewN | apply below_drew1 | refine below_set ?_ GE119.out) | exact HB.out))); (case aF => exact (fun _ _ => trivial)); (case aO => exact (by (with_reducible repeat (first | apply Kd.R_alloc | apply Kd.R_drewN | apply Kd.R_drew)); exact HO122.out)); (case aS => exact (below_size (by repeat (first | (with_reducible first | exact HB.out | apply below_alloc | apply pw_below_drewN | apply below_drew1 | refine below_set ?_ GE119.out) | exact HB.out)))); (case aL => have := LMc22.out; omega); intro v131 w27 ho hb hg hat; rw [← Ny130.out] at ho; have n0_ := Aside0.mk (blk_grown (g := gb119) (o := .cells #[.int .i64 ((rd_T50 l0 x18_1).f0), .int .i64 ((rd_T50 l0 x18_1).f1), .int .i64 ((rd_T50 l0 x18_1).f2.f0), .int .i64 ((rd_T50 l0 x18_1).f2.f1), .string ((rd_T50 l0 x18_1).f2.f2)] 50 (0, 0)) (by (with_reducible repeat (first | refine blk_drewN ?_ _ | refine blk_drew ?_ | refine blk_alloc ?_ _)); exact BK119.out) hg (Kd.R_ne HO122.out BK119.out (by decide))); have n1_ := Aside0.mk (hb); have n2_ := Aside0.mk (ho); clear BK119; clear HB; clear HO122; have BK119 := n0_; have HB := n1_; have HO132 := n2_; clear n0_ n1_ n2_; clear ho hb hg hat))
                      go_roundg k1
                      case measure => have := HK1.out; omega
                      case rel => exact ⟨(y130), (wrap64 (x18_1 + 1)), (by first | rfl | (simp; done) | (simp [*]; done)), H', ⟨by have := HK1.out; omega⟩, ⟨by (with_reducible repeat (first | apply Kd.R_alloc | apply Kd.R_drewN | apply Kd.R_drew)); exact HO132.out⟩, ⟨by repeat (first | (with_reducible first | exact HB.out | apply below_alloc | apply pw_below_drewN | apply below_drew1 | refine below_set ?_ GE119.out) | exact HB.out)⟩⟩
                    · rw [if_neg c22] at H
                      exact absurd H (by simp)
                  · rw [if_neg c21] at H
                    have c21b0 : (((rd_T50 l0 x18_1).f0) == 1) = false := beq_eq_false_iff_ne.mpr c21
                    have c21b1 : (((rd_T50 l0 x18_1).f0) != 1) = true := bne_iff_ne.mpr c21
                    have H' := Aside0.mk H
                    clear H
                    have p118 : 0 ≤ (x18_1 : Int) := of_decide_eq_true (by first | (with_reducible assumption) | assumption)
                    have q118 : x18_1 < (l0.length : Int) := of_decide_eq_true (by first | (with_reducible assumption) | assumption)
                    obtain ⟨ad118, e118, hx118_0, hx118_1, hx118_2, hx118_3, hx118_4⟩ := at_T50 HR0.out x18_1 p118 q118
                    cases e118
                    replace hx118_0 := (HB.out.cell (World.block_lt_of_cell? w _ hx118_0)).trans hx118_0
                    replace hx118_1 := (HB.out.cell (World.block_lt_of_cell? w _ hx118_1)).trans hx118_1
                    replace hx118_2 := (HB.out.cell (World.block_lt_of_cell? w _ hx118_2)).trans hx118_2
                    replace hx118_3 := (HB.out.cell (World.block_lt_of_cell? w _ hx118_3)).trans hx118_3
                    replace hx118_4 := (HB.out.cell (World.block_lt_of_cell? w _ hx118_4)).trans hx118_4
                    replace p118 := eq_true p118
                    replace q118 := eq_true q118
                    go_wp2_with (first | ((with_reducible refine gate_dst (N := 6) rfl ?_); refine box_event ?hg (N := 6) ?hd (cs := #[.int .i64 0, .int .i64 0, .int .i64 0, .int .i64 0, .string (⟨#[]⟩ : ByteArray)]) (t := 50) ?hr ?_; (case hd => rfl); (case hg => rfl); (case hr => first | (go_simp; done) | (go_simp; rfl)); intro gb119 hg w28 hbox hb; have n0_ := Aside0.mk (Kd.R_below (by (with_reducible repeat (first | apply Kd.R_alloc | apply Kd.R_drewN | apply Kd.R_drew)); exact HO_4.out) hb); have n1_ := Aside0.mk (below_step (by repeat (first | (with_reducible first | exact HB.out | apply below_alloc | apply pw_below_drewN | apply below_drew1) | exact HB.out)) hb); have n2_ := Aside0.mk (hbox); have n3_ := Aside0.mk ((by rw [hg]; exact (below_size (by repeat (first | (with_reducible first | exact HB.out | apply below_alloc | apply pw_below_drewN | apply below_drew1) | exact HB.out))) : w.heap.size ≤ gb119)); have n4_ := Aside0.mk ((by rw [hg]; exact (below_size (by repeat (first | (with_reducible first | exact HB.out | apply below_alloc | apply pw_below_drewN | apply below_drew1) | exact HB.out))) : w.heap.size ≤ gb119)); clear HO_4; clear HB; have HO_4 := n0_; have HB := n1_; have BK119 := n2_; have GW119 := n3_; have GE119 := n4_; clear n0_ n1_ n2_ n3_ n4_; clear hb hbox hg; have hcz29_0 : w28.cell? ⟨gb119, 0, none⟩ = some (.int .i64 0) := (blk_cell BK119.out 0).trans rfl; have hcz29_1 : w28.cell? ⟨gb119, 1, none⟩ = some (.int .i64 0) := (blk_cell BK119.out 1).trans rfl; have hcz29_2 : w28.cell? ⟨gb119, 2, none⟩ = some (.int .i64 0) := (blk_cell BK119.out 2).trans rfl; have hcz29_3 : w28.cell? ⟨gb119, 3, none⟩ = some (.int .i64 0) := (blk_cell BK119.out 3).trans rfl; have hcz29_4 : w28.cell? ⟨gb119, 4, none⟩ = some (.string (⟨#[]⟩ : ByteArray)) := (blk_cell BK119.out 4).trans rfl; have hfz29_0 := blk_frozen BK119.out 0; have hfz29_1 := blk_frozen BK119.out 1; have hfz29_2 := blk_frozen BK119.out 2; have hfz29_3 := blk_frozen BK119.out 3; have hfz29_4 := blk_frozen BK119.out 4) | ((with_reducible refine gate_builtin (b := .append) (xs := #[.tmp 22, .tmp 26]) rfl ?_); at_builtin; refine Kd.R_append (Kd.int .u8) (w0 := w) w.heap.size rfl (.tmp 22) (.tmp 26) 29 5 (.int .u8 0) 1 rfl Try.underlying29 info5 rfl (by decide) (by omega) u4 x4_1 (((rd_T50 l0 x18_1).f0) % 256) [.int .u8 (((rd_T50 l0 x18_1).f0) % 256)] (fun _ => True) (fun _ => False) rfl (by first | (go_simp; done) | (go_simp; rfl)) ?aP (fun _ hk => hk.elim) ?aF ?aO ?aB ?aS ?aL ?_; (case aP => exact rfl); (case aB => exact (by repeat (first | (with_reducible first | exact HB.out | apply below_alloc | apply pw_below_drewN | apply below_drew1 | refine below_set ?_ GE119.out) | exact HB.out))); (case aF => exact (fun _ _ => trivial)); (case aO => exact (by (with_reducible repeat (first | apply Kd.R_alloc | apply Kd.R_drewN | apply Kd.R_drew)); exact Kd.R_mono (Kd.R_far (p := ⟨gb119, 4, none⟩) (Kd.R_far (p := ⟨gb119, 3, none⟩) (Kd.R_far (p := ⟨gb119, 2, none⟩) (Kd.R_far (p := ⟨gb119, 1, none⟩) (Kd.R_far (p := ⟨gb119, 0, none⟩) (Kd.R_types HO_4.out BK119.out (by decide)) (fun _ hk => hk.2) (.int .i64 ((rd_T50 l0 x18_1).f0))) (fun _ hk => hk.2) (.int .i64 ((rd_T50 l0 x18_1).f1))) (fun _ hk => hk.2) (.int .i64 ((rd_T50 l0 x18_1).f2.f0))) (fun _ hk => hk.2) (.int .i64 ((rd_T50 l0 x18_1).f2.f1))) (fun _ hk => hk.2) (.string ((rd_T50 l0 x18_1).f2.f2))) (fun _ hk => trivial))); (case aS => exact (below_size (by repeat (first | (with_reducible first | exact HB.out | apply below_alloc | apply pw_below_drewN | apply below_drew1 | refine below_set ?_ GE119.out) | exact HB.out)))); (case aL => have := LMc10.out; omega); intro v121 w30 ho hb hg hat; rw [← Ny120.out] at ho; have n0_ := Aside0.mk (blk_grown (g := gb119) (o := .cells #[.int .i64 ((rd_T50 l0 x18_1).f0), .int .i64 ((rd_T50 l0 x18_1).f1), .int .i64 ((rd_T50 l0 x18_1).f2.f0), .int .i64 ((rd_T50 l0 x18_1).f2.f1), .string ((rd_T50 l0 x18_1).f2.f2)] 50 (0, 0)) (by (with_reducible repeat (first | refine blk_drewN ?_ _ | refine blk_drew ?_ | refine blk_alloc ?_ _)); refine blk_put (cs := #[.int .i64 ((rd_T50 l0 x18_1).f0), .int .i64 ((rd_T50 l0 x18_1).f1), .int .i64 ((rd_T50 l0 x18_1).f2.f0), .int .i64 ((rd_T50 l0 x18_1).f2.f1), .string (⟨#[]⟩ : ByteArray)]) ?_ 4 _ rfl; (with_reducible repeat (first | refine blk_drewN ?_ _ | refine blk_drew ?_ | refine blk_alloc ?_ _)); refine blk_put (cs := #[.int .i64 ((rd_T50 l0 x18_1).f0), .int .i64 ((rd_T50 l0 x18_1).f1), .int .i64 ((rd_T50 l0 x18_1).f2.f0), .int .i64 0, .string (⟨#[]⟩ : ByteArray)]) ?_ 3 _ rfl; (with_reducible repeat (first | refine blk_drewN ?_ _ | refine blk_drew ?_ | refine blk_alloc ?_ _)); refine blk_put (cs := #[.int .i64 ((rd_T50 l0 x18_1).f0), .int .i64 ((rd_T50 l0 x18_1).f1), .int .i64 0, .int .i64 0, .string (⟨#[]⟩ : ByteArray)]) ?_ 2 _ rfl; (with_reducible repeat (first | refine blk_drewN ?_ _ | refine blk_drew ?_ | refine blk_alloc ?_ _)); refine blk_put (cs := #[.int .i64 ((rd_T50 l0 x18_1).f0), .int .i64 0, .int .i64 0, .int .i64 0, .string (⟨#[]⟩ : ByteArray)]) ?_ 1 _ rfl; (with_reducible repeat (first | refine blk_drewN ?_ _ | refine blk_drew ?_ | refine blk_alloc ?_ _)); refine blk_put (cs := #[.int .i64 0, .int .i64 0, .int .i64 0, .int .i64 0, .string (⟨#[]⟩ : ByteArray)]) ?_ 0 _ rfl; (with_reducible repeat (first | refine blk_drewN ?_ _ | refine blk_drew ?_ | refine blk_alloc ?_ _)); exact BK119.out) hg (Kd.R_ne HO_4.out BK119.out (by decide))); have n1_ := Aside0.mk (hb); have n2_ := Aside0.mk (ho); clear BK119; clear HB; clear HO_4; have BK119 := n0_; have HB := n1_; have HO122 := n2_; clear n0_ n1_ n2_; clear ho hb hg hat; have hcz31_0 : w30.cell? ⟨gb119, 0, none⟩ = some (.int .i64 ((rd_T50 l0 x18_1).f0)) := (blk_cell BK119.out 0).trans rfl; have hcz31_1 : w30.cell? ⟨gb119, 1, none⟩ = some (.int .i64 ((rd_T50 l0 x18_1).f1)) := (blk_cell BK119.out 1).trans rfl; have hcz31_2 : w30.cell? ⟨gb119, 2, none⟩ = some (.int .i64 ((rd_T50 l0 x18_1).f2.f0)) := (blk_cell BK119.out 2).trans rfl; have hcz31_3 : w30.cell? ⟨gb119, 3, none⟩ = some (.int .i64 ((rd_T50 l0 x18_1).f2.f1)) := (blk_cell BK119.out 3).trans rfl; have hcz31_4 : w30.cell? ⟨gb119, 4, none⟩ = some (.string ((rd_T50 l0 x18_1).f2.f2)) := (blk_cell BK119.out 4).trans rfl; have hfz31_0 := blk_frozen BK119.out 0; have hfz31_1 := blk_frozen BK119.out 1; have hfz31_2 := blk_frozen BK119.out 2; have hfz31_3 := blk_frozen BK119.out 3; have hfz31_4 := blk_frozen BK119.out 4))
                    go_roundg k1
                    case measure => have := HK1.out; omega
                    case rel => exact ⟨(y120), (wrap64 (x18_1 + 1)), (by first | rfl | (simp; done) | (simp [*]; done)), H', ⟨by have := HK1.out; omega⟩, ⟨by (with_reducible repeat (first | apply Kd.R_alloc | apply Kd.R_drewN | apply Kd.R_drew)); exact HO122.out⟩, ⟨by repeat (first | (with_reducible first | exact HB.out | apply below_alloc | apply pw_below_drewN | apply below_drew1 | refine below_set ?_ GE119.out) | exact HB.out)⟩⟩
              · rw [if_neg c10] at H
                exact absurd H (by simp)
            · rw [if_neg c9] at H
              exact absurd H (by simp)
          · rw [if_neg c8] at H
            exact absurd H (by simp)
        · rw [if_neg c7] at H
          have c7b0 : decide (x18_1 < (l0.length : Int)) = false := decide_eq_false c7
          clear c7
          simp only [Option.some.injEq, Prod.mk.injEq] at H
          obtain ⟨rfl, rfl⟩ := H
          go_wp2
          go_ret2
          exact ⟨_, by first | rfl | (simp [errW_none, errW_some] <;> rfl) | (simp [*, errW_none, errW_some] <;> rfl), by (with_reducible repeat (first | apply Kd.R_alloc | apply Kd.R_drewN | apply Kd.R_drew)); exact HO_4.out, by repeat (first | (with_reducible first | exact HB.out | apply below_alloc | apply pw_below_drewN | apply below_drew1) | exact HB.out)⟩
  · replace c3 := Bool.eq_false_iff.mpr c3
    subst c3
    have H1 : (some (([] : List Int), false)) = some (r1, r2) := by rw [if_neg (show ¬ (false = true) by decide)] at H; exact H
    clear H
    have H := H1
    clear H1
    simp only [Option.some.injEq, Prod.mk.injEq] at H
    obtain ⟨rfl, rfl⟩ := H
    go_enter Try.func21, Try.ntmps21
    go_wp2_with (first | ((with_reducible refine gate_callee (f := 41) rfl ?_); refine goesL_ (some 10) rfl rfl Try.func41 (by kernel_rfl) rfl #[.slice A0 l0.length c0] rfl (by (try simp only [List.map_toArray, List.map_cons, List.map_nil]); first | done | rfl | (simp only [List.length_drop, List.length_take]; rfl)) ?_; (with_reducible refine (expr_may.calls _ _ l0 false _ ?side1 ?side2 A2.out).mono ?_); (case side1 => repeat (first | exact HR0.out | (with_reducible refine Kd.C_alloc ?_ _) | (with_reducible refine Kd.C_drewN ?_ _) | (with_reducible refine Kd.C_drew ?_))); (case side2 => exact HC0.out); rintro e w32 ⟨rfl, hb⟩; refine ⟨_, rfl, ?_⟩; have n0_ := Aside0.mk (below_step (by repeat (first | (with_reducible first | exact HB.out | apply below_alloc | apply pw_below_drewN | apply below_drew1) | exact HB.out)) hb); clear HB; have HB := n0_; clear n0_; (try clear hb); (try clear hb2); (try clear hk); (try clear hi)))
    go_ret2
    exact ⟨_, by first | rfl | (simp [errW_none, errW_some] <;> rfl) | (simp [*, errW_none, errW_some] <;> rfl), by first | exact Kd.R_nil _ _ _ _ _ | exact Kd.N_nil _ _ _ _ _ | exact Kd.V_nil _ _ _ _ _ | exact Kd.Q_nil _ _ _ _ _ | exact Kd.S_nil _ _ _ _ _, by repeat (first | (with_reducible first | exact HB.out | apply below_alloc | apply pw_below_drewN | apply below_drew1) | exact HB.out)⟩

end Go.Proofs.Yteommchgnocgnaa.PE
