import Derived.Test.YteommchgnocgnaaHandT
import Derived.Lib.SliceRun
namespace Go.Proofs.Yteommchgnocgnaa.PE
open Go.RowKit Go.Proofs.YteommchgnocgnaaW.PrintWords Go.Proofs.YteommchgnocgnaaW.PrintLast Go.Proofs.YteommchgnocgnaaW.PrintMore
set_option linter.unusedVariables false
set_option linter.unusedSimpArgs false

theorem R_takeT {w : World} {base n m c : Nat} {ok : Nat → Prop} {A : Option Addr} {xs : List Thing} (h : Kd.R kT 125 w base ok (.slice A n c) xs) (hm : m ≤ xs.length) : Kd.R kT 125 w base ok (.slice A m c) (xs.take m) := by
  have hn := (Kd.R_reads' h).1
  subst hn
  have ho := Kd.own_of_R (enc := thingV) (h1 := thingV_one) h
  have h2 := own_take ho hm
  refine Kd.R_of_own (enc := thingV) (h1 := thingV_one) ?_ (fun k hk => h.1 k (by cases A with | none => simp [Value.ownBlock] at hk | some a => simpa [Value.ownBlock] using hk))
  rw [List.length_take, Nat.min_eq_left hm]
  rw [Nat.mul_one] at h2
  have e : encs thingV (xs.take m) = (encs thingV xs).take m := by simp [encs, List.map_take]
  rw [e]; exact h2
theorem R_lit0 (W : World) (base : Nat) (hb : base ≤ W.heap.size) : Kd.R kT 125 (W.alloc (.cells #[] 125)) base (fun _ => True) (.slice (some ⟨W.heap.size, 0, none⟩) 0 0) [] := by
  refine Kd.R_of_own (enc := thingV) ?_ (fun _ _ => trivial)
  have h2 := World.ownsRow_lit (base := base) (e := 125) (size := 1) W #[] 0 hb (by unfold maxLen; omega) (by simp)
  exact h2

set_option maxHeartbeats 8000000 in
set_option maxRecDepth 100000 in
theorem thing_Clone.calls (A : Addr) (n c : Nat) (ys : List Thing) (w : World) (hr : Kd.C kT w (some A) n ys) (hl : n ≤ 10) :
    Calls Try.prog 118 #[.slice (some A) n c] w fun e w' => ∃ v, e = .returned v ∧ Kd.R kT 125 w' w.heap.size (fun _ => True) v ys ∧ Below w.heap.size w w' := by
  have q80 : ∀ (w : World) (a : Option Addr) (n c n' c' : Nat), (binOp .eql 80 (.slice a n c) (.slice none n' c')).run Try.prog w = .ok (.bool a.isNone) w := fun w a n c n' c' => Lib.run_eql_slice_nil w _ _ a n c n' c' Try.underlying80
  have HO := Aside0.mk (R_lit0 w w.heap.size (Nat.le_refl _))
  have HB := Aside0.mk ((Below.refl w.heap.size w).alloc (Nat.le_refl _) (.cells #[] 125))
  have HR1 := Aside0.mk (Kd.C_alloc hr (.cells #[] 125))
  have HL := Aside0.mk hl
  clear hr hl
  go_enter Try.func118, Try.ntmps118
  go_wp2_with (first | ((with_reducible refine gate_builtin (b := .append) (xs := #[.tmp 5, .tmp 6]) rfl ?_); at_builtin; refine Kd.R_append_rows kT (w0 := w) w.heap.size rfl (.tmp 5) (.tmp 6) 80 125 .nilIface 16 rfl Try.underlying80 info125 rfl (by decide) (by omega) (.slice (some ⟨w.heap.size, 0, none⟩) 0 0) [] ys _ _ _ (fun _ => True) (fun _ => False) rfl rfl ?aO ?aR (fun _ _ h => h) (fun _ h => h.elim) ?aF ?aB ?aS ?aL ?_; (case aR => exact HR1.out); (case aB => exact HB.out); (case aF => exact (fun _ _ => trivial)); (case aO => exact HO.out); (case aS => exact (below_size HB.out)); (case aL => have := HL.out; simp only [List.length_nil]; omega); intro v2 w9 ho hb hg hat; have n0_ := Aside0.mk hb; have n1_ := Aside0.mk ho; clear HB HO; have HB := n0_; have HO := n1_; clear n0_ n1_ ho hb hg hat))
  go_ret
  exact ⟨_, rfl, HO.out, HB.out⟩

set_option maxHeartbeats 8000000 in
set_option maxRecDepth 100000 in
theorem pile_take_no (W0 : World) (g : Nat) (xs : List Thing) (vv : Value) (kd : Bool) (n : Nat) (w : World) (hp : Pile W0 w g xs vv kd) (hn : xs.length < n) (hn2 : n ≤ 2) :
    Calls Try.prog 106 #[.pointer (some ⟨g, 0, none⟩), .int .i64 (n : Int)] w fun e w' => e = .returned (.tuple #[.slice none 0 0, .bool false]) ∧ w = w' := by
  obtain ⟨⟨vl, hb, hr⟩, hk, hlt, hbel⟩ := hp
  obtain ⟨A, c, rfl⟩ := Kd.R_slice hr
  have hu82 := Try.underlying82
  have hc0 : w.cell? ⟨g, 0, none⟩ = some (.slice A xs.length c) := (blk_cell hb 0).trans rfl
  have f1 : decide ((xs.length : Int) - n < 0) = true := decide_eq_true (by omega)
  clear hb hr hk hlt hbel
  go_enter Try.func106, Try.ntmps106
  go_wp2
  go_ret2
  exact ⟨rfl, rfl⟩

set_option maxHeartbeats 8000000 in
set_option maxRecDepth 100000 in
theorem pile_take_yes (W0 : World) (g : Nat) (xs : List Thing) (vv : Value) (kd : Bool) (n : Nat) (w : World) (hp : Pile W0 w g xs vv kd) (hn : n ≤ xs.length) (hn0 : 0 < n) (hn2 : n ≤ 2) (hl : xs.length ≤ 1000) :
    Calls Try.prog 106 #[.pointer (some ⟨g, 0, none⟩), .int .i64 (n : Int)] w fun e w' => ∃ gv c', e = .returned (.tuple #[.slice (some ⟨gv, 0, none⟩) n c', .bool true]) ∧ Kd.C kT w' (some ⟨gv, 0, none⟩) n (xs.drop (xs.length - n)) ∧ Pile W0 w' g (xs.take (xs.length - n)) vv kd ∧ Stays w w' g := by
  obtain ⟨⟨vl, hb, hr⟩, hk, hlt, hbel⟩ := hp
  have HE := Aside0.mk hbel
  obtain ⟨gl, cap, rfl, hg1, hg2, -⟩ := Kd.R_form hr (by omega)
  have hu82 := Try.underlying82
  have hrd := Kd.R_reads' hr
  have hcap := hrd.2.1
  obtain ⟨m, hm⟩ : ∃ m : Nat, m = xs.length - n := ⟨_, rfl⟩
  have hm1 : ((xs.length : Nat) : Int) - (n : Int) = (m : Int) := by omega
  have hc0 : w.cell? ⟨g, 0, none⟩ = some (.slice (some ⟨gl, 0, none⟩) xs.length cap) := (blk_cell hb 0).trans rfl
  have hmc : m < cap := by omega
  have hml : m < xs.length := by omega
  have hxm : xs.length - m = n := by omega
  have hD : Kd.C kT w (some ⟨gl, m, none⟩) n (xs.drop m) := by
    have h := Kd.C_drop (m := m) hrd.2.2 (by omega) hcap
    rw [if_neg (by omega), List.length_drop, hxm] at h
    have e : Option.map (fun x : Addr => x.add (m * kT.sz)) (some ⟨gl, 0, none⟩) = some ⟨gl, m, none⟩ := by
      show some (Addr.add _ (m * 1)) = _
      simp [Addr.add]; intro h; exact h.symm
    rw [e] at h
    exact h
  have HX := Aside0.mk hxm
  have HD := Aside0.mk hD
  have HM := Aside0.mk hm
  have HB := Aside0.mk hb
  have HR := Aside0.mk hr
  have HK := Aside0.mk hk
  have HL := Aside0.mk hlt
  clear hb hr hk hlt hrd hm1 hm hxm hD hbel
  go_enter Try.func106, Try.ntmps106
  go_wp2_with (fail)
  rw [← HM.out, HX.out]
  refine (thing_Clone.calls ⟨gl, m, none⟩ n (cap - m) (xs.drop m) w HD.out (by omega)).mono ?_
  rintro e w1 ⟨v1, rfl, ho, hbl⟩
  have hlen : (xs.drop m).length = n := by rw [List.length_drop]; exact HX.out
  obtain ⟨gv, cv, rfl, hv1, hv2, -⟩ := Kd.R_form ho (by rw [hlen]; exact hn0)
  have hcv := (Kd.R_reads' ho).2.2
  rw [hlen] at ho hcv
  rw [hlen]
  clear hlen
  have HC := Aside0.mk hcv
  have HB1 := Aside0.mk (blk_below HB.out hbl)
  have HR1 := Aside0.mk (Kd.R_below HR.out hbl)
  have HE1 := Aside0.mk (HE.out.trans (hbl.mono (Nat.le_of_lt (Nat.lt_of_lt_of_le HL.out (keep_size HK.out)))))
  have HK1 := Aside0.mk (HK.out.trans (KeepBut.of_below hbl g none) (.inl rfl))
  have HS1 := Aside0.mk (Stays.below (g := g) hbl)
  have hgv := Aside0.mk (show gv ≠ g by have := HL.out; have := keep_size HK.out; omega)
  clear ho hbl hcv hc0 hv1 hv2
  have hc1 : w1.cell? ⟨g, 0, none⟩ = some (.slice (some ⟨gl, 0, none⟩) xs.length cap) := (blk_cell HB1.out 0).trans rfl
  have hf1 := blk_frozen HB1.out 0
  go_wp2_with (fail)
  go_ret2
  refine ⟨gv, cv, rfl, ?_, ⟨⟨_, blk_put HB1.out 0 _ rfl, Kd.R_far (R_takeT HR1.out (by omega)) (fun _ h => h) _⟩, HK1.out.set_ 0 _, HL.out, HE1.out.setCell (Nat.le_refl _) _⟩, HS1.out.trans ⟨by simp [World.setCell], fun b cs t ht hbg hc => blk_far hc hbg _⟩⟩
  rw [← HM.out]
  exact Kd.C_keep (enc := thingV) (h1 := thingV_one) zT HC.out ((KeepBut.refl _ g none).set_ 0 _) (fun ad e _ => by cases e; exact hgv.out)
end Go.Proofs.Yteommchgnocgnaa.PE
