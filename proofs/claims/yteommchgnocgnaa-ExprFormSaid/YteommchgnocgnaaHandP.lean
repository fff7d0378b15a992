import Derived.Test.YteommchgnocgnaaHandA
import Derived.Test.YteommchgnocgnaaHandB
namespace Go.Proofs.Yteommchgnocgnaa.PE
open Go.RowKit Go.Proofs.YteommchgnocgnaaW.PrintWords Go.Proofs.YteommchgnocgnaaW.PrintLast Go.Proofs.YteommchgnocgnaaW.PrintMore
set_option linter.unusedVariables false
set_option linter.unusedSimpArgs false

/-! ### le_Zig: function 87 -/
def le_Zig.f (a0 : Int) : Option (Int) := some (Go.bits .xor .u64 (IntKind.u64.wrap ((IntKind.u64.wrap (a0)) * 2)) (IntKind.u64.wrap (a0 / 9223372036854775808)))
set_option maxHeartbeats 8000000 in
set_option maxRecDepth 100000 in
theorem le_Zig.calls (a0 : Int) (r : Int) (w : World) (h : le_Zig.f a0 = some r) :
    Calls Try.prog 87 #[.int .i64 a0] w fun e w' => e = .returned (.int .u64 r) ∧ Drawn0 w w' := by
  obtain rfl := Option.some.inj h
  clear h
  go_enter Try.func87, Try.ntmps87
  go_wp2
  go_ret
  exact ⟨by first | rfl | (simp; done) | (simp [*]; done), by repeat (first | exact Drawn0.refl _ | apply Drawn0.step)⟩

theorem R_lit1 (W : World) (base : Nat) (x : Int) (hb : base ≤ W.heap.size) : Kd.R (Kd.int .u8) 5 (W.alloc (.cells #[.int .u8 x] 5)) base (fun _ => True) (.slice (some ⟨W.heap.size, 0, none⟩) 1 1) [x] := by
  refine Kd.R_of_own (enc := Value.int .u8) ?_ (fun _ _ => trivial)
  have h2 := World.ownsRow_lit (base := base) (e := 5) (size := 1) W #[.int .u8 x] 1 hb (by unfold maxLen; omega) (by simp)
  exact h2

def putV (k n : Int) (s : ByteArray) : List Int :=
  k % 256 :: (if k = 0 then putL (Go.bits .xor .u64 (IntKind.u64.wrap ((IntKind.u64.wrap n) * 2)) (IntKind.u64.wrap (n / 9223372036854775808))).toNat
    else if k = 2 then putL s.size ++ bytesOf s else putL (IntKind.u64.wrap n).toNat)
def value_Put.f (a0_0 : Int) (a0_1 : Int) (a0_2 : ByteArray) : Option (List Int × Bool) := if mayB a0_0 a0_1 a0_2 then some (putV a0_0 a0_1 a0_2, true) else some ([], false)

theorem ta_nil_3 (W : World) : (Instr.typeAssert (.nilIface) 20 3 true).run Try.prog W = .ok (.tuple #[.int .i64 0, .bool false]) W := by kernel_rfl
theorem ta_nil_4 (W : World) : (Instr.typeAssert (.nilIface) 20 4 true).run Try.prog W = .ok (.tuple #[.bool false, .bool false]) W := by kernel_rfl
theorem ta_nil_131 (W : World) : (Instr.typeAssert (.nilIface) 20 131 true).run Try.prog W = .ok (.tuple #[.int .i64 0, .bool false]) W := by kernel_rfl
theorem ta_nil_9 (W : World) : (Instr.typeAssert (.nilIface) 20 9 true).run Try.prog W = .ok (.tuple #[.string ⟨#[]⟩, .bool false]) W := by kernel_rfl
theorem ta_int_3 (n : Int) (W : World) : (Instr.typeAssert (.iface 3 (.int .i64 n)) 20 3 true).run Try.prog W = .ok (.tuple #[.int .i64 n, .bool true]) W := by kernel_rfl
theorem ta_bool_3 (b : Bool) (W : World) : (Instr.typeAssert (.iface 4 (.bool b)) 20 3 true).run Try.prog W = .ok (.tuple #[.int .i64 0, .bool false]) W := by kernel_rfl
theorem ta_bool_131 (b : Bool) (W : World) : (Instr.typeAssert (.iface 4 (.bool b)) 20 131 true).run Try.prog W = .ok (.tuple #[.int .i64 0, .bool false]) W := by kernel_rfl
theorem ta_bool_4 (b : Bool) (W : World) : (Instr.typeAssert (.iface 4 (.bool b)) 20 4 true).run Try.prog W = .ok (.tuple #[.bool b, .bool true]) W := by kernel_rfl
theorem ta_ins_3 (n : Int) (W : World) : (Instr.typeAssert (.iface 131 (.int .i64 n)) 20 3 true).run Try.prog W = .ok (.tuple #[.int .i64 0, .bool false]) W := by kernel_rfl
theorem ta_ins_4 (n : Int) (W : World) : (Instr.typeAssert (.iface 131 (.int .i64 n)) 20 4 true).run Try.prog W = .ok (.tuple #[.bool false, .bool false]) W := by kernel_rfl
theorem ta_ins_131 (n : Int) (W : World) : (Instr.typeAssert (.iface 131 (.int .i64 n)) 20 131 true).run Try.prog W = .ok (.tuple #[.int .i64 n, .bool true]) W := by kernel_rfl
theorem ta_str_3 (s : ByteArray) (W : World) : (Instr.typeAssert (.iface 9 (.string s)) 20 3 true).run Try.prog W = .ok (.tuple #[.int .i64 0, .bool false]) W := by kernel_rfl
theorem ta_str_4 (s : ByteArray) (W : World) : (Instr.typeAssert (.iface 9 (.string s)) 20 4 true).run Try.prog W = .ok (.tuple #[.bool false, .bool false]) W := by kernel_rfl
theorem ta_str_131 (s : ByteArray) (W : World) : (Instr.typeAssert (.iface 9 (.string s)) 20 131 true).run Try.prog W = .ok (.tuple #[.int .i64 0, .bool false]) W := by kernel_rfl
theorem ta_str_9 (s : ByteArray) (W : World) : (Instr.typeAssert (.iface 9 (.string s)) 20 9 true).run Try.prog W = .ok (.tuple #[.string s, .bool true]) W := by kernel_rfl
set_option maxHeartbeats 8000000 in
set_option maxRecDepth 100000 in
theorem value_Put_no (k n : Int) (s : ByteArray) (w : World) (hm : mayB k n s = false) :
    Calls Try.prog 49 #[.agg #[.int .i64 k, .int .i64 n, .string s]] w fun e w' => e = .returned (.tuple #[.slice none 0 0, .bool false]) ∧ Below w.heap.size w w' := by
  have hu38 := Try.underlying38
  have HB := Aside0.mk ((Below.refl w.heap.size w).alloc (Nat.le_refl _) (.cells #[.int .i64 k, .int .i64 n, .string s] 38))
  have hv := Aside0.mk (heldV_nil hm)
  clear hm
  have t1 := ta_nil_3
  have t2 := ta_nil_4
  have t3 := ta_nil_131
  have t4 := ta_nil_9
  go_enter Try.func49, Try.ntmps49
  go_wp2_with (fail)
  refine (value_held.calls k n s _).mono ?_
  rintro e w1 ⟨rfl, hb⟩
  rw [hv.out]
  replace HB := Aside0.mk (below_step (below_alloc HB.out _) hb)
  clear hb
  go_wp2_with (fail)
  go_ret2
  exact ⟨rfl, HB.out⟩

theorem bits_u64 (op : BinOp) (a b : Int) : 0 ≤ Go.bits op .u64 a b ∧ Go.bits op .u64 a b < 18446744073709551616 := by
  have h := bits_within op .u64 a b
  simp [IntKind.min, IntKind.max, IntKind.signed, IntKind.bits] at h
  omega
theorem wrap_u64 (a : Int) : 0 ≤ IntKind.u64.wrap a ∧ IntKind.u64.wrap a < 18446744073709551616 := by
  have h := wrap_within .u64 a
  simp [IntKind.min, IntKind.max, IntKind.signed, IntKind.bits] at h
  omega
theorem le_Put_some {z : Int} (h0 : 0 ≤ z) (h1 : z < 18446744073709551616) : le_Put.f z = some (putL z.toNat) := by
  unfold le_Put.f; rw [if_pos h0, if_pos h1]
theorem putL_len10 {z : Int} (h0 : 0 ≤ z) (h1 : z < 18446744073709551616) : (putL z.toNat).length ≤ 10 := putL_len 9 z.toNat (by omega)


set_option maxHeartbeats 8000000 in
set_option maxRecDepth 100000 in
theorem value_Put_int (n : Int) (s : ByteArray) (w : World) (hh : heldV 0 n s = .iface 3 (.int .i64 n)) :
    Calls Try.prog 49 #[.agg #[.int .i64 0, .int .i64 n, .string s]] w fun e w' => ∃ v0_ : Value, e = .returned (.tuple #[v0_, .bool true]) ∧ Kd.R (Kd.int .u8) 5 w' w.heap.size (fun _ => True) v0_ ([(0 : Int) % 256] ++ putL (Go.bits .xor .u64 (IntKind.u64.wrap ((IntKind.u64.wrap n) * 2)) (IntKind.u64.wrap (n / 9223372036854775808))).toNat) ∧ Below w.heap.size w w' := by
  have hu38 := Try.underlying38
  have HB := Aside0.mk ((Below.refl w.heap.size w).alloc (Nat.le_refl _) (.cells #[.int .i64 0, .int .i64 n, .string s] 38))
  have BK := Aside0.mk (blk_new w (.cells #[.int .i64 0, .int .i64 n, .string s] 38))
  have HO := R_lit1 (w.alloc (.cells #[.int .i64 0, .int .i64 n, .string s] 38)) w.heap.size (0 % 256) (by simp)
  rw [show (w.alloc (.cells #[.int .i64 0, .int .i64 n, .string s] 38)).heap.size = w.heap.size + 1 from by simp] at HO
  replace HO := Aside0.mk HO
  have hv := Aside0.mk hh
  clear hh
  have t1 := ta_int_3
  go_enter Try.func49, Try.ntmps49
  go_wp2_with (fail)
  refine (value_held.calls _ n s _).mono ?_
  rintro e w1 ⟨rfl, hb⟩
  rw [hv.out]
  replace BK := Aside0.mk (blk_below (blk_alloc BK.out _) hb)
  replace HO := Aside0.mk (Kd.R_below HO.out hb)
  replace HB := Aside0.mk (below_step (below_alloc HB.out _) hb)
  clear hb
  go_wp2_with (fail)
  refine (le_Zig.calls n _ _ rfl).mono ?_
  rintro e w2 ⟨rfl, ⟨nd, rfl⟩⟩
  obtain ⟨Z, hZ⟩ : ∃ Z, Z = (Go.bits .xor .u64 (IntKind.u64.wrap ((IntKind.u64.wrap n) * 2)) (IntKind.u64.wrap (n / 9223372036854775808))) := ⟨_, rfl⟩
  have hz0 := Aside0.mk (show 0 ≤ Z by rw [hZ]; exact (bits_u64 _ _ _).1)
  have hz1 := Aside0.mk (show Z < 18446744073709551616 by rw [hZ]; exact (bits_u64 _ _ _).2)
  rw [← hZ]
  replace hZ := Aside0.mk hZ
  replace BK := Aside0.mk (blk_drewN BK.out nd)
  replace HO := Aside0.mk (Kd.R_drewN HO.out nd)
  replace HB := Aside0.mk (pw_below_drewN HB.out nd)
  go_wp2_with (fail)
  refine (le_Put.calls Z _ _ (le_Put_some hz0.out hz1.out)).mono ?_
  rintro e w3 ⟨v1, rfl, ho, hb⟩
  replace BK := Aside0.mk (blk_below BK.out hb)
  replace HO := Aside0.mk (Kd.R_below HO.out hb)
  replace HB := Aside0.mk (below_step HB.out hb)
  clear hb
  obtain ⟨Ao, co, rfl⟩ := Kd.R_slice ho
  have HR1 := Aside0.mk (Kd.R_reads' ho).2.2
  clear ho
  have HL := Aside0.mk (putL_len10 hz0.out hz1.out)
  obtain ⟨L, hL⟩ : ∃ L, L = putL Z.toNat := ⟨_, rfl⟩
  rw [← hL] at HR1 HL
  rw [← hL]
  replace hL := Aside0.mk hL
  go_wp2_with (first | ((with_reducible refine gate_builtin (b := .append) (xs := #[.tmp 18, .tmp 21]) rfl ?_); at_builtin; refine Kd.R_append_rows (Kd.int .u8) (w0 := w) w.heap.size rfl (.tmp 18) (.tmp 21) 29 5 (.int .u8 0) 1 rfl Try.underlying29 info5 rfl (by decide) (by omega) (.slice (some ⟨w.heap.size + 1, 0, none⟩) 1 1) [(0 : Int) % 256] L _ _ _ (fun _ => True) (fun _ => False) rfl rfl ?aO ?aR (fun _ _ h => h) (fun _ h => h.elim) ?aF ?aB ?aS ?aL ?_; (case aR => exact HR1.out); (case aB => exact (by repeat (first | (with_reducible first | exact HB.out | apply below_alloc | apply pw_below_drewN | apply below_drew1) | exact HB.out))); (case aF => exact (fun _ _ => trivial)); (case aO => exact (by (with_reducible repeat (first | apply Kd.R_alloc | apply Kd.R_drewN | apply Kd.R_drew)); exact HO.out)); (case aS => exact (below_size (by repeat (first | (with_reducible first | exact HB.out | apply below_alloc | apply pw_below_drewN | apply below_drew1) | exact HB.out)))); (case aL => have := HL.out; simp only [List.length_cons, List.length_nil]; omega); intro v2 w9 ho hb hg hat; have n0_ := Aside0.mk hb; have n1_ := Aside0.mk ho; clear HB HO; have HB := n0_; have HO := n1_; clear n0_ n1_; clear ho hb hg hat))
  go_ret2
  have h1 := HO.out
  rw [hL.out, hZ.out] at h1
  exact ⟨_, rfl, h1, HB.out⟩

set_option maxHeartbeats 8000000 in
set_option maxRecDepth 100000 in
theorem value_Put_bool (n : Int) (s : ByteArray) (w : World) (hh : heldV 1 n s = .iface 4 (.bool (n == 1))) :
    Calls Try.prog 49 #[.agg #[.int .i64 1, .int .i64 n, .string s]] w fun e w' => ∃ v0_ : Value, e = .returned (.tuple #[v0_, .bool true]) ∧ Kd.R (Kd.int .u8) 5 w' w.heap.size (fun _ => True) v0_ ([(1 : Int) % 256] ++ putL (IntKind.u64.wrap n).toNat) ∧ Below w.heap.size w w' := by
  have hu38 := Try.underlying38
  have HB := Aside0.mk ((Below.refl w.heap.size w).alloc (Nat.le_refl _) (.cells #[.int .i64 1, .int .i64 n, .string s] 38))
  have BK := Aside0.mk (blk_new w (.cells #[.int .i64 1, .int .i64 n, .string s] 38))
  have HO := R_lit1 (w.alloc (.cells #[.int .i64 1, .int .i64 n, .string s] 38)) w.heap.size (1 % 256) (by simp)
  rw [show (w.alloc (.cells #[.int .i64 1, .int .i64 n, .string s] 38)).heap.size = w.heap.size + 1 from by simp] at HO
  replace HO := Aside0.mk HO
  have hv := Aside0.mk hh
  clear hh
  have t1 := ta_bool_3
  have t2 := ta_bool_4
  have t3 := ta_bool_131
  go_enter Try.func49, Try.ntmps49
  go_wp2_with (fail)
  refine (value_held.calls _ n s _).mono ?_
  rintro e w1 ⟨rfl, hb⟩
  rw [hv.out]
  replace BK := Aside0.mk (blk_below (blk_alloc BK.out _) hb)
  replace HO := Aside0.mk (Kd.R_below HO.out hb)
  replace HB := Aside0.mk (below_step (below_alloc HB.out _) hb)
  clear hb
  have hc1 : w1.cell? ⟨w.heap.size, 1, none⟩ = some (.int .i64 n) := (blk_cell BK.out 1).trans rfl
  go_wp2_with (fail)
  clear hc1
  obtain ⟨Z, hZ⟩ : ∃ Z, Z = IntKind.u64.wrap n := ⟨_, rfl⟩
  have hz0 := Aside0.mk (show 0 ≤ Z by rw [hZ]; exact (wrap_u64 _).1)
  have hz1 := Aside0.mk (show Z < 18446744073709551616 by rw [hZ]; exact (wrap_u64 _).2)
  rw [← hZ]
  replace hZ := Aside0.mk hZ
  refine (le_Put.calls Z _ _ (le_Put_some hz0.out hz1.out)).mono ?_
  rintro e w3 ⟨v1, rfl, ho, hb⟩
  replace BK := Aside0.mk (blk_below BK.out hb)
  replace HO := Aside0.mk (Kd.R_below HO.out hb)
  replace HB := Aside0.mk (below_step HB.out hb)
  clear hb
  obtain ⟨Ao, co, rfl⟩ := Kd.R_slice ho
  have HR1 := Aside0.mk (Kd.R_reads' ho).2.2
  clear ho
  have HL := Aside0.mk (putL_len10 hz0.out hz1.out)
  obtain ⟨L, hL⟩ : ∃ L, L = putL Z.toNat := ⟨_, rfl⟩
  rw [← hL] at HR1 HL
  rw [← hL]
  replace hL := Aside0.mk hL
  go_wp2_with (first | ((with_reducible refine gate_builtin (b := .append) (xs := #[.tmp 30, .tmp 34]) rfl ?_); at_builtin; refine Kd.R_append_rows (Kd.int .u8) (w0 := w) w.heap.size rfl (.tmp 30) (.tmp 34) 29 5 (.int .u8 0) 1 rfl Try.underlying29 info5 rfl (by decide) (by omega) (.slice (some ⟨w.heap.size + 1, 0, none⟩) 1 1) [(1 : Int) % 256] L _ _ _ (fun _ => True) (fun _ => False) rfl rfl ?aO ?aR (fun _ _ h => h) (fun _ h => h.elim) ?aF ?aB ?aS ?aL ?_; (case aR => exact HR1.out); (case aB => exact (by repeat (first | (with_reducible first | exact HB.out | apply below_alloc | apply pw_below_drewN | apply below_drew1) | exact HB.out))); (case aF => exact (fun _ _ => trivial)); (case aO => exact (by (with_reducible repeat (first | apply Kd.R_alloc | apply Kd.R_drewN | apply Kd.R_drew)); exact HO.out)); (case aS => exact (below_size (by repeat (first | (with_reducible first | exact HB.out | apply below_alloc | apply pw_below_drewN | apply below_drew1) | exact HB.out)))); (case aL => have := HL.out; simp only [List.length_cons, List.length_nil]; omega); intro v2 w9 ho hb hg hat; have n0_ := Aside0.mk hb; have n1_ := Aside0.mk ho; clear HB HO; have HB := n0_; have HO := n1_; clear n0_ n1_; clear ho hb hg hat))
  go_ret2
  have h1 := HO.out
  rw [hL.out, hZ.out] at h1
  exact ⟨_, rfl, h1, HB.out⟩

set_option maxHeartbeats 8000000 in
set_option maxRecDepth 100000 in
theorem value_Put_ins (n : Int) (s : ByteArray) (w : World) (hh : heldV 3 n s = .iface 131 (.int .i64 n)) :
    Calls Try.prog 49 #[.agg #[.int .i64 3, .int .i64 n, .string s]] w fun e w' => ∃ v0_ : Value, e = .returned (.tuple #[v0_, .bool true]) ∧ Kd.R (Kd.int .u8) 5 w' w.heap.size (fun _ => True) v0_ ([(3 : Int) % 256] ++ putL (IntKind.u64.wrap n).toNat) ∧ Below w.heap.size w w' := by
  have hu38 := Try.underlying38
  have HB := Aside0.mk ((Below.refl w.heap.size w).alloc (Nat.le_refl _) (.cells #[.int .i64 3, .int .i64 n, .string s] 38))
  have BK := Aside0.mk (blk_new w (.cells #[.int .i64 3, .int .i64 n, .string s] 38))
  have HO := R_lit1 (w.alloc (.cells #[.int .i64 3, .int .i64 n, .string s] 38)) w.heap.size (3 % 256) (by simp)
  rw [show (w.alloc (.cells #[.int .i64 3, .int .i64 n, .string s] 38)).heap.size = w.heap.size + 1 from by simp] at HO
  replace HO := Aside0.mk HO
  have hv := Aside0.mk hh
  clear hh
  have t1 := ta_ins_3
  have t2 := ta_ins_4
  have t3 := ta_ins_131
  go_enter Try.func49, Try.ntmps49
  go_wp2_with (fail)
  refine (value_held.calls _ n s _).mono ?_
  rintro e w1 ⟨rfl, hb⟩
  rw [hv.out]
  replace BK := Aside0.mk (blk_below (blk_alloc BK.out _) hb)
  replace HO := Aside0.mk (Kd.R_below HO.out hb)
  replace HB := Aside0.mk (below_step (below_alloc HB.out _) hb)
  clear hb
  have hc1 : w1.cell? ⟨w.heap.size, 1, none⟩ = some (.int .i64 n) := (blk_cell BK.out 1).trans rfl
  go_wp2_with (fail)
  clear hc1
  obtain ⟨Z, hZ⟩ : ∃ Z, Z = IntKind.u64.wrap n := ⟨_, rfl⟩
  have hz0 := Aside0.mk (show 0 ≤ Z by rw [hZ]; exact (wrap_u64 _).1)
  have hz1 := Aside0.mk (show Z < 18446744073709551616 by rw [hZ]; exact (wrap_u64 _).2)
  rw [← hZ]
  replace hZ := Aside0.mk hZ
  refine (le_Put.calls Z _ _ (le_Put_some hz0.out hz1.out)).mono ?_
  rintro e w3 ⟨v1, rfl, ho, hb⟩
  replace BK := Aside0.mk (blk_below BK.out hb)
  replace HO := Aside0.mk (Kd.R_below HO.out hb)
  replace HB := Aside0.mk (below_step HB.out hb)
  clear hb
  obtain ⟨Ao, co, rfl⟩ := Kd.R_slice ho
  have HR1 := Aside0.mk (Kd.R_reads' ho).2.2
  clear ho
  have HL := Aside0.mk (putL_len10 hz0.out hz1.out)
  obtain ⟨L, hL⟩ : ∃ L, L = putL Z.toNat := ⟨_, rfl⟩
  rw [← hL] at HR1 HL
  rw [← hL]
  replace hL := Aside0.mk hL
  go_wp2_with (first | ((with_reducible refine gate_builtin (b := .append) (xs := #[.tmp 30, .tmp 34]) rfl ?_); at_builtin; refine Kd.R_append_rows (Kd.int .u8) (w0 := w) w.heap.size rfl (.tmp 30) (.tmp 34) 29 5 (.int .u8 0) 1 rfl Try.underlying29 info5 rfl (by decide) (by omega) (.slice (some ⟨w.heap.size + 1, 0, none⟩) 1 1) [(3 : Int) % 256] L _ _ _ (fun _ => True) (fun _ => False) rfl rfl ?aO ?aR (fun _ _ h => h) (fun _ h => h.elim) ?aF ?aB ?aS ?aL ?_; (case aR => exact HR1.out); (case aB => exact (by repeat (first | (with_reducible first | exact HB.out | apply below_alloc | apply pw_below_drewN | apply below_drew1) | exact HB.out))); (case aF => exact (fun _ _ => trivial)); (case aO => exact (by (with_reducible repeat (first | apply Kd.R_alloc | apply Kd.R_drewN | apply Kd.R_drew)); exact HO.out)); (case aS => exact (below_size (by repeat (first | (with_reducible first | exact HB.out | apply below_alloc | apply pw_below_drewN | apply below_drew1) | exact HB.out)))); (case aL => have := HL.out; simp only [List.length_cons, List.length_nil]; omega); intro v2 w9 ho hb hg hat; have n0_ := Aside0.mk hb; have n1_ := Aside0.mk ho; clear HB HO; have HB := n0_; have HO := n1_; clear n0_ n1_; clear ho hb hg hat))
  go_ret2
  have h1 := HO.out
  rw [hL.out, hZ.out] at h1
  exact ⟨_, rfl, h1, HB.out⟩

set_option maxHeartbeats 8000000 in
set_option maxRecDepth 100000 in
theorem value_Put_str (n : Int) (s : ByteArray) (w : World) (hh : heldV 2 n s = .iface 9 (.string s)) (hs : (s.size : Int) ≤ 40) :
    Calls Try.prog 49 #[.agg #[.int .i64 2, .int .i64 n, .string s]] w fun e w' => ∃ v0_ : Value, e = .returned (.tuple #[v0_, .bool true]) ∧ Kd.R (Kd.int .u8) 5 w' w.heap.size (fun _ => True) v0_ (([(2 : Int) % 256] ++ putL s.size) ++ bytesOf s) ∧ Below w.heap.size w w' := by
  have hu38 := Try.underlying38
  have HB := Aside0.mk ((Below.refl w.heap.size w).alloc (Nat.le_refl _) (.cells #[.int .i64 2, .int .i64 n, .string s] 38))
  have BK := Aside0.mk (blk_new w (.cells #[.int .i64 2, .int .i64 n, .string s] 38))
  have HO := R_lit1 (w.alloc (.cells #[.int .i64 2, .int .i64 n, .string s] 38)) w.heap.size (2 % 256) (by simp)
  rw [show (w.alloc (.cells #[.int .i64 2, .int .i64 n, .string s] 38)).heap.size = w.heap.size + 1 from by simp] at HO
  replace HO := Aside0.mk HO
  have hv := Aside0.mk hh
  clear hh
  have hsz := Aside0.mk hs
  clear hs
  have t1 := ta_str_3
  have t2 := ta_str_4
  have t3 := ta_str_131
  have t4 := ta_str_9
  go_enter Try.func49, Try.ntmps49
  go_wp2_with (fail)
  refine (value_held.calls _ n s _).mono ?_
  rintro e w1 ⟨rfl, hb⟩
  rw [hv.out]
  replace BK := Aside0.mk (blk_below (blk_alloc BK.out _) hb)
  replace HO := Aside0.mk (Kd.R_below HO.out hb)
  replace HB := Aside0.mk (below_step (below_alloc HB.out _) hb)
  clear hb
  go_wp2_with (fail)
  have hw : IntKind.u64.wrap (s.size : Int) = (s.size : Int) := by have := hsz.out; simp [IntKind.wrap, IntKind.signed, IntKind.bits]; omega
  try rw [hw]
  clear hw
  have hz0 := Aside0.mk (show 0 ≤ (s.size : Int) by omega)
  have hz1 := Aside0.mk (show (s.size : Int) < 18446744073709551616 by have := hsz.out; omega)
  refine (le_Put.calls (s.size : Int) _ _ (le_Put_some hz0.out hz1.out)).mono ?_
  rintro e w3 ⟨v1, rfl, ho, hb⟩
  replace BK := Aside0.mk (blk_below BK.out hb)
  replace HO := Aside0.mk (Kd.R_below HO.out hb)
  replace HB := Aside0.mk (below_step HB.out hb)
  clear hb
  obtain ⟨Ao, co, rfl⟩ := Kd.R_slice ho
  have HR1 := Aside0.mk (Kd.R_reads' ho).2.2
  clear ho
  have HL := Aside0.mk (putL_len10 hz0.out hz1.out)
  obtain ⟨L, hL⟩ : ∃ L, L = putL s.size := ⟨_, rfl⟩
  rw [Int.toNat_natCast, ← hL] at HR1 HL
  try rw [Int.toNat_natCast]
  rw [← hL]
  replace hL := Aside0.mk hL
  go_wp2_with (first | ((with_reducible refine gate_builtin (b := .append) (xs := #[.tmp 39, .tmp 43]) rfl ?_); at_builtin; refine Kd.R_append_rows (Kd.int .u8) (w0 := w) w.heap.size rfl (.tmp 39) (.tmp 43) 29 5 (.int .u8 0) 1 rfl Try.underlying29 info5 rfl (by decide) (by omega) (.slice (some ⟨w.heap.size + 1, 0, none⟩) 1 1) [(2 : Int) % 256] L _ _ _ (fun _ => True) (fun _ => False) rfl rfl ?aO ?aR (fun _ _ h => h) (fun _ h => h.elim) ?aF ?aB ?aS ?aL ?_; (case aR => exact HR1.out); (case aB => exact (by repeat (first | (with_reducible first | exact HB.out | apply below_alloc | apply pw_below_drewN | apply below_drew1) | exact HB.out))); (case aF => exact (fun _ _ => trivial)); (case aO => exact (by (with_reducible repeat (first | apply Kd.R_alloc | apply Kd.R_drewN | apply Kd.R_drew)); exact HO.out)); (case aS => exact (below_size (by repeat (first | (with_reducible first | exact HB.out | apply below_alloc | apply pw_below_drewN | apply below_drew1) | exact HB.out)))); (case aL => have := HL.out; simp only [List.length_cons, List.length_nil]; omega); intro v2 w9 ho hb hg hat; have n0_ := Aside0.mk hb; have n1_ := Aside0.mk ho; clear HB HO; have HB := n0_; have HO := n1_; clear n0_ n1_; clear ho hb hg hat) | ((with_reducible refine gate_builtin (b := .append) (xs := #[.tmp 45, .tmp 46]) rfl ?_); at_builtin; refine print_append_str (w0 := w) w.heap.size rfl (.tmp 45) (.tmp 46) 29 9 5 rfl Try.underlying29 Try.underlying9 info5 v2 ([(2 : Int) % 256] ++ L) s rfl rfl ?aO ?aB ?aS ?aL ?_; (case aO => exact Kd.own_of_R HO.out); (case aB => exact HB.out); (case aS => exact (below_size HB.out)); (case aL => have h1 := HL.out; have h2 := hsz.out; rw [List.length_append]; simp only [List.length_cons, List.length_nil]; omega); intro v3 w9 ho hb hg; have n0_ := Aside0.mk hb; have n1_ := Aside0.mk ho; clear HB HO; have HB := n0_; have HO := n1_; clear n0_ n1_ ho hb hg))
  go_ret2
  have h1 := Kd.R_of_own (enc := Value.int .u8) (h1 := fun _ => rfl) (ok := fun _ => True) HO.out (fun _ _ => trivial)
  rw [hL.out] at h1
  exact ⟨_, rfl, h1, HB.out⟩

theorem mayB_cases {k n : Int} {s : ByteArray} (h : mayB k n s = true) :
    (k = 0 ∧ heldV k n s = .iface 3 (.int .i64 n)) ∨ (k = 1 ∧ heldV k n s = .iface 4 (.bool (n == 1))) ∨ (k = 2 ∧ heldV k n s = .iface 9 (.string s) ∧ (s.size : Int) ≤ 40) ∨ (k = 3 ∧ heldV k n s = .iface 131 (.int .i64 n)) := by
  unfold mayB at h
  revert h
  unfold heldV
  repeat' split
  all_goals simp_all
set_option maxRecDepth 100000 in
theorem value_Put.calls (k n : Int) (s : ByteArray) (r1 : List Int) (r2 : Bool) (w : World) (h : value_Put.f k n s = some (r1, r2)) :
    Calls Try.prog 49 #[.agg #[.int .i64 k, .int .i64 n, .string s]] w fun e w' => ∃ v0_ : Value, e = .returned (.tuple #[v0_, .bool r2]) ∧ Kd.R (Kd.int .u8) 5 w' w.heap.size (fun _ => True) v0_ r1 ∧ Below w.heap.size w w' := by
  unfold value_Put.f at h
  cases hm : mayB k n s with
  | false =>
    rw [hm, if_neg (by decide)] at h
    injection h with h
    injection h with h1 h2
    subst h1; subst h2
    refine (value_Put_no k n s w hm).mono ?_
    rintro e w' ⟨rfl, hb⟩
    exact ⟨_, rfl, Kd.R_nil _ _ _ _ _, hb⟩
  | true =>
    rw [hm, if_pos rfl] at h
    injection h with h
    injection h with h1 h2
    subst h1; subst h2
    rcases mayB_cases hm with ⟨rfl, hh⟩ | ⟨rfl, hh⟩ | ⟨rfl, hh, hs⟩ | ⟨rfl, hh⟩
    · exact value_Put_int n s w hh
    · exact value_Put_bool n s w hh
    · exact value_Put_str n s w hh hs
    · exact value_Put_ins n s w hh
end Go.Proofs.Yteommchgnocgnaa.PE
