import Derived.Test.YteommchgnocgnaaPE3
import Derived.Test.YteommchgnocgnaaPE1
namespace Go.Proofs.Yteommchgnocgnaa.PE
open Go.RowKit Go.Proofs.YteommchgnocgnaaW.PrintWords Go.Proofs.YteommchgnocgnaaW.PrintLast Go.Proofs.YteommchgnocgnaaW.PrintMore
set_option linter.unusedVariables false
set_option linter.unusedSimpArgs false

/-- What lies on a pile. -/
inductive Thing where
  | num (n : Int)
  | tru (b : Bool)
  | oth (k n : Int) (s : ByteArray)
def thingV : Thing → Value
  | .num n => .iface 152 (.int .i64 n)
  | .tru b => .iface 94 (.bool b)
  | .oth k n s => .iface 159 (.agg #[.int .i64 k, .int .i64 n, .string s])
theorem thingV_one (x : Thing) : (thingV x).oneCell' = true := by cases x <;> rfl
def kT : Kd Thing := Kd.scalar thingV thingV_one
def zT : Thing := .num 0
theorem info125 : (Try.prog.info? 125).map (fun i => (i.zero, i.size, i.bytes)) = some (some .nilIface, 1, 16) := by kernel_rfl
def b2i (b : Bool) : Int := if b then 1 else 0
/-- Its value's kind, number, text. -/
def tK : Thing → Int
  | .num _ => 0
  | .tru _ => 1
  | .oth k _ _ => k
def tN : Thing → Int
  | .num n => n
  | .tru b => b2i b
  | .oth _ n _ => n
def tS : Thing → ByteArray
  | .oth _ _ s => s
  | _ => ⟨#[]⟩
def thingOf (k n : Int) (s : ByteArray) : Thing := if k = 0 then .num n else if k = 1 then .tru (n == 1) else .oth k n s

set_option maxHeartbeats 8000000 in
set_option maxRecDepth 100000 in
theorem expr_of.calls (k n : Int) (s : ByteArray) (w : World) :
    Calls Try.prog 104 #[.agg #[.int .i64 k, .int .i64 n, .string s]] w fun e w' => e = .returned (thingV (thingOf k n s)) ∧ Below w.heap.size w w' := by
  have hu38 := Try.underlying38
  have hB := (Below.refl w.heap.size w).alloc (Nat.le_refl _) (.cells #[.int .i64 k, .int .i64 n, .string s] 38)
  unfold thingOf
  by_cases c0 : k = 0
  · subst c0; rw [if_pos rfl]
    go_enter Try.func104, Try.ntmps104; go_wp2; go_ret; exact ⟨rfl, hB⟩
  rw [if_neg c0]
  have b0 : (k == 0) = false := beq_eq_false_iff_ne.mpr c0
  by_cases c1 : k = 1
  · subst c1; rw [if_pos rfl]; clear c0 b0
    go_enter Try.func104, Try.ntmps104; go_wp2; go_ret; exact ⟨rfl, hB⟩
  rw [if_neg c1]
  have b1 : (k == 1) = false := beq_eq_false_iff_ne.mpr c1
  clear c0 c1
  go_enter Try.func104, Try.ntmps104; go_wp2; go_ret; exact ⟨rfl, hB⟩

set_option maxHeartbeats 8000000 in
set_option maxRecDepth 100000 in
theorem num_value.calls (n : Int) (w : World) :
    Calls Try.prog 135 #[.int .i64 n] w fun e w' => e = .returned (.agg #[.int .i64 0, .int .i64 n, .string ⟨#[]⟩]) ∧ Below w.heap.size w w' := by
  have hu38 := Try.underlying38
  go_enter Try.func135, Try.ntmps135
  go_wp2
  refine bodyPost_ret (results_cell_row rfl _ _ w.heap.size 38 #[.int .i64 0, .int .i64 n, .string ⟨#[]⟩] (0, 0) _ rfl (blk_new _ _) Try.underlying38 rfl (by kernel_rfl)) rfl ?_
  exact ⟨rfl, (Below.refl _ _).alloc (Nat.le_refl _) _⟩

set_option maxHeartbeats 8000000 in
set_option maxRecDepth 100000 in
theorem tru_value.calls (b : Bool) (w : World) :
    Calls Try.prog 56 #[.bool b] w fun e w' => e = .returned (.agg #[.int .i64 1, .int .i64 (b2i b), .string ⟨#[]⟩]) ∧ Below w.heap.size w w' := by
  have hu38 := Try.underlying38
  cases b with
  | false =>
    go_enter Try.func56, Try.ntmps56
    go_wp2
    refine bodyPost_ret (results_cell_row rfl _ _ w.heap.size 38 #[.int .i64 1, .int .i64 0, .string ⟨#[]⟩] (0, 0) _ rfl (blk_new _ _) Try.underlying38 rfl (by kernel_rfl)) rfl ?_
    exact ⟨rfl, (Below.refl _ _).alloc (Nat.le_refl _) _⟩
  | true =>
    go_enter Try.func56, Try.ntmps56
    go_wp2
    refine bodyPost_ret (results_cell_row rfl _ _ w.heap.size 38 #[.int .i64 1, .int .i64 1, .string ⟨#[]⟩] (0, 0) _ rfl (blk_new _ _) Try.underlying38 rfl (by kernel_rfl)) rfl ?_
    exact ⟨rfl, (Below.refl _ _).alloc (Nat.le_refl _) _⟩

set_option maxHeartbeats 8000000 in
set_option maxRecDepth 100000 in
theorem oth_value.calls (k n : Int) (s : ByteArray) (w : World) :
    Calls Try.prog 136 #[.agg #[.int .i64 k, .int .i64 n, .string s]] w fun e w' => e = .returned (.agg #[.int .i64 k, .int .i64 n, .string s]) ∧ Below w.heap.size w w' := by
  have hu38 := Try.underlying38
  have hu159 := Try.underlying159
  go_enter Try.func136, Try.ntmps136
  go_wp2
  refine bodyPost_ret (results_cell_row rfl _ _ (w.heap.size + 1) 38 #[.int .i64 k, .int .i64 n, .string s] (0, 0) _ rfl (by have h := blk_new (w.alloc (.cells #[.int .i64 k, .int .i64 n, .string s] 159)) (.cells #[.int .i64 k, .int .i64 n, .string s] 38); simpa using h) Try.underlying38 rfl (by kernel_rfl)) rfl ?_
  exact ⟨rfl, below_alloc ((Below.refl _ _).alloc (Nat.le_refl _) _) _⟩

theorem m_num (n : Int) (w : World) : (method 280 152 (.int .i64 n) "towncrier/expr.value").run Try.prog w = .ok (135, .int .i64 n) w := by kernel_rfl
theorem m_tru (b : Bool) (w : World) : (method 280 94 (.bool b) "towncrier/expr.value").run Try.prog w = .ok (56, .bool b) w := by kernel_rfl
theorem m_oth (k n : Int) (s : ByteArray) (w : World) : (method 280 159 (.agg #[.int .i64 k, .int .i64 n, .string s]) "towncrier/expr.value").run Try.prog w = .ok (136, .agg #[.int .i64 k, .int .i64 n, .string s]) w := by kernel_rfl

/-- Things that the program makes: what is neither an Int nor a Bool is of another kind. -/
def okT : Thing → Prop
  | .oth k _ _ => k ≠ 0 ∧ k ≠ 1
  | _ => True
theorem okT_of (k n : Int) (s : ByteArray) : okT (thingOf k n s) := by
  unfold thingOf
  by_cases h0 : k = 0
  · rw [if_pos h0]; trivial
  · rw [if_neg h0]
    by_cases h1 : k = 1
    · rw [if_pos h1]; trivial
    · rw [if_neg h1]; exact ⟨h0, h1⟩
/-- value.Less's answer. -/
def lessNS (n : Int) (s : ByteArray) (n' : Int) (s' : ByteArray) : Bool := if n < n' then true else if n' < n then false else Op.bytesLess s.toList s'.toList
def lessV (k n : Int) (s : ByteArray) (k' n' : Int) (s' : ByteArray) : Bool × Bool :=
  if mayB k n s = true then (if mayB k' n' s' = true then (if k = k' then (lessNS n s n' s', true) else (false, false)) else (false, false)) else (false, false)
theorem cmpI_some (a b : Int) : cmp_Compare_int.f a b = some (if a < b then -1 else if a > b then 1 else 0) := by
  unfold cmp_Compare_int.f cmp_isNaN_int.f
  simp only [Option.bind_some, bne_self_eq_false, Bool.false_eq_true, if_false]
  split <;> (try split) <;> rfl
theorem cmpOr2 (a b : Int) : cmp_Or_int.f 3 [a, b] = some (if a = 0 then b else a) := by
  unfold cmp_Or_int.f
  simp only [cmp_Or_int.l0, List.length_cons, List.length_nil, rd, wrap64]
  by_cases h : a = 0
  · subst h
    simp
    by_cases hb : b = 0
    · subst hb; simp
    · simp [hb]
  · simp [h]
theorem less_some (k n : Int) (s : ByteArray) (k' n' : Int) (s' : ByteArray) : value_Less.f 4 k n s k' n' s' = some (lessV k n s k' n' s') := by
  unfold value_Less.f value_May.f lessV
  simp only [Option.bind_some]
  by_cases h1 : mayB k n s = true
  · rw [if_pos h1, if_pos h1]
    by_cases h2 : mayB k' n' s' = true
    · rw [if_pos h2, if_pos h2]
      by_cases h3 : k = k'
      · rw [if_pos h3, show (k != k') = false from by simp [h3]]
        simp only [value_Less.j0, Bool.false_eq_true, if_false, cmpI_some, cmp_Compare_string.f, Option.bind_some, cmpOr2]
        unfold lessNS cmpS
        by_cases g1 : n < n'
        · simp [g1]
        · rw [if_neg g1, if_neg g1]
          by_cases g2 : n > n'
          · rw [if_pos g2, if_pos (show n' < n from g2)]; simp
          · rw [if_neg g2, if_neg (show ¬ n' < n from g2)]
            cases g3 : Op.bytesLess s.toList s'.toList <;> simp
            split <;> simp
      · rw [if_neg h3, show (k != k') = true from by simp [h3]]
        simp [value_Less.j0]
    · rw [if_neg h2, if_neg h2]; simp [value_Less.j0]
  · rw [if_neg h1, if_neg h1]; simp [value_Less.j0]

theorem sum_some (c p q : Int) : ∃ r, expr_sum.f c p q = some r := by
  unfold expr_sum.f
  repeat' split
  all_goals exact ⟨_, rfl⟩
def sumT (c p q : Int) : Int × Bool := (expr_sum.f c p q).getD (0, false)
theorem sumT_some (c p q : Int) : expr_sum.f c p q = some (sumT c p q) := by
  obtain ⟨r, hr⟩ := sum_some c p q
  unfold sumT; rw [hr]; rfl

/-- What comes of two things; the error's number. -/
def twoT (c : Int) (x y : Thing) : Option Thing × Int :=
  if tK x = tK y then
    if c = 6 then (some (.tru (tN x == tN y && (tS x).toList == (tS y).toList)), 0)
    else if c = 5 then (match x with | .tru _ => (none, 5) | _ => (some (.tru (lessV (tK x) (tN x) (tS x) (tK y) (tN y) (tS y)).1), 0))
    else if c = 7 ∨ c = 8 then (match x, y with | .tru p, .tru q => (some (.tru (p && q || (c == 8 && (p || q)))), 0) | _, _ => (none, 5))
    else (match x, y with | .num p, .num q => (if (sumT c p q).2 = true then (some (.num (sumT c p q).1), 0) else (none, 6)) | _, _ => (none, 5))
  else (none, 5)
def optV : Option Thing → Value
  | none => .nilIface
  | some t => thingV t

theorem ta_n_tru (n : Int) (W : World) : (Instr.typeAssert (.iface 152 (.int .i64 n)) 125 94 true).run Try.prog W = .ok (.tuple #[.bool false, .bool false]) W := by kernel_rfl
theorem ta_t_tru (b : Bool) (W : World) : (Instr.typeAssert (.iface 94 (.bool b)) 125 94 true).run Try.prog W = .ok (.tuple #[.bool b, .bool true]) W := by kernel_rfl
theorem ta_o_tru (k n : Int) (s : ByteArray) (W : World) : (Instr.typeAssert (.iface 159 (.agg #[.int .i64 k, .int .i64 n, .string s])) 125 94 true).run Try.prog W = .ok (.tuple #[.bool false, .bool false]) W := by kernel_rfl
theorem ta_t_trux (b : Bool) (W : World) : (Instr.typeAssert (.iface 94 (.bool b)) 125 94 false).run Try.prog W = .ok (.bool b) W := by kernel_rfl
theorem ta_n_num (n : Int) (W : World) : (Instr.typeAssert (.iface 152 (.int .i64 n)) 125 152 true).run Try.prog W = .ok (.tuple #[.int .i64 n, .bool true]) W := by kernel_rfl
theorem ta_t_num (b : Bool) (W : World) : (Instr.typeAssert (.iface 94 (.bool b)) 125 152 true).run Try.prog W = .ok (.tuple #[.int .i64 0, .bool false]) W := by kernel_rfl
theorem ta_o_num (k n : Int) (s : ByteArray) (W : World) : (Instr.typeAssert (.iface 159 (.agg #[.int .i64 k, .int .i64 n, .string s])) 125 152 true).run Try.prog W = .ok (.tuple #[.int .i64 0, .bool false]) W := by kernel_rfl
theorem ta_n_numx (n : Int) (W : World) : (Instr.typeAssert (.iface 152 (.int .i64 n)) 125 152 false).run Try.prog W = .ok (.int .i64 n) W := by kernel_rfl

set_option maxHeartbeats 8000000 in
set_option maxRecDepth 100000 in
theorem two_num_tru (c : Int) (x : Int) (y : Bool) (w : World) :
    Calls Try.prog 107 #[.int .i64 c, thingV (.num x), thingV (.tru y)] w fun e w' => e = .returned (.tuple #[.nilIface, .int .i64 5]) ∧ Below w.heap.size w w' := by
  have hu38 := Try.underlying38
  have m1 := m_num
  have m2 := m_tru
  have m3 := m_oth
  have ta1 := ta_n_tru
  have ta2 := ta_t_tru
  have ta3 := ta_o_tru
  have ta4 := ta_t_trux
  have ta5 := ta_n_num
  have ta6 := ta_t_num
  have ta7 := ta_o_num
  have ta8 := ta_n_numx
  unfold thingV
  go_enter Try.func107, Try.ntmps107
  go_wp2_with (fail)
  refine (num_value.calls x _).mono ?_
  rintro e w1 ⟨rfl, hb⟩
  go_wp2_with (fail)
  refine (tru_value.calls y _).mono ?_
  rintro e w2 ⟨rfl, hb2⟩
  replace hb := Aside0.mk (below_step hb hb2)
  clear hb2
  go_wp2
  go_ret2
  exact ⟨rfl, below_alloc (below_alloc hb.out _) _⟩

set_option maxHeartbeats 8000000 in
set_option maxRecDepth 100000 in
theorem two_num_oth (c : Int) (x : Int) (ky ny : Int) (sy : ByteArray) (hne : (0 : Int) ≠ ky) (w : World) :
    Calls Try.prog 107 #[.int .i64 c, thingV (.num x), thingV (.oth ky ny sy)] w fun e w' => e = .returned (.tuple #[.nilIface, .int .i64 5]) ∧ Below w.heap.size w w' := by
  have f1 : ((0 : Int) == ky) = false := beq_eq_false_iff_ne.mpr hne
  have f2 : ((0 : Int) != ky) = true := bne_iff_ne.mpr hne
  clear hne
  have hu38 := Try.underlying38
  have m1 := m_num
  have m2 := m_tru
  have m3 := m_oth
  have ta1 := ta_n_tru
  have ta2 := ta_t_tru
  have ta3 := ta_o_tru
  have ta4 := ta_t_trux
  have ta5 := ta_n_num
  have ta6 := ta_t_num
  have ta7 := ta_o_num
  have ta8 := ta_n_numx
  unfold thingV
  go_enter Try.func107, Try.ntmps107
  go_wp2_with (fail)
  refine (num_value.calls x _).mono ?_
  rintro e w1 ⟨rfl, hb⟩
  go_wp2_with (fail)
  refine (oth_value.calls ky ny sy _).mono ?_
  rintro e w2 ⟨rfl, hb2⟩
  replace hb := Aside0.mk (below_step hb hb2)
  clear hb2
  go_wp2
  go_ret2
  exact ⟨rfl, below_alloc (below_alloc hb.out _) _⟩

set_option maxHeartbeats 8000000 in
set_option maxRecDepth 100000 in
theorem two_tru_num (c : Int) (x : Bool) (y : Int) (w : World) :
    Calls Try.prog 107 #[.int .i64 c, thingV (.tru x), thingV (.num y)] w fun e w' => e = .returned (.tuple #[.nilIface, .int .i64 5]) ∧ Below w.heap.size w w' := by
  have hu38 := Try.underlying38
  have m1 := m_num
  have m2 := m_tru
  have m3 := m_oth
  have ta1 := ta_n_tru
  have ta2 := ta_t_tru
  have ta3 := ta_o_tru
  have ta4 := ta_t_trux
  have ta5 := ta_n_num
  have ta6 := ta_t_num
  have ta7 := ta_o_num
  have ta8 := ta_n_numx
  unfold thingV
  go_enter Try.func107, Try.ntmps107
  go_wp2_with (fail)
  refine (tru_value.calls x _).mono ?_
  rintro e w1 ⟨rfl, hb⟩
  go_wp2_with (fail)
  refine (num_value.calls y _).mono ?_
  rintro e w2 ⟨rfl, hb2⟩
  replace hb := Aside0.mk (below_step hb hb2)
  clear hb2
  go_wp2
  go_ret2
  exact ⟨rfl, below_alloc (below_alloc hb.out _) _⟩

set_option maxHeartbeats 8000000 in
set_option maxRecDepth 100000 in
theorem two_tru_oth (c : Int) (x : Bool) (ky ny : Int) (sy : ByteArray) (hne : (1 : Int) ≠ ky) (w : World) :
    Calls Try.prog 107 #[.int .i64 c, thingV (.tru x), thingV (.oth ky ny sy)] w fun e w' => e = .returned (.tuple #[.nilIface, .int .i64 5]) ∧ Below w.heap.size w w' := by
  have f1 : ((1 : Int) == ky) = false := beq_eq_false_iff_ne.mpr hne
  have f2 : ((1 : Int) != ky) = true := bne_iff_ne.mpr hne
  clear hne
  have hu38 := Try.underlying38
  have m1 := m_num
  have m2 := m_tru
  have m3 := m_oth
  have ta1 := ta_n_tru
  have ta2 := ta_t_tru
  have ta3 := ta_o_tru
  have ta4 := ta_t_trux
  have ta5 := ta_n_num
  have ta6 := ta_t_num
  have ta7 := ta_o_num
  have ta8 := ta_n_numx
  unfold thingV
  go_enter Try.func107, Try.ntmps107
  go_wp2_with (fail)
  refine (tru_value.calls x _).mono ?_
  rintro e w1 ⟨rfl, hb⟩
  go_wp2_with (fail)
  refine (oth_value.calls ky ny sy _).mono ?_
  rintro e w2 ⟨rfl, hb2⟩
  replace hb := Aside0.mk (below_step hb hb2)
  clear hb2
  go_wp2
  go_ret2
  exact ⟨rfl, below_alloc (below_alloc hb.out _) _⟩

set_option maxHeartbeats 8000000 in
set_option maxRecDepth 100000 in
theorem two_oth_num (c : Int) (kx nx : Int) (sx : ByteArray) (y : Int) (hne : (kx : Int) ≠ 0) (w : World) :
    Calls Try.prog 107 #[.int .i64 c, thingV (.oth kx nx sx), thingV (.num y)] w fun e w' => e = .returned (.tuple #[.nilIface, .int .i64 5]) ∧ Below w.heap.size w w' := by
  have f1 : ((kx : Int) == 0) = false := beq_eq_false_iff_ne.mpr hne
  have f2 : ((kx : Int) != 0) = true := bne_iff_ne.mpr hne
  clear hne
  have hu38 := Try.underlying38
  have m1 := m_num
  have m2 := m_tru
  have m3 := m_oth
  have ta1 := ta_n_tru
  have ta2 := ta_t_tru
  have ta3 := ta_o_tru
  have ta4 := ta_t_trux
  have ta5 := ta_n_num
  have ta6 := ta_t_num
  have ta7 := ta_o_num
  have ta8 := ta_n_numx
  unfold thingV
  go_enter Try.func107, Try.ntmps107
  go_wp2_with (fail)
  refine (oth_value.calls kx nx sx _).mono ?_
  rintro e w1 ⟨rfl, hb⟩
  go_wp2_with (fail)
  refine (num_value.calls y _).mono ?_
  rintro e w2 ⟨rfl, hb2⟩
  replace hb := Aside0.mk (below_step hb hb2)
  clear hb2
  go_wp2
  go_ret2
  exact ⟨rfl, below_alloc (below_alloc hb.out _) _⟩

set_option maxHeartbeats 8000000 in
set_option maxRecDepth 100000 in
theorem two_oth_tru (c : Int) (kx nx : Int) (sx : ByteArray) (y : Bool) (hne : (kx : Int) ≠ 1) (w : World) :
    Calls Try.prog 107 #[.int .i64 c, thingV (.oth kx nx sx), thingV (.tru y)] w fun e w' => e = .returned (.tuple #[.nilIface, .int .i64 5]) ∧ Below w.heap.size w w' := by
  have f1 : ((kx : Int) == 1) = false := beq_eq_false_iff_ne.mpr hne
  have f2 : ((kx : Int) != 1) = true := bne_iff_ne.mpr hne
  clear hne
  have hu38 := Try.underlying38
  have m1 := m_num
  have m2 := m_tru
  have m3 := m_oth
  have ta1 := ta_n_tru
  have ta2 := ta_t_tru
  have ta3 := ta_o_tru
  have ta4 := ta_t_trux
  have ta5 := ta_n_num
  have ta6 := ta_t_num
  have ta7 := ta_o_num
  have ta8 := ta_n_numx
  unfold thingV
  go_enter Try.func107, Try.ntmps107
  go_wp2_with (fail)
  refine (oth_value.calls kx nx sx _).mono ?_
  rintro e w1 ⟨rfl, hb⟩
  go_wp2_with (fail)
  refine (tru_value.calls y _).mono ?_
  rintro e w2 ⟨rfl, hb2⟩
  replace hb := Aside0.mk (below_step hb hb2)
  clear hb2
  go_wp2
  go_ret2
  exact ⟨rfl, below_alloc (below_alloc hb.out _) _⟩

set_option maxHeartbeats 8000000 in
set_option maxRecDepth 100000 in
theorem two_oth_oth (c : Int) (kx nx : Int) (sx : ByteArray) (ky ny : Int) (sy : ByteArray) (hne : (kx : Int) ≠ ky) (w : World) :
    Calls Try.prog 107 #[.int .i64 c, thingV (.oth kx nx sx), thingV (.oth ky ny sy)] w fun e w' => e = .returned (.tuple #[.nilIface, .int .i64 5]) ∧ Below w.heap.size w w' := by
  have f1 : ((kx : Int) == ky) = false := beq_eq_false_iff_ne.mpr hne
  have f2 : ((kx : Int) != ky) = true := bne_iff_ne.mpr hne
  clear hne
  have hu38 := Try.underlying38
  have m1 := m_num
  have m2 := m_tru
  have m3 := m_oth
  have ta1 := ta_n_tru
  have ta2 := ta_t_tru
  have ta3 := ta_o_tru
  have ta4 := ta_t_trux
  have ta5 := ta_n_num
  have ta6 := ta_t_num
  have ta7 := ta_o_num
  have ta8 := ta_n_numx
  unfold thingV
  go_enter Try.func107, Try.ntmps107
  go_wp2_with (fail)
  refine (oth_value.calls kx nx sx _).mono ?_
  rintro e w1 ⟨rfl, hb⟩
  go_wp2_with (fail)
  refine (oth_value.calls ky ny sy _).mono ?_
  rintro e w2 ⟨rfl, hb2⟩
  replace hb := Aside0.mk (below_step hb hb2)
  clear hb2
  go_wp2
  go_ret2
  exact ⟨rfl, below_alloc (below_alloc hb.out _) _⟩

attribute [local go_sem high] eqA38
set_option maxHeartbeats 8000000 in
set_option maxRecDepth 100000 in
theorem two_same_num (x : Int) (y : Int) (w : World) :
    Calls Try.prog 107 #[.int .i64 6, thingV (.num x), thingV (.num y)] w fun e w' => e = .returned (.tuple #[.iface 94 (.bool (x == y)), .int .i64 0]) ∧ Below w.heap.size w w' := by
  have hu38 := Try.underlying38
  have m1 := m_num
  have m2 := m_tru
  have m3 := m_oth
  have ta1 := ta_n_tru
  have ta2 := ta_t_tru
  have ta3 := ta_o_tru
  have ta4 := ta_t_trux
  have ta5 := ta_n_num
  have ta6 := ta_t_num
  have ta7 := ta_o_num
  have ta8 := ta_n_numx
  unfold thingV
  go_enter Try.func107, Try.ntmps107
  go_wp2_with (fail)
  refine (num_value.calls x _).mono ?_
  rintro e w1 ⟨rfl, hb⟩
  go_wp2_with (fail)
  refine (num_value.calls y _).mono ?_
  rintro e w2 ⟨rfl, hb2⟩
  replace hb := Aside0.mk (below_step hb hb2)
  clear hb2
  go_wp2
  go_ret2
  exact ⟨rfl, below_alloc (below_alloc hb.out _) _⟩

set_option maxHeartbeats 8000000 in
set_option maxRecDepth 100000 in
theorem two_less_num (x : Int) (y : Int) (r1 r2 : Bool) (hl : lessV 0 x ⟨#[]⟩ 0 y ⟨#[]⟩ = (r1, r2)) (w : World) :
    Calls Try.prog 107 #[.int .i64 5, thingV (.num x), thingV (.num y)] w fun e w' => e = .returned (.tuple #[.iface 94 (.bool r1), .int .i64 0]) ∧ Below w.heap.size w w' := by
  have HL := Aside0.mk ((less_some 0 x ⟨#[]⟩ 0 y ⟨#[]⟩).trans (congrArg some hl))
  clear hl
  have hu38 := Try.underlying38
  have m1 := m_num
  have m2 := m_tru
  have m3 := m_oth
  have ta1 := ta_n_tru
  have ta2 := ta_t_tru
  have ta3 := ta_o_tru
  have ta4 := ta_t_trux
  have ta5 := ta_n_num
  have ta6 := ta_t_num
  have ta7 := ta_o_num
  have ta8 := ta_n_numx
  unfold thingV
  go_enter Try.func107, Try.ntmps107
  go_wp2_with (fail)
  refine (num_value.calls x _).mono ?_
  rintro e w1 ⟨rfl, hb⟩
  go_wp2_with (fail)
  refine (num_value.calls y _).mono ?_
  rintro e w2 ⟨rfl, hb2⟩
  replace hb := Aside0.mk (below_step hb hb2)
  clear hb2
  go_wp2_with (fail)
  refine (value_Less.calls 4 0 x ⟨#[]⟩ 0 y ⟨#[]⟩ r1 r2 _ HL.out).mono ?_
  rintro e w3 ⟨rfl, hb3⟩
  replace hb := Aside0.mk (below_step (below_alloc (below_alloc hb.out _) _) hb3)
  clear hb3
  go_wp2
  go_ret2
  exact ⟨rfl, hb.out⟩

set_option maxHeartbeats 8000000 in
set_option maxRecDepth 100000 in
theorem two_c7_num (x : Int) (y : Int) (w : World) :
    Calls Try.prog 107 #[.int .i64 7, thingV (.num x), thingV (.num y)] w fun e w' => e = .returned (.tuple #[.nilIface, .int .i64 5]) ∧ Below w.heap.size w w' := by
  have hu38 := Try.underlying38
  have m1 := m_num
  have m2 := m_tru
  have m3 := m_oth
  have ta1 := ta_n_tru
  have ta2 := ta_t_tru
  have ta3 := ta_o_tru
  have ta4 := ta_t_trux
  have ta5 := ta_n_num
  have ta6 := ta_t_num
  have ta7 := ta_o_num
  have ta8 := ta_n_numx
  unfold thingV
  go_enter Try.func107, Try.ntmps107
  go_wp2_with (fail)
  refine (num_value.calls x _).mono ?_
  rintro e w1 ⟨rfl, hb⟩
  go_wp2_with (fail)
  refine (num_value.calls y _).mono ?_
  rintro e w2 ⟨rfl, hb2⟩
  replace hb := Aside0.mk (below_step hb hb2)
  clear hb2
  go_wp2
  go_ret2
  exact ⟨rfl, below_alloc (below_alloc hb.out _) _⟩

set_option maxHeartbeats 8000000 in
set_option maxRecDepth 100000 in
theorem two_c8_num (x : Int) (y : Int) (w : World) :
    Calls Try.prog 107 #[.int .i64 8, thingV (.num x), thingV (.num y)] w fun e w' => e = .returned (.tuple #[.nilIface, .int .i64 5]) ∧ Below w.heap.size w w' := by
  have hu38 := Try.underlying38
  have m1 := m_num
  have m2 := m_tru
  have m3 := m_oth
  have ta1 := ta_n_tru
  have ta2 := ta_t_tru
  have ta3 := ta_o_tru
  have ta4 := ta_t_trux
  have ta5 := ta_n_num
  have ta6 := ta_t_num
  have ta7 := ta_o_num
  have ta8 := ta_n_numx
  unfold thingV
  go_enter Try.func107, Try.ntmps107
  go_wp2_with (fail)
  refine (num_value.calls x _).mono ?_
  rintro e w1 ⟨rfl, hb⟩
  go_wp2_with (fail)
  refine (num_value.calls y _).mono ?_
  rintro e w2 ⟨rfl, hb2⟩
  replace hb := Aside0.mk (below_step hb hb2)
  clear hb2
  go_wp2
  go_ret2
  exact ⟨rfl, below_alloc (below_alloc hb.out _) _⟩

set_option maxHeartbeats 8000000 in
set_option maxRecDepth 100000 in
theorem two_other_num_true (c x y r : Int) (h6 : c ≠ 6) (h5 : c ≠ 5) (h7 : c ≠ 7) (h8 : c ≠ 8) (w : World) (hs : expr_sum.f c x y = some (r, true)) :
    Calls Try.prog 107 #[.int .i64 c, thingV (.num x), thingV (.num y)] w fun e w' => e = .returned (.tuple #[.iface 152 (.int .i64 r), .int .i64 0]) ∧ Below w.heap.size w w' := by
  have f6 : (c == 6) = false := beq_eq_false_iff_ne.mpr h6
  have f5 : (c == 5) = false := beq_eq_false_iff_ne.mpr h5
  have f7 : (c == 7) = false := beq_eq_false_iff_ne.mpr h7
  have f8 : (c == 8) = false := beq_eq_false_iff_ne.mpr h8
  clear h5 h6 h7 h8
  replace hs := Aside0.mk hs
  have hu38 := Try.underlying38
  have m1 := m_num
  have m2 := m_tru
  have m3 := m_oth
  have ta1 := ta_n_tru
  have ta2 := ta_t_tru
  have ta3 := ta_o_tru
  have ta4 := ta_t_trux
  have ta5 := ta_n_num
  have ta6 := ta_t_num
  have ta7 := ta_o_num
  have ta8 := ta_n_numx
  unfold thingV
  go_enter Try.func107, Try.ntmps107
  go_wp2_with (fail)
  refine (num_value.calls x _).mono ?_
  rintro e w1 ⟨rfl, hb⟩
  go_wp2_with (fail)
  refine (num_value.calls y _).mono ?_
  rintro e w2 ⟨rfl, hb2⟩
  replace hb := Aside0.mk (below_step hb hb2)
  clear hb2
  go_wp2_with (fail)
  refine (expr_sum.calls c x y r true _ hs.out).mono ?_
  rintro e w3 ⟨rfl, ⟨nd, rfl⟩⟩
  go_wp2
  go_ret2
  exact ⟨rfl, pw_below_drewN (below_alloc (below_alloc hb.out _) _) _⟩

set_option maxHeartbeats 8000000 in
set_option maxRecDepth 100000 in
theorem two_other_num_false (c x y r : Int) (h6 : c ≠ 6) (h5 : c ≠ 5) (h7 : c ≠ 7) (h8 : c ≠ 8) (w : World) (hs : expr_sum.f c x y = some (r, false)) :
    Calls Try.prog 107 #[.int .i64 c, thingV (.num x), thingV (.num y)] w fun e w' => e = .returned (.tuple #[.nilIface, .int .i64 6]) ∧ Below w.heap.size w w' := by
  have f6 : (c == 6) = false := beq_eq_false_iff_ne.mpr h6
  have f5 : (c == 5) = false := beq_eq_false_iff_ne.mpr h5
  have f7 : (c == 7) = false := beq_eq_false_iff_ne.mpr h7
  have f8 : (c == 8) = false := beq_eq_false_iff_ne.mpr h8
  clear h5 h6 h7 h8
  replace hs := Aside0.mk hs
  have hu38 := Try.underlying38
  have m1 := m_num
  have m2 := m_tru
  have m3 := m_oth
  have ta1 := ta_n_tru
  have ta2 := ta_t_tru
  have ta3 := ta_o_tru
  have ta4 := ta_t_trux
  have ta5 := ta_n_num
  have ta6 := ta_t_num
  have ta7 := ta_o_num
  have ta8 := ta_n_numx
  unfold thingV
  go_enter Try.func107, Try.ntmps107
  go_wp2_with (fail)
  refine (num_value.calls x _).mono ?_
  rintro e w1 ⟨rfl, hb⟩
  go_wp2_with (fail)
  refine (num_value.calls y _).mono ?_
  rintro e w2 ⟨rfl, hb2⟩
  replace hb := Aside0.mk (below_step hb hb2)
  clear hb2
  go_wp2_with (fail)
  refine (expr_sum.calls c x y r false _ hs.out).mono ?_
  rintro e w3 ⟨rfl, ⟨nd, rfl⟩⟩
  go_wp2
  go_ret2
  exact ⟨rfl, pw_below_drewN (below_alloc (below_alloc hb.out _) _) _⟩

attribute [local go_sem high] eqA38
set_option maxHeartbeats 8000000 in
set_option maxRecDepth 100000 in
theorem two_same_tru (x : Bool) (y : Bool) (w : World) :
    Calls Try.prog 107 #[.int .i64 6, thingV (.tru x), thingV (.tru y)] w fun e w' => e = .returned (.tuple #[.iface 94 (.bool (b2i x == b2i y)), .int .i64 0]) ∧ Below w.heap.size w w' := by
  have hu38 := Try.underlying38
  have m1 := m_num
  have m2 := m_tru
  have m3 := m_oth
  have ta1 := ta_n_tru
  have ta2 := ta_t_tru
  have ta3 := ta_o_tru
  have ta4 := ta_t_trux
  have ta5 := ta_n_num
  have ta6 := ta_t_num
  have ta7 := ta_o_num
  have ta8 := ta_n_numx
  unfold thingV
  go_enter Try.func107, Try.ntmps107
  go_wp2_with (fail)
  refine (tru_value.calls x _).mono ?_
  rintro e w1 ⟨rfl, hb⟩
  go_wp2_with (fail)
  refine (tru_value.calls y _).mono ?_
  rintro e w2 ⟨rfl, hb2⟩
  replace hb := Aside0.mk (below_step hb hb2)
  clear hb2
  go_wp2
  go_ret2
  exact ⟨rfl, below_alloc (below_alloc hb.out _) _⟩

set_option maxHeartbeats 8000000 in
set_option maxRecDepth 100000 in
theorem two_less_tru (x : Bool) (y : Bool) (r1 r2 : Bool) (hl : lessV 1 (b2i x) ⟨#[]⟩ 1 (b2i y) ⟨#[]⟩ = (r1, r2)) (w : World) :
    Calls Try.prog 107 #[.int .i64 5, thingV (.tru x), thingV (.tru y)] w fun e w' => e = .returned (.tuple #[.nilIface, .int .i64 5]) ∧ Below w.heap.size w w' := by
  have HL := Aside0.mk ((less_some 1 (b2i x) ⟨#[]⟩ 1 (b2i y) ⟨#[]⟩).trans (congrArg some hl))
  clear hl
  have hu38 := Try.underlying38
  have m1 := m_num
  have m2 := m_tru
  have m3 := m_oth
  have ta1 := ta_n_tru
  have ta2 := ta_t_tru
  have ta3 := ta_o_tru
  have ta4 := ta_t_trux
  have ta5 := ta_n_num
  have ta6 := ta_t_num
  have ta7 := ta_o_num
  have ta8 := ta_n_numx
  unfold thingV
  go_enter Try.func107, Try.ntmps107
  go_wp2_with (fail)
  refine (tru_value.calls x _).mono ?_
  rintro e w1 ⟨rfl, hb⟩
  go_wp2_with (fail)
  refine (tru_value.calls y _).mono ?_
  rintro e w2 ⟨rfl, hb2⟩
  replace hb := Aside0.mk (below_step hb hb2)
  clear hb2
  go_wp2_with (fail)
  refine (value_Less.calls 4 1 (b2i x) ⟨#[]⟩ 1 (b2i y) ⟨#[]⟩ r1 r2 _ HL.out).mono ?_
  rintro e w3 ⟨rfl, hb3⟩
  replace hb := Aside0.mk (below_step (below_alloc (below_alloc hb.out _) _) hb3)
  clear hb3
  go_wp2
  go_ret2
  exact ⟨rfl, hb.out⟩

set_option maxHeartbeats 8000000 in
set_option maxRecDepth 100000 in
theorem two_c7_tru (x : Bool) (y : Bool) (w : World) :
    Calls Try.prog 107 #[.int .i64 7, thingV (.tru x), thingV (.tru y)] w fun e w' => e = .returned (.tuple #[.iface 94 (.bool (x && y)), .int .i64 0]) ∧ Below w.heap.size w w' := by
  cases x <;> cases y
  all_goals
    have hu38 := Try.underlying38
    have m1 := m_num
    have m2 := m_tru
    have m3 := m_oth
    have ta1 := ta_n_tru
    have ta2 := ta_t_tru
    have ta3 := ta_o_tru
    have ta4 := ta_t_trux
    have ta5 := ta_n_num
    have ta6 := ta_t_num
    have ta7 := ta_o_num
    have ta8 := ta_n_numx
    unfold thingV
    go_enter Try.func107, Try.ntmps107
    go_wp2_with (fail)
    refine (tru_value.calls _ _).mono ?_
    rintro e w1 ⟨rfl, hb⟩
    go_wp2_with (fail)
    refine (tru_value.calls _ _).mono ?_
    rintro e w2 ⟨rfl, hb2⟩
    replace hb := Aside0.mk (below_step hb hb2)
    clear hb2
    go_wp2
    go_quiet (fail)
    go_wp2
    go_ret2
    exact ⟨rfl, pw_below_drewN (below_alloc (below_alloc hb.out _) _) _⟩

set_option maxHeartbeats 8000000 in
set_option maxRecDepth 100000 in
theorem two_c8_tru (x : Bool) (y : Bool) (w : World) :
    Calls Try.prog 107 #[.int .i64 8, thingV (.tru x), thingV (.tru y)] w fun e w' => e = .returned (.tuple #[.iface 94 (.bool (x && y || (x || y))), .int .i64 0]) ∧ Below w.heap.size w w' := by
  cases x <;> cases y
  all_goals
    have hu38 := Try.underlying38
    have m1 := m_num
    have m2 := m_tru
    have m3 := m_oth
    have ta1 := ta_n_tru
    have ta2 := ta_t_tru
    have ta3 := ta_o_tru
    have ta4 := ta_t_trux
    have ta5 := ta_n_num
    have ta6 := ta_t_num
    have ta7 := ta_o_num
    have ta8 := ta_n_numx
    unfold thingV
    go_enter Try.func107, Try.ntmps107
    go_wp2_with (fail)
    refine (tru_value.calls _ _).mono ?_
    rintro e w1 ⟨rfl, hb⟩
    go_wp2_with (fail)
    refine (tru_value.calls _ _).mono ?_
    rintro e w2 ⟨rfl, hb2⟩
    replace hb := Aside0.mk (below_step hb hb2)
    clear hb2
    go_wp2
    go_quiet (fail)
    go_wp2
    go_ret2
    exact ⟨rfl, pw_below_drewN (below_alloc (below_alloc hb.out _) _) _⟩

set_option maxHeartbeats 8000000 in
set_option maxRecDepth 100000 in
theorem two_other_tru (c : Int) (x : Bool) (y : Bool) (h6 : c ≠ 6) (h5 : c ≠ 5) (h7 : c ≠ 7) (h8 : c ≠ 8) (w : World) :
    Calls Try.prog 107 #[.int .i64 c, thingV (.tru x), thingV (.tru y)] w fun e w' => e = .returned (.tuple #[.nilIface, .int .i64 5]) ∧ Below w.heap.size w w' := by
  have f6 : (c == 6) = false := beq_eq_false_iff_ne.mpr h6
  have f5 : (c == 5) = false := beq_eq_false_iff_ne.mpr h5
  have f7 : (c == 7) = false := beq_eq_false_iff_ne.mpr h7
  have f8 : (c == 8) = false := beq_eq_false_iff_ne.mpr h8
  clear h5 h6 h7 h8
  have hu38 := Try.underlying38
  have m1 := m_num
  have m2 := m_tru
  have m3 := m_oth
  have ta1 := ta_n_tru
  have ta2 := ta_t_tru
  have ta3 := ta_o_tru
  have ta4 := ta_t_trux
  have ta5 := ta_n_num
  have ta6 := ta_t_num
  have ta7 := ta_o_num
  have ta8 := ta_n_numx
  unfold thingV
  go_enter Try.func107, Try.ntmps107
  go_wp2_with (fail)
  refine (tru_value.calls x _).mono ?_
  rintro e w1 ⟨rfl, hb⟩
  go_wp2_with (fail)
  refine (tru_value.calls y _).mono ?_
  rintro e w2 ⟨rfl, hb2⟩
  replace hb := Aside0.mk (below_step hb hb2)
  clear hb2
  go_wp2
  go_ret2
  exact ⟨rfl, below_alloc (below_alloc hb.out _) _⟩

attribute [local go_sem high] eqA38
set_option maxHeartbeats 8000000 in
set_option maxRecDepth 100000 in
theorem two_same_oth (kx nx : Int) (sx : ByteArray) (ny : Int) (sy : ByteArray) (w : World) :
    Calls Try.prog 107 #[.int .i64 6, thingV (.oth kx nx sx), thingV (.oth kx ny sy)] w fun e w' => e = .returned (.tuple #[.iface 94 (.bool (nx == ny && sx.toList == sy.toList)), .int .i64 0]) ∧ Below w.heap.size w w' := by
  have hu38 := Try.underlying38
  have m1 := m_num
  have m2 := m_tru
  have m3 := m_oth
  have ta1 := ta_n_tru
  have ta2 := ta_t_tru
  have ta3 := ta_o_tru
  have ta4 := ta_t_trux
  have ta5 := ta_n_num
  have ta6 := ta_t_num
  have ta7 := ta_o_num
  have ta8 := ta_n_numx
  unfold thingV
  go_enter Try.func107, Try.ntmps107
  go_wp2_with (fail)
  refine (oth_value.calls kx nx sx _).mono ?_
  rintro e w1 ⟨rfl, hb⟩
  go_wp2_with (fail)
  refine (oth_value.calls kx ny sy _).mono ?_
  rintro e w2 ⟨rfl, hb2⟩
  replace hb := Aside0.mk (below_step hb hb2)
  clear hb2
  go_wp2
  go_ret2
  exact ⟨rfl, below_alloc (below_alloc hb.out _) _⟩

set_option maxHeartbeats 8000000 in
set_option maxRecDepth 100000 in
theorem two_less_oth (kx nx : Int) (sx : ByteArray) (ny : Int) (sy : ByteArray) (r1 r2 : Bool) (hl : lessV kx nx sx kx ny sy = (r1, r2)) (w : World) :
    Calls Try.prog 107 #[.int .i64 5, thingV (.oth kx nx sx), thingV (.oth kx ny sy)] w fun e w' => e = .returned (.tuple #[.iface 94 (.bool r1), .int .i64 0]) ∧ Below w.heap.size w w' := by
  have HL := Aside0.mk ((less_some kx nx sx kx ny sy).trans (congrArg some hl))
  clear hl
  have hu38 := Try.underlying38
  have m1 := m_num
  have m2 := m_tru
  have m3 := m_oth
  have ta1 := ta_n_tru
  have ta2 := ta_t_tru
  have ta3 := ta_o_tru
  have ta4 := ta_t_trux
  have ta5 := ta_n_num
  have ta6 := ta_t_num
  have ta7 := ta_o_num
  have ta8 := ta_n_numx
  unfold thingV
  go_enter Try.func107, Try.ntmps107
  go_wp2_with (fail)
  refine (oth_value.calls kx nx sx _).mono ?_
  rintro e w1 ⟨rfl, hb⟩
  go_wp2_with (fail)
  refine (oth_value.calls kx ny sy _).mono ?_
  rintro e w2 ⟨rfl, hb2⟩
  replace hb := Aside0.mk (below_step hb hb2)
  clear hb2
  go_wp2_with (fail)
  refine (value_Less.calls 4 kx nx sx kx ny sy r1 r2 _ HL.out).mono ?_
  rintro e w3 ⟨rfl, hb3⟩
  replace hb := Aside0.mk (below_step (below_alloc (below_alloc hb.out _) _) hb3)
  clear hb3
  go_wp2
  go_ret2
  exact ⟨rfl, hb.out⟩

set_option maxHeartbeats 8000000 in
set_option maxRecDepth 100000 in
theorem two_c7_oth (kx nx : Int) (sx : ByteArray) (ny : Int) (sy : ByteArray) (w : World) :
    Calls Try.prog 107 #[.int .i64 7, thingV (.oth kx nx sx), thingV (.oth kx ny sy)] w fun e w' => e = .returned (.tuple #[.nilIface, .int .i64 5]) ∧ Below w.heap.size w w' := by
  have hu38 := Try.underlying38
  have m1 := m_num
  have m2 := m_tru
  have m3 := m_oth
  have ta1 := ta_n_tru
  have ta2 := ta_t_tru
  have ta3 := ta_o_tru
  have ta4 := ta_t_trux
  have ta5 := ta_n_num
  have ta6 := ta_t_num
  have ta7 := ta_o_num
  have ta8 := ta_n_numx
  unfold thingV
  go_enter Try.func107, Try.ntmps107
  go_wp2_with (fail)
  refine (oth_value.calls kx nx sx _).mono ?_
  rintro e w1 ⟨rfl, hb⟩
  go_wp2_with (fail)
  refine (oth_value.calls kx ny sy _).mono ?_
  rintro e w2 ⟨rfl, hb2⟩
  replace hb := Aside0.mk (below_step hb hb2)
  clear hb2
  go_wp2
  go_ret2
  exact ⟨rfl, below_alloc (below_alloc hb.out _) _⟩

set_option maxHeartbeats 8000000 in
set_option maxRecDepth 100000 in
theorem two_c8_oth (kx nx : Int) (sx : ByteArray) (ny : Int) (sy : ByteArray) (w : World) :
    Calls Try.prog 107 #[.int .i64 8, thingV (.oth kx nx sx), thingV (.oth kx ny sy)] w fun e w' => e = .returned (.tuple #[.nilIface, .int .i64 5]) ∧ Below w.heap.size w w' := by
  have hu38 := Try.underlying38
  have m1 := m_num
  have m2 := m_tru
  have m3 := m_oth
  have ta1 := ta_n_tru
  have ta2 := ta_t_tru
  have ta3 := ta_o_tru
  have ta4 := ta_t_trux
  have ta5 := ta_n_num
  have ta6 := ta_t_num
  have ta7 := ta_o_num
  have ta8 := ta_n_numx
  unfold thingV
  go_enter Try.func107, Try.ntmps107
  go_wp2_with (fail)
  refine (oth_value.calls kx nx sx _).mono ?_
  rintro e w1 ⟨rfl, hb⟩
  go_wp2_with (fail)
  refine (oth_value.calls kx ny sy _).mono ?_
  rintro e w2 ⟨rfl, hb2⟩
  replace hb := Aside0.mk (below_step hb hb2)
  clear hb2
  go_wp2
  go_ret2
  exact ⟨rfl, below_alloc (below_alloc hb.out _) _⟩

set_option maxHeartbeats 8000000 in
set_option maxRecDepth 100000 in
theorem two_other_oth (c : Int) (kx nx : Int) (sx : ByteArray) (ny : Int) (sy : ByteArray) (h6 : c ≠ 6) (h5 : c ≠ 5) (h7 : c ≠ 7) (h8 : c ≠ 8) (w : World) :
    Calls Try.prog 107 #[.int .i64 c, thingV (.oth kx nx sx), thingV (.oth kx ny sy)] w fun e w' => e = .returned (.tuple #[.nilIface, .int .i64 5]) ∧ Below w.heap.size w w' := by
  have f6 : (c == 6) = false := beq_eq_false_iff_ne.mpr h6
  have f5 : (c == 5) = false := beq_eq_false_iff_ne.mpr h5
  have f7 : (c == 7) = false := beq_eq_false_iff_ne.mpr h7
  have f8 : (c == 8) = false := beq_eq_false_iff_ne.mpr h8
  clear h5 h6 h7 h8
  have hu38 := Try.underlying38
  have m1 := m_num
  have m2 := m_tru
  have m3 := m_oth
  have ta1 := ta_n_tru
  have ta2 := ta_t_tru
  have ta3 := ta_o_tru
  have ta4 := ta_t_trux
  have ta5 := ta_n_num
  have ta6 := ta_t_num
  have ta7 := ta_o_num
  have ta8 := ta_n_numx
  unfold thingV
  go_enter Try.func107, Try.ntmps107
  go_wp2_with (fail)
  refine (oth_value.calls kx nx sx _).mono ?_
  rintro e w1 ⟨rfl, hb⟩
  go_wp2_with (fail)
  refine (oth_value.calls kx ny sy _).mono ?_
  rintro e w2 ⟨rfl, hb2⟩
  replace hb := Aside0.mk (below_step hb hb2)
  clear hb2
  go_wp2
  go_ret2
  exact ⟨rfl, below_alloc (below_alloc hb.out _) _⟩

end Go.Proofs.Yteommchgnocgnaa.PE
