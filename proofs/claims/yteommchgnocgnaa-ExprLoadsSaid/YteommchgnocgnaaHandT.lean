import Derived.Test.YteommchgnocgnaaHandQ
namespace Go.Proofs.Yteommchgnocgnaa.PE
open Go.RowKit Go.Proofs.YteommchgnocgnaaW.PrintWords Go.Proofs.YteommchgnocgnaaW.PrintLast Go.Proofs.YteommchgnocgnaaW.PrintMore
set_option linter.unusedVariables false
set_option linter.unusedSimpArgs false

theorem mono_eq {P : Program} {f : FuncId} {args : Array Value} {w : World} {v v' : Value} (h : Calls P f args w fun e w' => e = .returned v ∧ Below w.heap.size w w') (e : v = v') : Calls P f args w fun e w' => e = .returned v' ∧ Below w.heap.size w w' := e ▸ h

theorem expr_two.calls (c : Int) (x y : Thing) (hx : okT x) (hy : okT y) (w : World) :
    Calls Try.prog 107 #[.int .i64 c, thingV x, thingV y] w fun e w' => e = .returned (.tuple #[optV (twoT c x y).1, .int .i64 (twoT c x y).2]) ∧ Below w.heap.size w w' := by
  have hdiff : tK x ≠ tK y → .tuple #[optV (twoT c x y).1, .int .i64 (twoT c x y).2] = Value.tuple #[.nilIface, .int .i64 5] := by
    intro h; unfold twoT; rw [if_neg h]; rfl
  have h6 : tK x = tK y → c = 6 → twoT c x y = (some (.tru (tN x == tN y && (tS x).toList == (tS y).toList)), 0) := by
    intro h hc; unfold twoT; rw [if_pos h, if_pos hc]
  have h5 : tK x = tK y → c = 5 → twoT c x y = (match x with | .tru _ => (none, 5) | _ => (some (.tru (lessV (tK x) (tN x) (tS x) (tK y) (tN y) (tS y)).1), 0)) := by
    intro h hc; unfold twoT; rw [if_pos h, if_neg (by omega), if_pos hc]; cases x <;> rfl
  have h78 : tK x = tK y → (c = 7 ∨ c = 8) → twoT c x y = (match x, y with | .tru p, .tru q => (some (.tru (p && q || (c == 8 && (p || q)))), 0) | _, _ => (none, 5)) := by
    intro h hc; unfold twoT; rw [if_pos h, if_neg (by omega), if_neg (by omega), if_pos hc]; cases x <;> cases y <;> rfl
  have ho : tK x = tK y → c ≠ 6 → c ≠ 5 → c ≠ 7 → c ≠ 8 → twoT c x y = (match x, y with | .num p, .num q => (if (sumT c p q).2 = true then (some (.num (sumT c p q).1), 0) else (none, 6)) | _, _ => (none, 5)) := by
    intro h a1 a2 a3 a4; unfold twoT; rw [if_pos h, if_neg a1, if_neg a2, if_neg (by omega)]; cases x <;> cases y <;> rfl
  cases x with
  | num a =>
    cases y with
    | num b =>
      by_cases c6 : c = 6
      · subst c6; refine mono_eq (two_same_num a b w) ?_; rw [h6 rfl rfl]
        simp only [tN, tS, optV, thingV, beq_self_eq_true, Bool.and_true]
      by_cases c5 : c = 5
      · subst c5; refine mono_eq (two_less_num a b _ _ rfl w) ?_; rw [h5 rfl rfl]; rfl
      by_cases c7 : c = 7
      · subst c7; refine mono_eq (two_c7_num a b w) ?_; rw [h78 rfl (.inl rfl)]; rfl
      by_cases c8 : c = 8
      · subst c8; refine mono_eq (two_c8_num a b w) ?_; rw [h78 rfl (.inr rfl)]; rfl
      rw [ho rfl c6 c5 c7 c8]
      cases hs : (sumT c a b).2 with
      | true => refine mono_eq (two_other_num_true c a b (sumT c a b).1 c6 c5 c7 c8 w (by rw [sumT_some, ← hs])) ?_; simp only [hs, if_true]; rfl
      | false => refine mono_eq (two_other_num_false c a b (sumT c a b).1 c6 c5 c7 c8 w (by rw [sumT_some, ← hs])) ?_; simp only [hs, Bool.false_eq_true, if_false]; rfl
    | tru b => exact mono_eq (two_num_tru c a b w) (hdiff (by simp [tK])).symm
    | oth k n s => exact mono_eq (two_num_oth c a k n s (fun h => hy.1 h.symm) w) (hdiff (fun h => hy.1 h.symm)).symm
  | tru a =>
    cases y with
    | num b => exact mono_eq (two_tru_num c a b w) (hdiff (by simp [tK])).symm
    | tru b =>
      by_cases c6 : c = 6
      · subst c6; refine mono_eq (two_same_tru a b w) ?_; rw [h6 rfl rfl]
        simp only [tN, tS, optV, thingV, beq_self_eq_true, Bool.and_true]
      by_cases c5 : c = 5
      · subst c5; refine mono_eq (two_less_tru a b _ _ rfl w) ?_; rw [h5 rfl rfl]; rfl
      by_cases c7 : c = 7
      · subst c7; refine mono_eq (two_c7_tru a b w) ?_; rw [h78 rfl (.inl rfl)]
        cases a <;> cases b <;> rfl
      by_cases c8 : c = 8
      · subst c8; refine mono_eq (two_c8_tru a b w) ?_; rw [h78 rfl (.inr rfl)]; rfl
      rw [ho rfl c6 c5 c7 c8]
      exact mono_eq (two_other_tru c a b c6 c5 c7 c8 w) rfl
    | oth k n s => exact mono_eq (two_tru_oth c a k n s (fun h => hy.2 h.symm) w) (hdiff (fun h => hy.2 h.symm)).symm
  | oth k n s =>
    cases y with
    | num b => exact mono_eq (two_oth_num c k n s b hx.1 w) (hdiff hx.1).symm
    | tru b => exact mono_eq (two_oth_tru c k n s b hx.2 w) (hdiff hx.2).symm
    | oth k' n' s' =>
      by_cases hk : k = k'
      case neg => exact mono_eq (two_oth_oth c k n s k' n' s' hk w) (hdiff hk).symm
      subst hk
      by_cases c6 : c = 6
      · subst c6; refine mono_eq (two_same_oth k n s n' s' w) ?_; rw [h6 rfl rfl]; rfl
      by_cases c5 : c = 5
      · subst c5; refine mono_eq (two_less_oth k n s n' s' _ _ rfl w) ?_; rw [h5 rfl rfl]; rfl
      by_cases c7 : c = 7
      · subst c7; refine mono_eq (two_c7_oth k n s n' s' w) ?_; rw [h78 rfl (.inl rfl)]; rfl
      by_cases c8 : c = 8
      · subst c8; refine mono_eq (two_c8_oth k n s n' s' w) ?_; rw [h78 rfl (.inr rfl)]; rfl
      rw [ho rfl c6 c5 c7 c8]
      exact mono_eq (two_other_oth c k n s n' s' c6 c5 c7 c8 w) rfl

/-- The pile at block g: what lies on it, its values, its mark; W0: the world since which only g has been turned. -/
structure Pile (W0 w : World) (g : Nat) (xs : List Thing) (vv : Value) (kd : Bool) : Prop where
  row : ∃ vl, w.heap[g]? = some (.cells #[vl, vv, .bool kd] 82 (0, 0)) ∧ Kd.R kT 125 w W0.heap.size (fun k => k ≠ g) vl xs
  keep : KeepBut W0 w g none
  lt : g < W0.heap.size
  bel : Below g W0 w
/-- What has another type than the pile's rows, and is not the pile, stays. -/
def Stays (w w' : World) (g : Nat) : Prop := w.heap.size ≤ w'.heap.size ∧ ∀ b cs t, t ≠ 125 → b ≠ g → w.heap[b]? = some (.cells cs t (0, 0)) → w'.heap[b]? = some (.cells cs t (0, 0))
theorem Stays.refl (w : World) (g : Nat) : Stays w w g := ⟨Nat.le_refl _, fun _ _ _ _ _ h => h⟩
theorem Stays.trans {w w1 w2 : World} {g : Nat} (h : Stays w w1 g) (k : Stays w1 w2 g) : Stays w w2 g := ⟨Nat.le_trans h.1 k.1, fun b cs t ht hb hc => k.2 b cs t ht hb (h.2 b cs t ht hb hc)⟩
theorem Stays.below {w w1 : World} {g : Nat} (h : Below w.heap.size w w1) : Stays w w1 g := ⟨h.size, fun b cs t _ _ hc => blk_below hc h⟩
theorem Stays.alloc {w w1 : World} {g : Nat} (h : Stays w w1 g) (o : Obj) : Stays w (w1.alloc o) g := h.trans (.below (below_alloc (Below.refl _ _) o))
theorem Pile.below {W0 w w1 : World} {g : Nat} {xs : List Thing} {vv : Value} {kd : Bool} (h : Pile W0 w g xs vv kd) (hb : Below w.heap.size w w1) : Pile W0 w1 g xs vv kd := by
  obtain ⟨⟨vl, h1, h2⟩, h3, h4, h5⟩ := h
  exact ⟨⟨vl, blk_below h1 hb, Kd.R_below h2 hb⟩, h3.trans (KeepBut.of_below hb g none) (.inl rfl), h4, h5.trans (hb.mono (Nat.le_of_lt (Nat.lt_of_lt_of_le h4 (keep_size h3))))⟩

set_option maxHeartbeats 8000000 in
set_option maxRecDepth 100000 in
theorem pile_lay.calls (W0 : World) (g : Nat) (xs : List Thing) (vv : Value) (kd : Bool) (x : Thing) (w : World) (hp : Pile W0 w g xs vv kd) (hl : xs.length < 1000) :
    Calls Try.prog 103 #[.pointer (some ⟨g, 0, none⟩), thingV x] w fun e w' => e = .returned (.tuple #[]) ∧ Pile W0 w' g (xs ++ [x]) vv kd ∧ Stays w w' g := by
  obtain ⟨⟨vl, hb, hr⟩, hk, hlt, hbel⟩ := hp
  have HE := Aside0.mk hbel
  have hu82 := Try.underlying82
  have hc0 : w.cell? ⟨g, 0, none⟩ = some vl := (blk_cell hb 0).trans rfl
  have hf0 := blk_frozen hb 0
  have HB := Aside0.mk hb
  have HR := Aside0.mk hr
  have HK := Aside0.mk hk
  have HL := Aside0.mk hlt
  have HM := Aside0.mk hl
  obtain ⟨T, u, hT⟩ : ∃ T u, thingV x = .iface T u := by cases x <;> exact ⟨_, _, rfl⟩
  rw [hT]
  replace hT := Aside0.mk hT
  have HS := Aside0.mk (Nat.le_trans (Nat.succ_le_of_lt hlt) (keep_size hk))
  have HG : Aside0 (some g ≠ vl.ownBlock) := ⟨fun e => hr.1 g e.symm rfl⟩
  clear hb hr hk hlt hl hbel
  go_enter Try.func103, Try.ntmps103
  go_wp2_with (first | ((with_reducible refine gate_builtin (b := .append) (xs := #[.tmp 8, .tmp 10]) rfl ?_); at_builtin; refine Kd.R_append kT (w0 := w) W0.heap.size rfl (.tmp 8) (.tmp 10) 80 125 .nilIface 16 rfl Try.underlying80 info125 rfl (by decide) (by omega) vl xs x [.iface T u] (fun k => k ≠ g) (fun _ => False) rfl rfl ?aP (fun _ hk => hk.elim) ?aF ?aO ?aB ?aS ?aL ?_; (case aP => exact (show [Value.iface T u] = [thingV x] by rw [hT.out])); (case aB => exact Below.refl _ _); (case aF => exact (fun k hk => by have := HS.out; omega)); (case aO => exact HR.out); (case aS => exact keep_size HK.out); (case aL => have := HM.out; omega); intro v1 w1 ho hbl hgr hat; obtain ⟨A1, c1, rfl⟩ := Kd.R_slice ho; rw [show (xs ++ [x]).length = xs.length + 1 from by simp] at ho; have hc1 : w1.cell? ⟨g, 0, none⟩ = some vl := (blk_cell (blk_grown HB.out hgr HG.out) 0).trans rfl; have hf1 := blk_frozen (blk_grown HB.out hgr HG.out) 0; replace ho := Aside0.mk ho; replace hgr := Aside0.mk hgr; clear hat hbl hc0 hf0))
  go_end0
  refine ⟨rfl, ⟨⟨_, blk_put (blk_grown HB.out hgr.out HG.out) 0 _ rfl, Kd.R_far ho.out (fun _ h => h) _⟩, (HK.out.trans (KeepBut.of_grown hgr.out g) (Kd.R_base2 HR.out)).set_ 0 _, HL.out, (HE.out.grown hgr.out (Nat.le_of_lt (Nat.lt_of_lt_of_le HL.out (keep_size HK.out))) (fun k hk => Nat.le_trans (Nat.le_of_lt HL.out) (Kd.R_base HR.out k hk))).setCell (Nat.le_refl _) _⟩, ?_, ?_⟩
  · have := hgr.out.size; simpa [World.setCell] using this
  · intro b cs t ht hbg hc
    exact blk_far (blk_grown hc hgr.out (Kd.R_ne HR.out hc (Ne.symm ht))) hbg _
end Go.Proofs.Yteommchgnocgnaa.PE
