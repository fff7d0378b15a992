import Derived.Test.YteommchgnocgnaaPE0
import Derived.Laws.RangeAny
namespace Go.Proofs.Yteommchgnocgnaa.PE
open Go.RowKit Go.Proofs.YteommchgnocgnaaW.PrintWords Go.Proofs.YteommchgnocgnaaW.PrintLast Go.Proofs.YteommchgnocgnaaW.PrintMore
set_option linter.unusedVariables false
set_option linter.unusedSimpArgs false

/-- May a name's letter c stand at place i? -/
def okC (i : Nat) (c : Int) : Bool := if 97 ≤ c then (if c ≤ 122 then true else false) else if i = 0 then false else if c = 95 then true else if 48 ≤ c then (if c ≤ 57 then true else false) else false
theorem okC_lt {i : Nat} {c : Int} (h : okC i c = true) : c < 128 := by
  unfold okC at h
  repeat' split at h
  all_goals first | omega | (simp at h)
def nameB (s : ByteArray) : Bool := (List.range s.size).all (fun i => okC i (bt s i)) && (decide (1 ≤ s.size) && decide (s.size ≤ 12))
def schema_Name.f (a0 : ByteArray) : Option (Bool) := some (nameB a0)
theorem nameB_no {s : ByteArray} {i : Nat} (hi : i < s.size) (h : okC i (bt s i) = false) : nameB s = false := by
  unfold nameB
  rw [Bool.and_eq_false_iff]; left
  rw [List.all_eq_false]
  exact ⟨i, List.mem_range.2 hi, by simp [h]⟩
theorem nameB_end {s : ByteArray} (h : ∀ j, j < s.size → okC j (bt s j) = true) : nameB s = (decide (1 ≤ s.size) && decide (s.size ≤ 12)) := by
  unfold nameB
  have : (List.range s.size).all (fun i => okC i (bt s i)) = true := by
    rw [List.all_eq_true]; intro x hx; exact h x (List.mem_range.1 hx)
  rw [this, Bool.true_and]
theorem bytes_isEmpty (s : ByteArray) : s.toList.isEmpty = decide (s.size = 0) := by
  rw [ByteArray.toList_eq]; obtain ⟨⟨l⟩⟩ := s; cases l <;> rfl
theorem below_iter (w : World) (s : ByteArray) (p : Nat) : Below w.heap.size w (w.iter s p) := by
  unfold World.iter; exact (Below.refl _ _).alloc (Nat.le_refl _) _

set_option maxHeartbeats 8000000 in
set_option maxRecDepth 100000 in
theorem schema_Name.calls (a0 : ByteArray) (r : Bool) (w : World) (h : schema_Name.f a0 = some r) :
    Calls Try.prog 75 #[.string a0] w fun e w' => e = .returned (.bool r) ∧ Below w.heap.size w w' := by
  obtain rfl := Option.some.inj h
  clear h
  obtain ⟨B, hB⟩ : ∃ B, B = nameB a0 := ⟨_, rfl⟩
  rw [← hB]
  replace hB := Aside0.mk hB
  go_enter Try.func75, Try.ntmps75
  go_wp2
  go_loopw [] (fun w' => ∃ (pos : Nat), w' = w.iter a0 pos ∧ Aside0 (pos ≤ a0.size) ∧ Aside0 (∀ j, j < pos → okC j (bt a0 j) = true)) (fun w' => a0.size - w'.iterPos w.heap.size)
  case atStart => exact ⟨0, rfl, ⟨Nat.zero_le _⟩, ⟨fun j hj => absurd hj (by omega)⟩⟩
  case round =>
    obtain ⟨pos, rfl, hle, hall⟩ := hrel
    by_cases hp : pos < a0.size
    · obtain ⟨c, d, hnx, hc⟩ : ∃ (c : Int) (d : Nat), (∀ ty, (Instr.next (.pointer (some ⟨w.heap.size, 0, none⟩)) true ty).run Try.prog (w.iter a0 pos) = .ok (.tuple #[.bool true, .int .i64 pos, .int .i32 c]) (w.iter a0 (pos + d))) ∧ ((c = bt a0 pos ∧ d = 1) ∨ (128 ≤ c ∧ 128 ≤ bt a0 pos)) := by
        have hbt : bt a0 pos = ((a0[pos]'hp).toNat : Int) := by unfold bt; rw [dif_pos (by simpa using hp)]; rfl
        by_cases ha : (a0[pos]'hp).toNat < 128
        · exact ⟨((a0[pos]'hp).toNat : Int), 1, fun ty => run_next_ascii w a0 pos ty hp ha, .inl ⟨hbt.symm, rfl⟩⟩
        · refine ⟨((Utf8.decode a0 pos).1 : Int), (Utf8.decode a0 pos).2, fun ty => run_next_any w a0 pos ty hp, .inr ⟨?_, ?_⟩⟩
          · have := (decode_high a0 pos hp (by omega)).1; omega
          · rw [hbt]; omega
      replace hc := Aside0.mk hc
      have hbad : okC pos c = false → B = false := by
        intro hok
        rw [hB.out]
        rcases hc.out with ⟨rfl, rfl⟩ | ⟨h1, h2⟩
        · exact nameB_no hp hok
        · refine nameB_no hp ?_
          cases hq : okC pos (bt a0 pos) with
          | false => rfl
          | true => have := okC_lt hq; omega
      replace hbad := Aside0.mk hbad
      go_wp2
      all_goals first
        | (go_ret
           have hb1 := hbad.out (by unfold okC; (repeat' split) <;> first | rfl | (exfalso; omega) | (exfalso; simp at *; omega))
           exact ⟨by rw [hb1]; rfl, below_iter w a0 _⟩)
        | (have hok : okC pos c = true := by unfold okC; (repeat' split) <;> first | rfl | (exfalso; omega) | (exfalso; simp at *; omega)
           obtain ⟨hc1, rfl⟩ : c = bt a0 pos ∧ d = 1 := by
             rcases hc.out with h | ⟨h1, h2⟩
             · exact h
             · have := okC_lt hok; omega
           go_roundw
           case rel => exact ⟨pos + 1, rfl, ⟨hp⟩, ⟨fun j hj => by
             rcases (by omega : j < pos ∨ j = pos) with h | h
             · exact hall.out j h
             · subst h; rw [← hc1]; exact hok⟩⟩
           case measure => simp; omega)
    · have hnx : ∀ ty, (Instr.next (.pointer (some ⟨w.heap.size, 0, none⟩)) true ty).run Try.prog (w.iter a0 pos) = _ := fun ty => run_next_end w a0 pos ty hp
      have hr : B = (!a0.toList.isEmpty && decide ((a0.size : Int) ≤ 12)) := by
        rw [hB.out, nameB_end (fun j hj => hall.out j (by omega)), bytes_isEmpty]
        by_cases hz : a0.size = 0
        · simp [hz]
        · have h1 : decide (1 ≤ a0.size) = true := decide_eq_true (by omega)
          rw [h1, decide_eq_false hz, Bool.true_and, Bool.not_false, Bool.true_and]
          exact decide_eq_decide.2 (by omega)
      replace hr := Aside0.mk hr
      cases hz : a0.toList.isEmpty with
      | true =>
        have hr2 : B = false := by rw [hr.out, hz]; rfl
        have hz1 := List.isEmpty_iff.1 hz
        subst hr2
        go_wp2
        go_ret
        exact ⟨rfl, below_iter w a0 _⟩
      | false =>
        have hr2 : B = decide ((a0.size : Int) ≤ 12) := by rw [hr.out, hz]; rfl
        have hr3 := Aside0.mk hr2
        clear hr2
        go_wp2
        go_ret
        rw [hr3.out]
        exact ⟨rfl, below_iter w a0 _⟩
end Go.Proofs.Yteommchgnocgnaa.PE
