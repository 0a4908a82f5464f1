/- lex: Name. -/
import Derived.Test.YtcnnpedmccjdkaaGreatDoorLexA
set_option linter.unusedSimpArgs false
set_option linter.unusedVariables false
namespace Go.Proofs.YtcnnpedmccjdkaaGreatDoor
open Go.RowKit
def okPre : B → Bool
  | [] => true
  | c :: t => lower c && t.all small
def nameC (i : Nat) (x : Int) : Prop := (97 ≤ x ∧ x ≤ 122) ∨ (0 < i ∧ ((48 ≤ x ∧ x ≤ 57) ∨ x = 95))
theorem isName_eq (l : B) : isName l = (okPre l && decide (1 ≤ l.length) && decide (l.length ≤ 16)) := by
  cases l with
  | nil => rfl
  | cons c t =>
    simp only [isName, okPre, List.length_cons]
    rw [Bool.eq_iff_iff]; simp
theorem okPre_snoc (l : B) (c : UInt8) : okPre (l ++ [c]) = (okPre l && (if l = [] then lower c else small c)) := by
  cases l with
  | nil => simp [okPre]
  | cons a t => simp [okPre, Bool.and_assoc]
theorem okPre_take (l : B) (k : Nat) (h : okPre l = true) : okPre (l.take k) = true := by
  cases l with
  | nil => simp [okPre]
  | cons a t =>
    cases k with
    | zero => rfl
    | succ k =>
      simp only [okPre, List.take_succ_cons, Bool.and_eq_true] at h ⊢
      exact ⟨h.1, by rw [List.all_eq_true] at h ⊢; exact fun x hx => h.2 x (List.mem_of_mem_take hx)⟩
theorem lower_iff (c : UInt8) : lower c = true ↔ 97 ≤ (c.toNat : Int) ∧ (c.toNat : Int) ≤ 122 := by
  unfold lower
  simp only [Bool.and_eq_true, decide_eq_true_eq, UInt8.le_iff_toNat_le]
  simp
  omega
theorem small_iff (c : UInt8) : small c = true ↔ (97 ≤ (c.toNat : Int) ∧ (c.toNat : Int) ≤ 122) ∨ (48 ≤ (c.toNat : Int) ∧ (c.toNat : Int) ≤ 57) ∨ (c.toNat : Int) = 95 := by
  rw [small_eq]; simp [or_assoc]
theorem okPre_step (s : ByteArray) (k : Nat) (h : k < s.size) (ho : okPre ((L s).take k) = true) :
    okPre ((L s).take (k + 1)) = true ↔ nameC k (s[k].toNat : Int) := by
  rw [take_L s k h, okPre_snoc, ho, Bool.true_and]
  have hl : ((L s).take k).length = k := by rw [List.length_take, size_L]; omega
  unfold nameC
  by_cases hk : k = 0
  · subst hk
    rw [if_pos (by simp), lower_iff]
    omega
  · rw [if_neg (by intro e; rw [e] at hl; simp at hl; omega), small_iff]
    omega
theorem name_no (s : ByteArray) (k : Nat) (h : k < s.size) (ho : okPre ((L s).take k) = true) (hc : ¬ nameC k (s[k].toNat : Int)) : isName (L s) = false := by
  cases hn : isName (L s) with
  | false => rfl
  | true =>
    rw [isName_eq] at hn
    simp only [Bool.and_eq_true] at hn
    exact absurd ((okPre_step s k h ho).1 (okPre_take _ _ hn.1.1)) hc
theorem name_end (s : ByteArray) (ho : okPre (L s) = true) : isName (L s) = (decide (1 ≤ (s.size : Int)) && decide ((s.size : Int) ≤ 16)) := by
  rw [isName_eq, ho, size_L]
  rw [Bool.eq_iff_iff]; simp; omega
set_option maxRecDepth 100000 in
set_option maxHeartbeats 1000000 in
theorem Name_any (s : ByteArray) (w : World) (hs : s.size ≤ 9223372036854775807) :
   Calls Tryz.prog 17 #[.string s] w fun e w' => e = .returned (.bool (isName (L s))) ∧ ∃ pos, w' = w.iter s pos := by
  go_enter Tryz.func17, Tryz.ntmps17
  go_wp2
  go_loopw [3] (fun _ w' => ∃ pos : Nat, w' = w.iter s pos ∧ pos ≤ s.size ∧ okPre ((L s).take pos) = true) (fun _ w' => s.size - w'.iterPos w.heap.size)
  case atStart => exact ⟨0, rfl, by omega, rfl⟩
  case round =>
    obtain ⟨pos, rfl, hle, ho⟩ := hrel
    have HO := Lib.hid ho
    clear ho
    by_cases hp : pos < s.size
    · by_cases ha : (s[pos]'hp).toNat < 128
      · have hnx : ∀ ty, (Instr.next (.pointer (some ⟨w.heap.size, 0, none⟩)) true ty).run Tryz.prog (w.iter s pos) = _ := fun ty => run_next_ascii w s pos ty hp ha
        have HN : ¬ nameC pos ((s[pos]'hp).toNat : Int) → isName (L s) = false := fun h => name_no s pos hp HO.out h
        have HY : nameC pos ((s[pos]'hp).toNat : Int) → okPre ((L s).take (pos + 1)) = true := fun h => (okPre_step s pos hp HO.out).2 h
        generalize ((s[pos]'hp).toNat) = x at *
        have HN' := Lib.hid HN
        have HY' := Lib.hid HY
        clear ha HN HY
        go_wp2
        all_goals first
          | (go_ret; refine ⟨ret_bool ?_, _, rfl⟩; refine (HN'.out ?_).symm; clear HN' HY' hnx; unfold nameC; ((try simp only [Bool.not_eq_true', Bool.not_eq_false', beq_eq_false_iff_ne, bne_iff_ne, beq_iff_eq, decide_eq_true_eq, decide_eq_false_iff_not, ne_eq, Bool.and_eq_true, Bool.or_eq_true, Bool.and_eq_false_iff, Bool.or_eq_false_iff, Bool.not_not] at *); omega))
          | (go_roundw
             case rel => exact ⟨pos + 1, rfl, by omega, HY'.out (by clear HN' HY' hnx; unfold nameC; ((try simp only [Bool.not_eq_true', Bool.not_eq_false', beq_eq_false_iff_ne, bne_iff_ne, beq_iff_eq, decide_eq_true_eq, decide_eq_false_iff_not, ne_eq, Bool.and_eq_true, Bool.or_eq_true, Bool.and_eq_false_iff, Bool.or_eq_false_iff, Bool.not_not] at *); omega))⟩
             case measure => simp; omega)
          | (exfalso; clear HN' HY' hnx; ((try simp only [Bool.not_eq_true', Bool.not_eq_false', beq_eq_false_iff_ne, bne_iff_ne, beq_iff_eq, decide_eq_true_eq, decide_eq_false_iff_not, ne_eq, Bool.and_eq_true, Bool.or_eq_true, Bool.and_eq_false_iff, Bool.or_eq_false_iff, Bool.not_not] at *); omega))
      · have hnx : ∀ ty, (Instr.next (.pointer (some ⟨w.heap.size, 0, none⟩)) true ty).run Tryz.prog (w.iter s pos) = _ := fun ty => run_next_any w s pos ty hp
        have HN : isName (L s) = false := name_no s pos hp HO.out (by unfold nameC; omega)
        have hd := (decode_high s pos hp (by omega)).1
        generalize (Utf8.decode s pos).1 = x at *
        generalize (Utf8.decode s pos).2 = y at *
        have HN' := Lib.hid HN
        have h95 : ((x : Int) == 95) = false := by simp; omega
        clear ha HN
        go_wp2
        all_goals first
          | (go_ret; refine ⟨ret_bool ?_, _, rfl⟩; exact HN'.out.symm)
          | (exfalso; clear HN' hnx; ((try simp only [Bool.not_eq_true', Bool.not_eq_false', beq_eq_false_iff_ne, bne_iff_ne, beq_iff_eq, decide_eq_true_eq, decide_eq_false_iff_not, ne_eq, Bool.and_eq_true, Bool.or_eq_true, Bool.and_eq_false_iff, Bool.or_eq_false_iff, Bool.not_not] at *); omega))
    · have hnx : ∀ ty, (Instr.next (.pointer (some ⟨w.heap.size, 0, none⟩)) true ty).run Tryz.prog (w.iter s pos) = _ := fun ty => run_next_end w s pos ty hp
      have HE : isName (L s) = _ := name_end s (by have h := HO.out; rwa [List.take_of_length_le (by rw [size_L]; omega)] at h)
      have HE' := Lib.hid HE
      clear HE
      go_wp2
      all_goals (go_ret; refine ⟨ret_bool ?_, _, rfl⟩; rw [HE'.out]; first | rfl | (rw [Bool.eq_iff_iff]; simp <;> omega))
end Go.Proofs.YtcnnpedmccjdkaaGreatDoor
