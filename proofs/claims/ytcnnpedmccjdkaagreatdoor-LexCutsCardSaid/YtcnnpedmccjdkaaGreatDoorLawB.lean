/- Layer 16: the reference's Name; LexNames. -/
import Derived.Test.YtcnnpedmccjdkaaGreatDoorLawA
set_option linter.unusedSimpArgs false
set_option linter.unusedVariables false
namespace Go.Proofs.YtcnnpedmccjdkaaGreatDoor
open Go.RowKit
set_option maxRecDepth 100000 in
set_option maxHeartbeats 1000000 in
theorem in_any (c a z : Int) (w : World) : Calls Tryz.prog 33 #[.int .u8 c, .int .u8 a, .int .u8 z] w fun e w' => e = .returned (.bool (decide (a ≤ c) && decide (c ≤ z))) ∧ w = w' := by
  go_enter Tryz.func33, Tryz.ntmps33
  go_wp2
  all_goals (go_ret; exact ⟨ret_bool (by first | rfl | (rw [Bool.eq_iff_iff]; simp <;> omega)), rfl⟩)
set_option maxRecDepth 100000 in
set_option maxHeartbeats 1000000 in
theorem rName_any (s : ByteArray) (hs : s.size ≤ 9223372036854775807) (w : World) :
    Calls Tryz.prog 18 #[.string s] w fun e w' => e = .returned (.bool (isName (L s))) ∧ w = w' := by
  go_enter Tryz.func18, Tryz.ntmps18
  go_wp2
  go_loop [3] (fun vi => ∃ k : Nat, k ≤ s.size ∧ vi = .int .i64 (k : Int) ∧ okPre ((L s).take k) = true) (fun vi => s.size - (intOf vi).toNat)
  case atStart => exact ⟨0, by omega, rfl, rfl⟩
  case round =>
    obtain ⟨k, hk, rfl, ho⟩ := hrel
    have HO := Lib.hid ho
    clear ho
    by_cases hlt : k < s.size
    · have hb1 : (0 : Int) ≤ (k : Int) := by omega
      have hb2 : (k : Int) < (s.size : Int) := by omega
      have HN : ¬ nameC k ((s[k]'hlt).toNat : Int) → isName (L s) = false := fun h => name_no s k hlt HO.out h
      have HY : nameC k ((s[k]'hlt).toNat : Int) → okPre ((L s).take (k + 1)) = true := fun h => (okPre_step s k hlt HO.out).2 h
      obtain ⟨x, hx⟩ : ∃ x : Nat, s[k].toNat = x := ⟨_, rfl⟩
      rw [hx] at HN HY
      have HN' := Lib.hid HN
      have HY' := Lib.hid HY
      clear HN HY
      go_wp2_with (go_at_call 33; refine (in_any _ _ _ _).mono ?_; rintro e w' ⟨rfl, rfl⟩)
      all_goals first
        | (go_ret; refine ⟨ret_bool ?_, rfl⟩; refine (HN'.out ?_).symm; clear HN' HY' HO; unfold nameC; ((try simp only [Bool.not_eq_true', Bool.not_eq_false', beq_eq_false_iff_ne, bne_iff_ne, bne_eq_false_iff_eq, beq_iff_eq, decide_eq_true_eq, decide_eq_false_iff_not, ne_eq, Bool.and_eq_true, Bool.or_eq_true, Bool.and_eq_false_iff, Bool.or_eq_false_iff, Bool.not_not] at *); omega))
        | (go_round
           case rel => exact ⟨k + 1, by omega, by simp <;> omega, HY'.out (by clear HN' HY' HO; unfold nameC; ((try simp only [Bool.not_eq_true', Bool.not_eq_false', beq_eq_false_iff_ne, bne_iff_ne, bne_eq_false_iff_eq, beq_iff_eq, decide_eq_true_eq, decide_eq_false_iff_not, ne_eq, Bool.and_eq_true, Bool.or_eq_true, Bool.and_eq_false_iff, Bool.or_eq_false_iff, Bool.not_not] at *); omega))⟩
           case measure => (try simp only [intOf]); (try simp); omega)
        | (exfalso; clear HN' HY' HO; ((try simp only [Bool.not_eq_true', Bool.not_eq_false', beq_eq_false_iff_ne, bne_iff_ne, bne_eq_false_iff_eq, beq_iff_eq, decide_eq_true_eq, decide_eq_false_iff_not, ne_eq, Bool.and_eq_true, Bool.or_eq_true, Bool.and_eq_false_iff, Bool.or_eq_false_iff, Bool.not_not] at *); omega))
    · have hkk : k = s.size := by omega
      subst hkk
      have HE := Lib.hid (name_end s (by have h := HO.out; rwa [List.take_of_length_le (by rw [size_L]; omega)] at h))
      have hz : Hid (s.size = 0 ↔ L s = []) := by
        show _ ↔ _
        rw [← size_L]; exact List.length_eq_zero_iff
      by_cases h0 : L s = []
      · have d1 : s.toList = [] := by rw [toList_L]; exact h0
        have h00 := hz.out.2 h0
        clear h0
        go_wp2
        go_ret
        exact ⟨ret_bool (by rw [HE.out]; simp [h00]), rfl⟩
      · have d1 : ¬ s.toList = [] := by rw [toList_L]; exact h0
        have h00 : s.size ≠ 0 := fun h => h0 (hz.out.1 h)
        clear h0
        go_wp2
        go_ret
        exact ⟨ret_bool (by rw [HE.out]; rw [Bool.eq_iff_iff]; simp [d1] <;> omega), rfl⟩
end Go.Proofs.YtcnnpedmccjdkaaGreatDoor
