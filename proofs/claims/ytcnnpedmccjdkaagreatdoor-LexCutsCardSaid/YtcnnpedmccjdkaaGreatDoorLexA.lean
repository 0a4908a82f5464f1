/- lex: small, wordy, row, Name. -/
import Derived.Test.YtcnnpedmccjdkaaGreatDoorBase
set_option linter.unusedSimpArgs false
set_option linter.unusedVariables false
namespace Go.Proofs.YtcnnpedmccjdkaaGreatDoor
open Go.RowKit
theorem u8_bool {c : UInt8} {n : Nat} (h : n < 256) : (UInt8.ofNat n ≤ c) = (n ≤ c.toNat) := by
  rw [UInt8.le_iff_toNat_le]; simp [Nat.mod_eq_of_lt h]
theorem small_eq (c : UInt8) : small c = ((decide (97 ≤ (c.toNat : Int)) && decide ((c.toNat : Int) ≤ 122)) || (decide (48 ≤ (c.toNat : Int)) && decide ((c.toNat : Int) ≤ 57)) || decide ((c.toNat : Int) = 95)) := by
  unfold small lower digit
  rw [Bool.eq_iff_iff]
  simp only [Bool.or_eq_true, Bool.and_eq_true, decide_eq_true_eq, beq_iff_eq, UInt8.le_iff_toNat_le, ← UInt8.toNat_inj]
  simp
  omega
theorem wordy_eq (c : UInt8) : wordy c = ((decide (97 ≤ (c.toNat : Int)) && decide ((c.toNat : Int) ≤ 122)) || (decide (65 ≤ (c.toNat : Int)) && decide ((c.toNat : Int) ≤ 90)) || (decide (48 ≤ (c.toNat : Int)) && decide ((c.toNat : Int) ≤ 57)) || decide ((c.toNat : Int) = 45) || decide ((c.toNat : Int) = 46)) := by
  unfold wordy lower digit upper
  rw [Bool.eq_iff_iff]
  simp only [Bool.or_eq_true, Bool.and_eq_true, decide_eq_true_eq, beq_iff_eq, UInt8.le_iff_toNat_le, ← UInt8.toNat_inj]
  simp
  omega
set_option maxRecDepth 100000 in
set_option maxHeartbeats 400000 in
theorem small_any (c : UInt8) (w : World) : Calls Tryz.prog 49 #[.int .u8 c.toNat] w fun e w' => e = .returned (.bool (small c)) ∧ w = w' := by
  rw [small_eq]
  generalize (c.toNat : Int) = x
  go_enter Tryz.func49, Tryz.ntmps49
  go_wp2
  all_goals (go_ret; exact ⟨ret_bool (by first | rfl | (rw [Bool.eq_iff_iff]; simp <;> omega)), rfl⟩)
set_option maxRecDepth 100000 in
set_option maxHeartbeats 400000 in
theorem wordy_any (c : UInt8) (w : World) : Calls Tryz.prog 50 #[.int .u8 c.toNat] w fun e w' => e = .returned (.bool (wordy c)) ∧ w = w' := by
  rw [wordy_eq]
  generalize (c.toNat : Int) = x
  go_enter Tryz.func50, Tryz.ntmps50
  go_wp2
  all_goals (go_ret; exact ⟨ret_bool (by first | rfl | (rw [Bool.eq_iff_iff]; simp <;> omega)), rfl⟩)
theorem takeWhile_stop {p : UInt8 → Bool} (l : List UInt8) (k : Nat) (hk : k < l.length) (hp : ∀ c ∈ l.take k, p c = true) (hc : p l[k] = false) : l.takeWhile p = l.take k := by
  conv => lhs; rw [← List.take_append_drop k l]
  rw [List.takeWhile_append_of_pos hp, List.drop_eq_getElem_cons hk, List.takeWhile_cons_of_neg (by simp [hc])]
  simp
theorem takeWhile_all {p : UInt8 → Bool} (l : List UInt8) (hp : ∀ c ∈ l, p c = true) : l.takeWhile p = l := by
  have := List.takeWhile_append_of_pos (l₂ := []) hp
  simpa using this
set_option maxRecDepth 100000 in
set_option maxHeartbeats 400000 in
theorem row_any (p : UInt8 → Bool) (g : Nat) (s : ByteArray) (w : World) (hs : s.size ≤ 9223372036854775807)
   (eg : ∀ (args : Array Value) (w : World), (callFunc g args).run Tryz.prog w = .ok (.enter g args) w)
   (hg : ∀ (c : UInt8) (w : World), Calls Tryz.prog g #[.int .u8 c.toNat] w fun e w' => e = .returned (.bool (p c)) ∧ w = w') :
   Calls Tryz.prog 48 #[.string s, .func (.func g) #[] #[]] w fun e w' => e = .returned (.string (bs ((L s).takeWhile p))) ∧ w = w' := by
  have HG := Lib.hid hg
  clear hg
  go_enter Tryz.func48, Tryz.ntmps48
  go_wp2
  go_loop [5, 8] (fun _ i => ∃ k : Nat, k ≤ s.size ∧ i = .int .i64 k ∧ ∀ c ∈ (L s).take k, p c = true) (fun _ i => s.size - (intOf i).toNat)
  case atStart => exact ⟨0, by omega, rfl, by simp⟩
  case round =>
    obtain ⟨k, hk, rfl, hp⟩ := hrel
    have HP := Lib.hid hp
    clear hp
    by_cases hlt : k < s.size
    · cases hc : p s[k]
      all_goals have HC := Lib.hid hc
      all_goals clear hc
      · go_wp2_with (refine (HG.out s[k] _).mono ?_; rintro e w' ⟨rfl, rfl⟩; rw [HC.out])
        go_ret
        refine ⟨ret_str ?_, rfl⟩
        rw [takeWhile_stop (L s) k (by rw [size_L]; exact hlt) HP.out HC.out, extract_bs]
        simp
      · go_wp2_with (refine (HG.out s[k] _).mono ?_; rintro e w' ⟨rfl, rfl⟩; rw [HC.out])
        go_round
        case rel => exact ⟨k + 1, by omega, by go_num, by rw [take_L s k hlt]; intro c hc; rcases List.mem_append.1 hc with h | h; exact HP.out c h; rw [List.mem_singleton.1 h]; exact HC.out⟩
        case measure => simp [intOf]; omega
    · go_wp2
      go_ret
      refine ⟨ret_str ?_, rfl⟩
      rw [takeWhile_all]
      · rfl
      · have h := HP.out
        rwa [List.take_of_length_le (by rw [size_L]; omega)] at h
end Go.Proofs.YtcnnpedmccjdkaaGreatDoor
