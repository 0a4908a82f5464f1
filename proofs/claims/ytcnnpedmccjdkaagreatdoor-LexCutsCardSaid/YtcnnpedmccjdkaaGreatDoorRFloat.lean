/- The reference's floats: parts, IsNan, Canon, Whole, Digits, Print. -/
import Derived.Test.YtcnnpedmccjdkaaGreatDoorFloatW
set_option linter.unusedSimpArgs false
set_option linter.unusedVariables false
namespace Go.Proofs.YtcnnpedmccjdkaaGreatDoor
open Go.RowKit
set_option maxRecDepth 100000 in
set_option maxHeartbeats 1000000 in
theorem rparts_any (u : Nat) (hu : u < 18446744073709551616) (w : World) :
    Calls Tryz.prog 73 #[.int .u64 (u : Int)] w fun e w' => e = .returned (.tuple #[.int .u64 ((u / 9223372036854775808 : Nat) : Int), .int .i64 ((u / 4503599627370496 % 2048 : Nat) : Int), .int .u64 ((u % 4503599627370496 : Nat) : Int)]) ∧ w = w' := by
  go_enter Tryz.func73, Tryz.ntmps73
  go_wp2
  go_ret3
  refine ⟨?_, rfl⟩
  simp only [Int.natCast_ediv, Int.natCast_emod]
  rfl
theorem isNaN_parts (u : Nat) (hu : u < 18446744073709551616) : isNaN u = (decide (((u / 4503599627370496 % 2048 : Nat) : Int) = 2047) && decide ((0 : Int) < ((u % 4503599627370496 : Nat) : Int))) := by
  unfold isNaN finf
  rw [Bool.eq_iff_iff]
  simp only [decide_eq_true_eq, Bool.and_eq_true]
  omega
set_option maxRecDepth 100000 in
set_option maxHeartbeats 1000000 in
theorem rIsNan_any (u : Nat) (hu : u < 18446744073709551616) (w : World) :
    Calls Tryz.prog 57 #[.int .u64 (u : Int)] w fun e w' => e = .returned (.bool (isNaN u)) ∧ w = w' := by
  have HP := Lib.hid (rparts_any u hu)
  have HN := Lib.hid (isNaN_parts u hu)
  clear hu
  rw [HN.out]
  generalize u / 9223372036854775808 = s at *
  generalize u / 4503599627370496 % 2048 = e at *
  generalize u % 4503599627370496 = m at *
  clear HN
  go_enter Tryz.func57, Tryz.ntmps57
  go_wp2_with (go_at_call 73; refine (HP.out _).mono ?_; rintro e w' ⟨rfl, rfl⟩)
  all_goals (go_ret; exact ⟨ret_bool (by first | rfl | (rw [Bool.eq_iff_iff]; simp <;> omega)), rfl⟩)
set_option maxRecDepth 100000 in
set_option maxHeartbeats 1000000 in
theorem rCanon_any (u : Nat) (hu : u < 18446744073709551616) (w : World) :
    Calls Tryz.prog 55 #[.int .u64 (u : Int)] w fun e w' => e = .returned (.int .u64 (fcanon u : Nat)) ∧ w = w' := by
  have HP := Lib.hid (rIsNan_any u hu)
  clear hu
  unfold fcanon
  cases hb : isNaN u
  all_goals rw [hb] at HP
  all_goals clear hb
  · go_enter Tryz.func55, Tryz.ntmps55
    go_wp2_with (go_at_call 57; refine (HP.out _).mono ?_; rintro e w' ⟨rfl, rfl⟩)
    go_ret
    exact ⟨rfl, rfl⟩
  · go_enter Tryz.func55, Tryz.ntmps55
    go_wp2_with (go_at_call 57; refine (HP.out _).mono ?_; rintro e w' ⟨rfl, rfl⟩)
    go_ret
    exact ⟨rfl, rfl⟩
/-! ### Whole -/
/-- What Whole reckons of the parts. -/
def wholeN (s e m : Nat) : Option Int :=
  if e = 0 ∧ m = 0 then some 0
  else if e < 1023 ∨ 1076 < e ∨ (e = 1076 ∧ 0 < m) then none
  else
    let n := m + 4503599627370496
    if e ≤ 1075 then
      if n % 2 ^ (1075 - e) = 0 then some (if s = 1 then -((n / 2 ^ (1075 - e) : Nat) : Int) else ((n / 2 ^ (1075 - e) : Nat) : Int)) else none
    else some (if s = 1 then -((2 * n : Nat) : Int) else ((2 * n : Nat) : Int))
theorem fwhole_parts (u : Nat) : fwhole u = wholeN (u / 9223372036854775808) (u / 4503599627370496 % 2048) (u % 4503599627370496) := rfl
theorem mod_half {n j : Nat} (h : n % 2 ^ j = 0) : (n % 2 ^ (j + 1) = 0) ↔ n / 2 ^ j % 2 = 0 := by
  have h1 := Nat.div_add_mod n (2 ^ j)
  rw [h, Nat.add_zero] at h1
  rw [Nat.pow_succ]
  constructor
  · intro h2
    rw [← h1, Nat.mul_mod_mul_left] at h2
    exact (Nat.mul_eq_zero.1 h2).resolve_left (Nat.ne_of_gt (pow_pos2 j))
  · intro h2
    rw [← h1, Nat.mul_mod_mul_left, h2, Nat.mul_zero]
theorem mod_more {n j k : Nat} (hjk : j ≤ k) (h : n % 2 ^ k = 0) : n % 2 ^ j = 0 := by
  obtain ⟨d, rfl⟩ : ∃ d, k = j + d := ⟨k - j, by omega⟩
  exact Nat.mod_eq_zero_of_dvd (Nat.dvd_trans (Nat.pow_dvd_pow 2 hjk) (Nat.dvd_of_mod_eq_zero h))
set_option maxRecDepth 100000 in
set_option maxHeartbeats 1000000 in
theorem rWhole_mid (s e m : Nat) (hs : s ≤ 1) (he0 : 1023 ≤ e) (he1 : e ≤ 1075) (hm : m < 4503599627370496) (u : Nat)
    (HP : Hid (∀ w, Calls Tryz.prog 73 #[.int .u64 (u : Int)] w fun e' w' => e' = .returned (.tuple #[.int .u64 (s : Int), .int .i64 (e : Int), .int .u64 (m : Int)]) ∧ w = w')) (w : World) :
    Calls Tryz.prog 56 #[.int .u64 (u : Int)] w fun e' w' => e' = .returned (.tuple #[.int .i64 ((wholeN s e m).getD 0), .bool (wholeN s e m).isSome]) ∧ w = w' := by
  have hw : wholeN s e m = if (m + 4503599627370496) % 2 ^ (1075 - e) = 0 then some (if s = 1 then -(((m + 4503599627370496) / 2 ^ (1075 - e) : Nat) : Int) else (((m + 4503599627370496) / 2 ^ (1075 - e) : Nat) : Int)) else none := by
    unfold wholeN
    rw [if_neg (by omega), if_neg (by omega)]
    dsimp only
    rw [if_pos he1]
  obtain ⟨R, hR⟩ : ∃ R, wholeN s e m = R := ⟨_, rfl⟩
  rw [hR]
  rw [hR] at hw
  clear hR
  obtain ⟨N, hN⟩ : ∃ N, m + 4503599627370496 = N := ⟨_, rfl⟩
  rw [hN] at hw
  have HW := Lib.hid hw
  clear hw
  have hN' : (m : Int) + 4503599627370496 = (N : Int) := by omega
  have hNb : N < 9007199254740992 := by omega
  have HN := Lib.hid hN
  clear hN
  have d1 : ((e : Int) == 0) = false := by simp; omega
  have d2 : ((e : Int) == 1076) = false := by simp; omega
  go_enter Tryz.func56, Tryz.ntmps56
  go_wp2_with (go_at_call 73; refine (HP.out _).mono ?_; rintro e' w' ⟨rfl, rfl⟩)
  go_loop [7, 8] (fun vn vk => ∃ (j q : Nat) (k : Int), vn = .int .u64 (q : Int) ∧ vk = .int .i64 k ∧ q < 9007199254740992 ∧ (e : Int) - 1075 ≤ k ∧ k ≤ 0 ∧ Hid (k = (e : Int) - 1075 + j ∧ q = N / 2 ^ j ∧ N % 2 ^ j = 0)) (fun _ vk => (0 - intOf vk).toNat)
  case atStart => exact ⟨0, N, (e : Int) - 1075, rfl, rfl, hNb, by omega, by omega, ⟨by omega, by simp, by simp [Nat.mod_one]⟩⟩
  case round =>
    obtain ⟨j, q, k, rfl, rfl, hq, hk0, hk1, hh⟩ := hrel
    clear hN' hNb
    by_cases hlt : k < 0
    · by_cases hodd : q % 2 = 1
      · have d3 : ((q : Int) % 2 == 1) = true := by simp; omega
        have HF : Hid (¬ N % 2 ^ (1075 - e) = 0) := by
          intro h
          obtain ⟨h1, h2, h3⟩ := hh.out
          have h4 := (mod_half h3).1 (mod_more (by omega) h)
          rw [← h2] at h4; omega
        have hR := HW.out
        rw [if_neg HF.out] at hR
        subst hR
        clear hodd HW
        go_wp2
        go_ret2
        exact ⟨rfl, rfl⟩
      · have d3 : ((q : Int) % 2 == 1) = false := by simp; omega
        have HF : Hid (k + 1 = (e : Int) - 1075 + (j + 1 : Nat) ∧ q / 2 = N / 2 ^ (j + 1) ∧ N % 2 ^ (j + 1) = 0) := by
          obtain ⟨h1, h2, h3⟩ := hh.out
          refine ⟨by omega, ?_, ?_⟩
          · rw [h2, Nat.div_div_eq_div_mul, Nat.pow_succ]
          · exact (mod_half h3).2 (by rw [← h2]; omega)
        clear hodd
        go_wp2
        go_round
        case rel => exact ⟨j + 1, q / 2, k + 1, by simp, rfl, by omega, by omega, by omega, HF⟩
        case measure => (try simp only [intOf]); (try simp); omega
    · have hk : k = 0 := by omega
      subst hk
      have HF : Hid (q = N / 2 ^ (1075 - e) ∧ N % 2 ^ (1075 - e) = 0) := by
        obtain ⟨h1, h2, h3⟩ := hh.out
        have : j = 1075 - e := by omega
        subst this
        exact ⟨h2, h3⟩
      clear hh hk0 hk1
      go_wp2
      go_loop [7, 8] (fun vn vk => vn = .int .u64 (q : Int) ∧ vk = .int .i64 0) (fun _ vk => 0)
      case atStart => exact ⟨rfl, rfl⟩
      case round =>
        obtain ⟨rfl, rfl⟩ := hrel
        by_cases h1 : s = 1
        · have d4 : ((s : Int) == 1) = true := by simp; omega
          have hR := HW.out
          rw [if_pos HF.out.2, if_pos h1, ← HF.out.1] at hR
          subst hR
          clear h1 HW
          go_wp2
          go_ret2
          exact ⟨rfl, rfl⟩
        · have d4 : ((s : Int) == 1) = false := by simp; omega
          have hR := HW.out
          rw [if_pos HF.out.2, if_neg h1, ← HF.out.1] at hR
          subst hR
          clear h1 HW
          go_wp2
          go_ret2
          exact ⟨rfl, rfl⟩
set_option maxRecDepth 100000 in
set_option maxHeartbeats 1000000 in
theorem rWhole_top (s : Nat) (hs : s ≤ 1) (u : Nat)
    (HP : Hid (∀ w, Calls Tryz.prog 73 #[.int .u64 (u : Int)] w fun e' w' => e' = .returned (.tuple #[.int .u64 (s : Int), .int .i64 1076, .int .u64 0]) ∧ w = w')) (w : World) :
    Calls Tryz.prog 56 #[.int .u64 (u : Int)] w fun e' w' => e' = .returned (.tuple #[.int .i64 ((wholeN s 1076 0).getD 0), .bool (wholeN s 1076 0).isSome]) ∧ w = w' := by
  have hw : wholeN s 1076 0 = some (if s = 1 then -9007199254740992 else 9007199254740992) := by
    unfold wholeN
    rw [if_neg (by omega), if_neg (by omega)]
    rfl
  obtain ⟨R, hR⟩ : ∃ R, wholeN s 1076 0 = R := ⟨_, rfl⟩
  rw [hR]
  rw [hR] at hw
  have HW := Lib.hid hw
  clear hw hR
  go_enter Tryz.func56, Tryz.ntmps56
  go_wp2_with (go_at_call 73; refine (HP.out _).mono ?_; rintro e' w' ⟨rfl, rfl⟩)
  go_loop [7, 8] (fun vn vk => vn = .int .u64 4503599627370496 ∧ vk = .int .i64 1) (fun _ vk => 0)
  case atStart => exact ⟨rfl, rfl⟩
  case round =>
    obtain ⟨rfl, rfl⟩ := hrel
    go_wp2
    go_loop [7, 8] (fun vn vk => (∃ q k : Int, vn = .int .u64 q ∧ vk = .int .i64 k ∧ (k = 1 ∧ q = 4503599627370496 ∨ k = 0 ∧ q = 9007199254740992))) (fun _ vk => (intOf vk).toNat)
    case atStart => exact ⟨_, _, rfl, rfl, .inl ⟨rfl, rfl⟩⟩
    case round =>
      obtain ⟨q, k, rfl, rfl, ⟨rfl, rfl⟩ | ⟨rfl, rfl⟩⟩ := hrel
      · go_wp2
        go_round
        case rel => exact ⟨_, _, rfl, rfl, .inr ⟨rfl, rfl⟩⟩
        case measure => (try simp only [intOf]); (try simp)
      · by_cases h1 : s = 1
        · have d4 : ((s : Int) == 1) = true := by simp; omega
          have hR := HW.out
          rw [if_pos h1] at hR
          subst hR
          clear h1 HW
          go_wp2
          go_ret2
          exact ⟨rfl, rfl⟩
        · have d4 : ((s : Int) == 1) = false := by simp; omega
          have hR := HW.out
          rw [if_neg h1] at hR
          subst hR
          clear h1 HW
          go_wp2
          go_ret2
          exact ⟨rfl, rfl⟩
set_option maxRecDepth 100000 in
set_option maxHeartbeats 1000000 in
theorem rWhole_none (s e m : Nat) (hz : ¬ (e = 0 ∧ m = 0)) (hn : e < 1023 ∨ 1076 < e ∨ (e = 1076 ∧ 0 < m)) (u : Nat)
    (HP : Hid (∀ w, Calls Tryz.prog 73 #[.int .u64 (u : Int)] w fun e' w' => e' = .returned (.tuple #[.int .u64 (s : Int), .int .i64 (e : Int), .int .u64 (m : Int)]) ∧ w = w')) (w : World) :
    Calls Tryz.prog 56 #[.int .u64 (u : Int)] w fun e' w' => e' = .returned (.tuple #[.int .i64 ((wholeN s e m).getD 0), .bool (wholeN s e m).isSome]) ∧ w = w' := by
  have hw : wholeN s e m = none := by
    unfold wholeN
    rw [if_neg hz, if_pos hn]
  rw [hw]
  clear hw
  have HZ := Lib.hid hz
  have HN := Lib.hid hn
  clear hz hn
  by_cases h0 : e = 0
  · subst h0
    have d1 : ((m : Int) == 0) = false := by have := HZ.out; simp; omega
    go_enter Tryz.func56, Tryz.ntmps56
    go_wp2_with (go_at_call 73; refine (HP.out _).mono ?_; rintro e' w' ⟨rfl, rfl⟩)
    go_ret2
    exact ⟨rfl, rfl⟩
  · have d1 : ((e : Int) == 0) = false := by simp; omega
    by_cases h1 : e < 1023
    · clear h0
      go_enter Tryz.func56, Tryz.ntmps56
      go_wp2_with (go_at_call 73; refine (HP.out _).mono ?_; rintro e' w' ⟨rfl, rfl⟩)
      go_ret2
      exact ⟨rfl, rfl⟩
    · by_cases h2 : 1076 < e
      · clear h0
        go_enter Tryz.func56, Tryz.ntmps56
        go_wp2_with (go_at_call 73; refine (HP.out _).mono ?_; rintro e' w' ⟨rfl, rfl⟩)
        go_ret2
        exact ⟨rfl, rfl⟩
      · obtain ⟨rfl, h3⟩ : e = 1076 ∧ 0 < m := by have := HN.out; omega
        clear h0 h1 h2 d1
        go_enter Tryz.func56, Tryz.ntmps56
        go_wp2_with (go_at_call 73; refine (HP.out _).mono ?_; rintro e' w' ⟨rfl, rfl⟩)
        go_ret2
        exact ⟨rfl, rfl⟩
set_option maxRecDepth 100000 in
set_option maxHeartbeats 1000000 in
theorem rWhole_any (u : Nat) (hu : u < 18446744073709551616) (w : World) :
    Calls Tryz.prog 56 #[.int .u64 (u : Int)] w fun e w' => e = .returned (.tuple #[.int .i64 ((fwhole u).getD 0), .bool (fwhole u).isSome]) ∧ w = w' := by
  have HP := Lib.hid (rparts_any u hu)
  rw [fwhole_parts]
  have hs : u / 9223372036854775808 ≤ 1 := by omega
  have he : u / 4503599627370496 % 2048 < 2048 := by omega
  have hm : u % 4503599627370496 < 4503599627370496 := by omega
  clear hu
  generalize u / 9223372036854775808 = s at *
  generalize u / 4503599627370496 % 2048 = e at *
  generalize u % 4503599627370496 = m at *
  by_cases hz : e = 0 ∧ m = 0
  · obtain ⟨rfl, rfl⟩ := hz
    have hw : wholeN s 0 0 = some 0 := rfl
    rw [hw]
    clear hw hs he hm
    go_enter Tryz.func56, Tryz.ntmps56
    go_wp2_with (go_at_call 73; refine (HP.out _).mono ?_; rintro e' w' ⟨rfl, rfl⟩)
    go_ret2
    exact ⟨rfl, rfl⟩
  by_cases hn : e < 1023 ∨ 1076 < e ∨ (e = 1076 ∧ 0 < m)
  · exact rWhole_none s e m hz hn u HP w
  by_cases h1 : e ≤ 1075
  · exact rWhole_mid s e m hs (by omega) h1 hm u HP w
  · obtain ⟨rfl, rfl⟩ : e = 1076 ∧ m = 0 := by omega
    exact rWhole_top s hs u HP w
end Go.Proofs.YtcnnpedmccjdkaaGreatDoor
