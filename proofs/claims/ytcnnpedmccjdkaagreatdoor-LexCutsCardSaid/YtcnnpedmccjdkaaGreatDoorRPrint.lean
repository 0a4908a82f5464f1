/- The reference's floats: Print. -/
import Derived.Test.YtcnnpedmccjdkaaGreatDoorRDigits
set_option linter.unusedSimpArgs false
set_option linter.unusedVariables false
namespace Go.Proofs.YtcnnpedmccjdkaaGreatDoor
open Go.RowKit
theorem fprint_of (u : Nat) : fprint u = (if fcanon u = fnan then [110, 97, 110]
  else if fcanon u = finf then [105, 110, 102]
  else if fcanon u = fninf then [45, 105, 110, 102]
  else if fcanon u = fnegz then [45, 48, 46]
  else match fwhole (fcanon u) with
    | some n => Lib.itoa n ++ [46]
    | none => 48 :: 120 :: hexN 16 (fcanon u)) := rfl
theorem hexN_more (j v : Nat) (hj : j < 16) : hexN (j + 1) (v / 16 ^ (15 - j)) = hexN j (v / 16 ^ (16 - j)) ++ [hexd (v / 16 ^ (15 - j) % 16)] := by
  show hexN j (v / 16 ^ (15 - j) / 16) ++ _ = _
  rw [Nat.div_div_eq_div_mul, ← Nat.pow_succ, show (15 - j).succ = 16 - j by omega]
theorem pow16 (j : Nat) : 16 ^ j = 2 ^ (4 * j) := by rw [Nat.pow_mul]
set_option maxRecDepth 100000 in
set_option maxHeartbeats 1000000 in
theorem rfPrint_any (u : Nat) (hu : u < 18446744073709551616) (w : World) :
    Calls Tryz.prog 37 #[.int .u64 (u : Int)] w fun e w' => e = .returned (.string (bs (fprint u))) ∧ Ext w w' := by
  have hv := fcanon_lt hu
  have HC := Lib.hid (rCanon_any u hu)
  have hn := isNaN_canon u
  rw [fprint_of]
  generalize fcanon u = v at *
  clear hu
  have HN := Lib.hid (rIsNan_any v hv)
  have HI := Lib.hid (rWhole_any v hv)
  rw [hn] at HN
  clear hn
  by_cases c1 : v = fnan
  · rw [if_pos c1]
    rw [decide_eq_true c1] at HN
    clear c1
    go_enter Tryz.func37, Tryz.ntmps37
    go_wp2_with (first
      | (go_at_call 55; refine (HC.out _).mono ?_; rintro e w' ⟨rfl, rfl⟩)
      | (go_at_call 57; refine (HN.out _).mono ?_; rintro e w' ⟨rfl, rfl⟩)
      | (go_at_call 56; refine (HI.out _).mono ?_; rintro e w' ⟨rfl, rfl⟩))
    go_ret
    exact ⟨rfl, Ext.refl _⟩
  rw [if_neg c1]
  rw [decide_eq_false c1] at HN
  clear c1
  by_cases c2 : v = finf
  · rw [if_pos c2]
    have d2 : ((v : Int) == 9218868437227405312) = true := by rw [c2]; rfl
    clear c2
    go_enter Tryz.func37, Tryz.ntmps37
    go_wp2_with (first
      | (go_at_call 55; refine (HC.out _).mono ?_; rintro e w' ⟨rfl, rfl⟩)
      | (go_at_call 57; refine (HN.out _).mono ?_; rintro e w' ⟨rfl, rfl⟩)
      | (go_at_call 56; refine (HI.out _).mono ?_; rintro e w' ⟨rfl, rfl⟩))
    go_ret
    exact ⟨rfl, Ext.refl _⟩
  rw [if_neg c2]
  have d2 : ((v : Int) == 9218868437227405312) = false := by simp; intro h; exact c2 (by unfold finf; omega)
  by_cases c3 : v = fninf
  · rw [if_pos c3]
    have d3 : ((v : Int) == 18442240474082181120) = true := by rw [c3]; rfl
    clear c2 c3
    go_enter Tryz.func37, Tryz.ntmps37
    go_wp2_with (first
      | (go_at_call 55; refine (HC.out _).mono ?_; rintro e w' ⟨rfl, rfl⟩)
      | (go_at_call 57; refine (HN.out _).mono ?_; rintro e w' ⟨rfl, rfl⟩)
      | (go_at_call 56; refine (HI.out _).mono ?_; rintro e w' ⟨rfl, rfl⟩))
    go_ret
    exact ⟨rfl, Ext.refl _⟩
  rw [if_neg c3]
  have d3 : ((v : Int) == 18442240474082181120) = false := by simp; intro h; exact c3 (by unfold fninf; omega)
  by_cases c4 : v = fnegz
  · rw [if_pos c4]
    have d4 : ((v : Int) == 9223372036854775808) = true := by rw [c4]; rfl
    clear c2 c3 c4
    go_enter Tryz.func37, Tryz.ntmps37
    go_wp2_with (first
      | (go_at_call 55; refine (HC.out _).mono ?_; rintro e w' ⟨rfl, rfl⟩)
      | (go_at_call 57; refine (HN.out _).mono ?_; rintro e w' ⟨rfl, rfl⟩)
      | (go_at_call 56; refine (HI.out _).mono ?_; rintro e w' ⟨rfl, rfl⟩))
    go_ret
    exact ⟨rfl, Ext.refl _⟩
  rw [if_neg c4]
  have d4 : ((v : Int) == 9223372036854775808) = false := by simp; intro h; exact c4 (by unfold fnegz; omega)
  cases hw : fwhole v with
  | some n =>
    obtain ⟨n0, n1⟩ := fwhole_bound hv hw
    rw [hw] at HI
    have hlen := Lib.itoa_length_le n (by omega) (by omega)
    have hsz : (bs (Lib.itoa n)).size ≤ 21 := hlen
    have HT := Lib.hid (rDigits_int n (by omega) (by omega))
    clear c2 c3 c4 hw hlen
    go_enter Tryz.func37, Tryz.ntmps37
    go_wp2_with (first
      | (go_at_call 55; refine (HC.out _).mono ?_; rintro e w' ⟨rfl, rfl⟩)
      | (go_at_call 57; refine (HN.out _).mono ?_; rintro e w' ⟨rfl, rfl⟩)
      | (go_at_call 56; refine (HI.out _).mono ?_; rintro e w' ⟨rfl, rfl⟩)
      | (go_at_call 54; refine (HT.out _).mono ?_; rintro e w1 ⟨rfl, he1⟩))
    go_ret
    exact ⟨ret_str (bs_append _ _), he1⟩
  | none =>
    rw [hw] at HI
    clear c2 c3 c4 hw
    go_enter Tryz.func37, Tryz.ntmps37
    go_wp2_with (first
      | (go_at_call 55; refine (HC.out _).mono ?_; rintro e w' ⟨rfl, rfl⟩)
      | (go_at_call 57; refine (HN.out _).mono ?_; rintro e w' ⟨rfl, rfl⟩)
      | (go_at_call 56; refine (HI.out _).mono ?_; rintro e w' ⟨rfl, rfl⟩))
    go_loop [5, 6] (fun vs vk => ∃ (j : Nat) (k : Int), j ≤ 16 ∧ Hid (k = 60 - 4 * j) ∧ -4 ≤ k ∧ k ≤ 60 ∧ vk = .int .i64 k ∧ vs = .string (bs (48 :: 120 :: hexN j (v / 16 ^ (16 - j))))) (fun _ vk => (intOf vk + 4).toNat)
    case atStart => exact ⟨0, 60, by omega, rfl, by omega, by omega, rfl, rfl⟩
    case round =>
      obtain ⟨j, k, hj, hk, hk0, hk1, rfl, rfl⟩ := hrel
      by_cases hlt : 0 ≤ k
      · have hl : (bs (48 :: 120 :: hexN j (v / 16 ^ (16 - j)))).size ≤ 100 := by rw [size_bs, List.length_cons, List.length_cons, hexN_length]; omega
        obtain ⟨x, hx⟩ : ∃ x, v / 16 ^ (15 - j) = x := ⟨_, rfl⟩
        have hj15 : j < 16 := by have := hk.out; omega
        have hq : (v : Int) / 2 ^ k.toNat = (x : Int) := by
          have h1 : k.toNat = 4 * (15 - j) := by have := hk.out; omega
          rw [h1, ← hx, pow16, Int.natCast_ediv, Int.natCast_pow]; rfl
        have hs := hexSl (x % 16) (Nat.mod_lt _ (by omega))
        have HM : Hid (hexN (j + 1) (v / 16 ^ (16 - (j + 1))) = hexN j (v / 16 ^ (16 - j)) ++ [hexd (x % 16)]) := by
          show _ = _
          rw [show 16 - (j + 1) = 15 - j by omega, hexN_more j v hj15, hx]
        have hl1 : (bs [hexd (x % 16)]).size ≤ 1 := Nat.le_refl _
        clear hx
        go_wp2
        go_round
        case rel => exact ⟨j + 1, k - 4, by omega, by have := hk.out; show _ = _; omega, by omega, by omega, rfl, by rw [bs_append, HM.out]; simp⟩
        case measure => (try simp only [intOf]); (try simp); omega
      · have hj16 : j = 16 := by have := hk.out; omega
        subst hj16
        go_wp2
        go_ret
        exact ⟨ret_str (by simp), Ext.refl _⟩
end Go.Proofs.YtcnnpedmccjdkaaGreatDoor
