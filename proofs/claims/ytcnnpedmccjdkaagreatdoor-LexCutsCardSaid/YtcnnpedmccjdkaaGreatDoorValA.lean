/- value: Right, right. -/
import Derived.Test.YtcnnpedmccjdkaaGreatDoorFloatP
import Derived.Test.YtcnnpedmccjdkaaGreatDoorEq
import Derived.Deep.RegionWith
set_option linter.unusedSimpArgs false
set_option linter.unusedVariables false
namespace Go.Proofs.YtcnnpedmccjdkaaGreatDoor
open Go.RowKit
theorem and_1 (n : Int) (h0 : -9223372036854775808 ≤ n) (h1 : n ≤ 9223372036854775807) : bits .and .i64 n 1 = n % 2 := by
  have hk : (BitVec.ofInt 64 1).toNat = 2 ^ 1 - 1 := by decide
  have key : (BitVec.ofInt 64 n &&& BitVec.ofInt 64 1).toNat = (n % ((2 ^ 64 : Nat) : Int)).toNat % 2 ^ 1 := by
    rw [BitVec.toNat_and, BitVec.toNat_ofInt, hk, Nat.and_two_pow_sub_one_eq_mod]
  show IntKind.i64.wrap ((BitVec.ofInt 64 n &&& BitVec.ofInt 64 1).toNat : Nat) = n % 2
  rw [key, IntKind.wrap_i64]
  omega
set_option maxRecDepth 100000 in
set_option maxHeartbeats 1000000 in
theorem Right_any (k n : Int) (s : ByteArray) (f : Nat) (h0 : -9223372036854775808 ≤ n) (h1 : n ≤ 9223372036854775807) (w : World) :
    Calls Tryz.prog 66 #[.agg #[.int .i64 k, .int .i64 n, .string s, .int .u64 f]] w fun e w' => e = .returned (.bool (vright ⟨k, n, L s, f⟩)) ∧ Ext w w' := by
  have hq := eql_val
  by_cases k1 : k = 1
  · subst k1
    have HF : Hid (eqVal 1 1 n n s (bs []) f 0 = vright ⟨1, n, L s, f⟩) := by
      show _ = _
      rw [show (0 : Int) = ((0 : Nat) : Int) from rfl, eqVal_iff]; unfold vright; simp [L_bs]
    go_enter Tryz.func66, Tryz.ntmps66
    go_wp2_with fail
    go_ret
    exact ⟨ret_bool HF.out, (Ext.refl _).alloc _⟩
  by_cases k2 : k = 2
  · subst k2
    have ha := and_1 n h0 h1
    have HF : Hid (eqVal 2 2 n (n % 2) s (bs []) f 0 = vright ⟨2, n, L s, f⟩) := by
      show _ = _
      rw [show (0 : Int) = ((0 : Nat) : Int) from rfl, eqVal_iff]; unfold vright; simp [L_bs]
      rw [Bool.eq_iff_iff]; simp
      constructor
      · rintro ⟨a, b, c⟩; exact ⟨⟨b, c⟩, by omega⟩
      · rintro ⟨⟨b, c⟩, a⟩; exact ⟨by omega, b, c⟩
    go_enter Tryz.func66, Tryz.ntmps66
    go_wp2_with fail
    go_ret
    exact ⟨ret_bool HF.out, (Ext.refl _).alloc _⟩
  by_cases k3 : k = 3
  · subst k3
    have hs := size_L s
    by_cases hb : eqVal 3 3 n 0 s s f 0 = true
    · have HF : Hid (decide (s.size ≤ 64) = vright ⟨3, n, L s, f⟩) := by
        show _ = _
        rw [show (0 : Int) = ((0 : Nat) : Int) from rfl, eqVal_iff] at hb
        simp at hb
        obtain ⟨rfl, rfl⟩ := hb
        unfold vright; simp [hs]
      clear hs
      go_enter Tryz.func66, Tryz.ntmps66
      go_wp2_with fail
      all_goals (go_ret; refine ⟨ret_bool ?_, (Ext.refl _).alloc _⟩; rw [← HF.out]; rw [Bool.eq_iff_iff]; simp <;> omega)
    · have HF : Hid (false = vright ⟨3, n, L s, f⟩) := by
        show _ = _
        rw [show (0 : Int) = ((0 : Nat) : Int) from rfl, eqVal_iff] at hb
        simp at hb
        unfold vright; simp
        intro a b; exact absurd b (hb a)
      have hb' : eqVal 3 3 n 0 s s f 0 = false := by simpa using hb
      clear hs hb
      go_enter Tryz.func66, Tryz.ntmps66
      go_wp2_with fail
      all_goals (go_ret; refine ⟨ret_bool ?_, (Ext.refl _).alloc _⟩; rw [← HF.out])
  by_cases k4 : k = 4
  · subst k4
    have HF : Hid (eqVal 4 4 n 0 s (bs []) f (fcanon f) = vright ⟨4, n, L s, f⟩) := by
      show _ = _
      rw [show (0 : Int) = ((0 : Nat) : Int) from rfl, eqVal_iff]; unfold vright; simp [L_bs]
      rw [Bool.eq_iff_iff]; simp
      constructor
      · rintro ⟨a, b, c⟩; exact ⟨⟨a, b⟩, c.symm⟩
      · rintro ⟨⟨a, b⟩, c⟩; exact ⟨a, b, c.symm⟩
    go_enter Tryz.func66, Tryz.ntmps66
    go_wp2_with fail
    go_quiet ((go_at_call 84; exact quietS (Canon_any _ _)))
    go_wp2_with fail
    go_ret
    exact ⟨ret_bool HF.out, ((Ext.refl _).alloc _).drewN' _⟩
  have d1 : (k == 1) = false := by simp [k1]
  have d2 : (k == 2) = false := by simp [k2]
  have d3 : (k == 3) = false := by simp [k3]
  have d4 : (k == 4) = false := by simp [k4]
  have HF : Hid (eqVal k 0 n 0 s (bs []) f 0 = vright ⟨k, n, L s, f⟩) := by
    show _ = _
    rw [show (0 : Int) = ((0 : Nat) : Int) from rfl, eqVal_iff]; unfold vright
    rw [if_neg k1, if_neg k2, if_neg k3, if_neg k4]; rfl
  clear k1 k2 k3 k4
  go_enter Tryz.func66, Tryz.ntmps66
  go_wp2_with fail
  go_ret
  exact ⟨ret_bool HF.out, (Ext.refl _).alloc _⟩
set_option maxRecDepth 100000 in
set_option maxHeartbeats 1000000 in
theorem right_any (k n : Int) (s : ByteArray) (f : Nat) (h0 : -9223372036854775808 ≤ n) (h1 : n ≤ 9223372036854775807) (w : World) :
    Calls Tryz.prog 79 #[.agg #[.int .i64 k, .int .i64 n, .string s, .int .u64 f]] w fun e w' => e = .returned (encV (vnorm ⟨k, n, L s, f⟩)) ∧ Ext w w' := by
  have HR := Lib.hid (Right_any k n s f h0 h1)
  unfold vnorm
  cases hb : vright ⟨k, n, L s, f⟩
  all_goals have HB := Lib.hid hb
  all_goals clear hb
  · go_enter Tryz.func79, Tryz.ntmps79
    go_wp2_with (go_at_call 66; refine (HR.out _).mono ?_; rintro e w1 ⟨rfl, he⟩; rw [HB.out]; obtain ⟨hc, hf⟩ := he.cells; have hsz := he.le)
    refine bodyPost_ret (v := .agg #[.int .i64 0, .int .i64 0, .string ⟨#[]⟩, .int .u64 0]) (by simp [results, Tryz.results79, go_sem, *]) rfl ⟨?_, ?_⟩
    · rfl
    · (repeat (first | exact Ext.refl _ | assumption | (refine Ext.setCell ?_ (by simp; try omega) _) | apply Ext.alloc | apply Ext.drew | apply Ext.drewN' | (refine Ext.trans ?_ (by assumption))))
  · go_enter Tryz.func79, Tryz.ntmps79
    go_wp2_with (go_at_call 66; refine (HR.out _).mono ?_; rintro e w1 ⟨rfl, he⟩; rw [HB.out]; obtain ⟨hc, hf⟩ := he.cells; have hsz := he.le)
    refine bodyPost_ret (v := .agg #[.int .i64 k, .int .i64 n, .string s, .int .u64 f]) (by simp [results, Tryz.results79, go_sem, *]) rfl ⟨?_, ?_⟩
    · rfl
    · (repeat (first | exact Ext.refl _ | assumption | (refine Ext.setCell ?_ (by simp; try omega) _) | apply Ext.alloc | apply Ext.drew | apply Ext.drewN' | (refine Ext.trans ?_ (by assumption))))
end Go.Proofs.YtcnnpedmccjdkaaGreatDoor
