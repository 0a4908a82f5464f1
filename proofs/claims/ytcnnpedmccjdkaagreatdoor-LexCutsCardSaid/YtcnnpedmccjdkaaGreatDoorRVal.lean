/- The reference's values: Right, right, digits, Print. -/
import Derived.Test.YtcnnpedmccjdkaaGreatDoorRPrint
import Derived.Test.YtcnnpedmccjdkaaGreatDoorValD
set_option linter.unusedSimpArgs false
set_option linter.unusedVariables false
namespace Go.Proofs.YtcnnpedmccjdkaaGreatDoor
open Go.RowKit
theorem quiet_add_left {P : Program} {f : FuncId} {args : Array Value} {w : World} {a n : Nat} {v : Value}
    (h : Calls P f args (w.drewN (a + n)) fun e w' => e = .returned v ∧ w.drewN (a + n) = w') :
    Calls P f args (w.drewN (a + n)) fun e w'' => e = .returned v ∧ ∃ m, w'' = w.drewN (a + m) :=
  h.mono fun _ _ ⟨he, hm⟩ => ⟨he, n, hm.symm⟩
set_option maxRecDepth 100000 in
set_option maxHeartbeats 1000000 in
theorem rRight_any (k n : Int) (s : ByteArray) (f : Nat) (hf : f < 18446744073709551616) (w : World) :
    Calls Tryz.prog 45 #[.agg #[.int .i64 k, .int .i64 n, .string s, .int .u64 f]] w fun e w' => e = .returned (.bool (vright ⟨k, n, L s, f⟩)) ∧ Ext w w' := by
  have HC := Lib.hid (rCanon_any f hf)
  by_cases k0 : k = 0
  · subst k0
    have HV : Hid (vright ⟨0, n, L s, f⟩ = (decide (n = 0) && decide (s.toList = []) && decide ((f : Int) = 0))) := by
      show _ = _
      rw [toList_L]; unfold vright vzero; simp [Bool.and_assoc]
    go_enter Tryz.func45, Tryz.ntmps45
    go_wp2_with fail
    go_quiet (fail)
    go_wp2_with fail
    all_goals (go_ret; refine ⟨ret_bool ?_, ((Ext.refl _).alloc _).drewN' _⟩; rw [HV.out]; first | rfl | (simp [*] <;> done) | (rw [Bool.eq_iff_iff]; simp [*] <;> omega))
  by_cases k1 : k = 1
  · subst k1
    have HV : Hid (vright ⟨1, n, L s, f⟩ = (decide (s.toList = []) && decide ((f : Int) = 0))) := by
      show _ = _
      rw [toList_L]; unfold vright; simp
    go_enter Tryz.func45, Tryz.ntmps45
    go_wp2_with fail
    go_quiet (fail)
    go_wp2_with fail
    all_goals (go_ret; refine ⟨ret_bool ?_, ((Ext.refl _).alloc _).drewN' _⟩; rw [HV.out]; first | rfl | (simp [*] <;> done) | (rw [Bool.eq_iff_iff]; simp [*] <;> omega))
  by_cases k2 : k = 2
  · subst k2
    have HV : Hid (vright ⟨2, n, L s, f⟩ = (decide (s.toList = []) && decide ((f : Int) = 0) && (decide (n = 0) || decide (n = 1)))) := by
      show _ = _
      rw [toList_L]; unfold vright; simp
    go_enter Tryz.func45, Tryz.ntmps45
    go_wp2_with fail
    go_quiet (fail)
    go_wp2_with fail
    all_goals (go_ret; refine ⟨ret_bool ?_, ((Ext.refl _).alloc _).drewN' _⟩; rw [HV.out]; first | rfl | (simp [*] <;> done) | (rw [Bool.eq_iff_iff]; simp [*] <;> omega))
  by_cases k3 : k = 3
  · subst k3
    have HV : Hid (vright ⟨3, n, L s, f⟩ = (decide (n = 0) && decide ((f : Int) = 0) && decide ((s.size : Int) ≤ 64))) := by
      show _ = _
      unfold vright; rw [Bool.eq_iff_iff]; simp [size_L]; omega
    go_enter Tryz.func45, Tryz.ntmps45
    go_wp2_with fail
    go_quiet (fail)
    go_wp2_with fail
    all_goals (go_ret; refine ⟨ret_bool ?_, ((Ext.refl _).alloc _).drewN' _⟩; rw [HV.out]; first | rfl | (simp [*] <;> done) | (rw [Bool.eq_iff_iff]; simp [*] <;> omega))
  by_cases k4 : k = 4
  · subst k4
    have HV : Hid (vright ⟨4, n, L s, f⟩ = (decide (n = 0) && decide (s.toList = []) && (((fcanon f : Nat) : Int) == (f : Int)))) := by
      show _ = _
      rw [toList_L]; unfold vright
      rw [Bool.eq_iff_iff]; simp
      try omega
    clear hf
    generalize fcanon f = c at *
    by_cases hn : n = 0
    · have d1 : (n != 0) = false := by simp [hn]
      by_cases hs : s.toList = []
      · have d2 : (!s.toList.isEmpty) = false := by simp [hs]
        go_enter Tryz.func45, Tryz.ntmps45
        go_wp2_with fail
        go_quiet (fail)
        go_wp2_with fail
        go_quiet ((go_at_call 55; exact quiet_add_left (HC.out _)))
        go_wp2_with fail
        all_goals (go_ret; refine ⟨ret_bool ?_, (((Ext.refl _).alloc _).drewN' _).drewN' _⟩; rw [HV.out]; first | rfl | (simp [*] <;> done) | (rw [Bool.eq_iff_iff]; simp [*] <;> omega))
      · have d2 : (!s.toList.isEmpty) = true := by simp [hs]
        go_enter Tryz.func45, Tryz.ntmps45
        go_wp2_with fail
        go_quiet (fail)
        go_wp2_with fail
        go_quiet ((go_at_call 55; exact quiet_add_left (HC.out _)))
        go_wp2_with fail
        all_goals (go_ret; refine ⟨ret_bool ?_, (((Ext.refl _).alloc _).drewN' _).drewN' _⟩; rw [HV.out]; first | rfl | (simp [*] <;> done) | (rw [Bool.eq_iff_iff]; simp [*] <;> omega))
    · have d1 : (n != 0) = true := by simp [hn]
      go_enter Tryz.func45, Tryz.ntmps45
      go_wp2_with fail
      go_quiet (fail)
      go_wp2_with fail
      go_quiet ((go_at_call 55; exact quiet_add_left (HC.out _)))
      go_wp2_with fail
      all_goals (go_ret; refine ⟨ret_bool ?_, (((Ext.refl _).alloc _).drewN' _).drewN' _⟩; rw [HV.out]; first | rfl | (simp [*] <;> done) | (rw [Bool.eq_iff_iff]; simp [*] <;> omega))
  have d0 : (k == 0) = false := by simp [k0]
  have d1 : (k == 1) = false := by simp [k1]
  have d2 : (k == 2) = false := by simp [k2]
  have d3 : (k == 3) = false := by simp [k3]
  have d4 : (k == 4) = false := by simp [k4]
  have HV : Hid (vright ⟨k, n, L s, f⟩ = false) := by
    show _ = _
    unfold vright
    rw [if_neg k1, if_neg k2, if_neg k3, if_neg k4]
    unfold vzero; simp [k0]
  clear k0 k1 k2 k3 k4
  go_enter Tryz.func45, Tryz.ntmps45
  go_wp2_with fail
  go_quiet (fail)
  go_wp2_with fail
  go_ret
  exact ⟨ret_bool HV.out.symm, ((Ext.refl _).alloc _).drewN' _⟩
set_option maxRecDepth 100000 in
set_option maxHeartbeats 1000000 in
theorem rright_any (k n : Int) (s : ByteArray) (f : Nat) (hf : f < 18446744073709551616) (w : World) :
    Calls Tryz.prog 35 #[.agg #[.int .i64 k, .int .i64 n, .string s, .int .u64 f]] w fun e w' => e = .returned (encV (vnorm ⟨k, n, L s, f⟩)) ∧ Ext w w' := by
  have HR := Lib.hid (rRight_any k n s f hf)
  unfold vnorm
  cases hb : vright ⟨k, n, L s, f⟩
  all_goals have HB := Lib.hid hb
  all_goals clear hb
  · go_enter Tryz.func35, Tryz.ntmps35
    go_wp2_with (go_at_call 45; refine (HR.out _).mono ?_; rintro e w1 ⟨rfl, he⟩; rw [HB.out]; obtain ⟨hc, hf⟩ := he.cells; have hsz := he.le)
    refine bodyPost_ret (v := .agg #[.int .i64 0, .int .i64 0, .string ⟨#[]⟩, .int .u64 0]) (by simp [results, Tryz.results35, go_sem, *]) rfl ⟨?_, ?_⟩
    · rfl
    · (repeat (first | exact Ext.refl _ | assumption | (refine Ext.setCell ?_ (by simp; try omega) _) | apply Ext.alloc | apply Ext.drew | apply Ext.drewN' | (refine Ext.trans ?_ (by assumption))))
  · go_enter Tryz.func35, Tryz.ntmps35
    go_wp2_with (go_at_call 45; refine (HR.out _).mono ?_; rintro e w1 ⟨rfl, he⟩; rw [HB.out]; obtain ⟨hc, hf⟩ := he.cells; have hsz := he.le)
    refine bodyPost_ret (v := .agg #[.int .i64 k, .int .i64 n, .string s, .int .u64 f]) (by simp [results, Tryz.results35, go_sem, *]) rfl ⟨?_, ?_⟩
    · rfl
    · (repeat (first | exact Ext.refl _ | assumption | (refine Ext.setCell ?_ (by simp; try omega) _) | apply Ext.alloc | apply Ext.drew | apply Ext.drewN' | (refine Ext.trans ?_ (by assumption))))
set_option maxRecDepth 100000 in
set_option maxHeartbeats 1000000 in
theorem rdigits_any (k : Nat) : ∀ x : Int, x.natAbs ≤ k → -9223372036854775808 ≤ x → x ≤ 9223372036854775807 → ∀ w : World,
    Calls Tryz.prog 36 #[.int .i64 x] w fun e w' => e = .returned (.string (bs (Lib.itoa x))) ∧ Ext w w' := by
  induction k using Nat.strongRecOn with
  | _ k ih =>
    intro x hk h0 h1 w
    by_cases hp : 0 ≤ x
    · have HT := Lib.hid (rDigits_int x (by omega) h1)
      clear ih hk
      go_enter Tryz.func36, Tryz.ntmps36
      go_wp2_with (go_at_call 54; refine (HT.out _).mono ?_; rintro e w1 ⟨rfl, he1⟩)
      go_ret
      exact ⟨rfl, he1⟩
    · have HD : Hid (Lib.itoa x = 45 :: Lib.decDigits (-x).toNat) := by
        show _ = _; unfold Lib.itoa; rw [if_pos (by omega), show x.natAbs = (-x).toNat by omega]
      by_cases hq : -10 < x
      · have HT := Lib.hid (rDigits_nn (-x).toNat (-x) (by omega) (by omega) (by omega))
        have l1 := dec_len (-x).toNat (by omega)
        clear ih hk
        go_enter Tryz.func36, Tryz.ntmps36
        go_wp2_with (go_at_call 54; refine (HT.out _).mono ?_; rintro e w1 ⟨rfl, he1⟩)
        go_ret
        exact ⟨ret_str (by rw [HD.out]; exact bs_append [45] _), he1⟩
      · have e1 : x.tdiv 10 = -((-x) / 10) := by
          rw [← Int.neg_neg x, Int.neg_tdiv, Int.tdiv_eq_ediv_of_nonneg (by omega)]; simp
        have e2 : x.tmod 10 = -((-x) % 10) := by
          rw [← Int.neg_neg x, Int.neg_tmod, Int.tmod_eq_emod_of_nonneg (by omega)]; simp
        have HT := Lib.hid (ih (-((-x) / 10)).natAbs (by omega) (-((-x) / 10)) (by omega) (by omega) (by omega))
        have HM := Lib.hid (rDigits_nn ((-x) % 10).toNat ((-x) % 10) (by omega) (by omega) (by omega))
        have l1 := dec_len ((-x) % 10).toNat (by omega)
        have l2 : (bs (Lib.itoa (-((-x) / 10)))).size ≤ 21 := Lib.itoa_length_le _ (by omega) (by omega)
        have HF : Hid (Lib.itoa x = Lib.itoa (-((-x) / 10)) ++ Lib.decDigits ((-x) % 10).toNat) := by
          show _ = _
          rw [HD.out]
          unfold Lib.itoa
          rw [if_pos (by omega), dec_big (by omega), dec_small (show ((-x) % 10).toNat < 10 by omega), show (-((-x) / 10)).natAbs = (-x).toNat / 10 by omega, show ((-x) % 10).toNat = (-x).toNat % 10 by omega]
          rfl
        have b1 : 0 ≤ (-x) / 10 := by omega
        have b2 : (-x) / 10 ≤ 922337203685477580 := by omega
        have b3 : 0 ≤ (-x) % 10 := by omega
        have b4 : (-x) % 10 < 10 := by omega
        clear ih hk
        generalize (-x) / 10 = y at *
        generalize (-x) % 10 = z at *
        go_enter Tryz.func36, Tryz.ntmps36
        go_wp2_with (first
          | (go_at_call 36; refine (HT.out _).mono ?_; rintro e w1 ⟨rfl, he1⟩)
          | (go_at_call 54; refine (HM.out _).mono ?_; rintro e w2 ⟨rfl, he2⟩))
        go_ret
        exact ⟨ret_str (by rw [HF.out, bs_append]), he1.trans he2⟩
theorem rdigits_int (x : Int) (h0 : -9223372036854775808 ≤ x) (h1 : x ≤ 9223372036854775807) (w : World) :
    Calls Tryz.prog 36 #[.int .i64 x] w fun e w' => e = .returned (.string (bs (Lib.itoa x))) ∧ Ext w w' := rdigits_any x.natAbs x (Nat.le_refl _) h0 h1 w
end Go.Proofs.YtcnnpedmccjdkaaGreatDoor
