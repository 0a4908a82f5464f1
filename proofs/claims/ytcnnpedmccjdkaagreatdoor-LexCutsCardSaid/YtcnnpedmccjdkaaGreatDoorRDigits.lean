/- The reference's floats: Digits, Print. -/
import Derived.Test.YtcnnpedmccjdkaaGreatDoorRFloat
import Derived.Test.YtcnnpedmccjdkaaGreatDoorText3
set_option linter.unusedSimpArgs false
set_option linter.unusedVariables false
namespace Go.Proofs.YtcnnpedmccjdkaaGreatDoor
open Go.RowKit
theorem conv1 (w : World) (c : UInt8) (x : Int) (hx : x = (c.toNat : Int)) : (convert 78 9 (.slice (some ⟨w.heap.size, 0, none⟩) 1 1)).run Tryz.prog (w.alloc (.cells #[.int .u8 x] 5)) = .ok (.string (bs [c])) (w.alloc (.cells #[.int .u8 x] 5)) := by
  subst hx
  exact run_convert_bytes_back (P := Tryz.prog) (w.alloc (.cells #[.int .u8 (c.toNat : Int)] 5)) 78 9 5 ⟨w.heap.size, 0, none⟩ 1 [c] Tryz.underlying78 Tryz.underlying5 Tryz.underlying9 (fun t ht => by
    obtain rfl : t = 0 := by simpa using ht
    simp [Lib.add_plain])
theorem dec_len (n : Nat) (h : n < 18446744073709551616) : (bs (Lib.decDigits n)).size ≤ 20 := by
  rw [size_bs, Lib.decDigits_length]; exact Lib.nDigits_le20 n h
set_option maxRecDepth 100000 in
set_option maxHeartbeats 1000000 in
theorem rDigits_nn (k : Nat) : ∀ x : Int, x.toNat ≤ k → 0 ≤ x → x ≤ 9223372036854775807 → ∀ w : World,
    Calls Tryz.prog 54 #[.int .i64 x] w fun e w' => e = .returned (.string (bs (Lib.decDigits x.toNat))) ∧ Ext w w' := by
  induction k using Nat.strongRecOn with
  | _ k ih =>
    intro x hk h0 h1 w
    by_cases h : x < 10
    · rw [dec_small (by omega)]
      obtain ⟨c, hcx⟩ : ∃ c, UInt8.ofNat (48 + x.toNat) = c := ⟨_, rfl⟩
      have hc := fun w => conv1 w c (48 + x) (by rw [← hcx, ofNat_toNat (by omega)]; omega)
      rw [hcx]
      clear ih hk hcx
      go_enter Tryz.func54, Tryz.ntmps54
      go_wp2_with fail
      go_ret
      exact ⟨rfl, (Ext.refl _).alloc _⟩
    · have H1 := Lib.hid (ih (x / 10).toNat (by omega) (x / 10) (by omega) (by omega) (by omega))
      have H2 := Lib.hid (ih (x % 10).toNat (by omega) (x % 10) (by omega) (by omega) (by omega))
      have l1 := dec_len (x / 10).toNat (by omega)
      have l2 := dec_len (x % 10).toNat (by omega)
      have HD : Hid (Lib.decDigits x.toNat = Lib.decDigits (x / 10).toNat ++ Lib.decDigits (x % 10).toNat) := by
        show _ = _
        rw [dec_big (by omega), dec_small (show (x % 10).toNat < 10 by omega), show x.toNat / 10 = (x / 10).toNat by omega, show x.toNat % 10 = (x % 10).toNat by omega]
      clear ih hk
      go_enter Tryz.func54, Tryz.ntmps54
      go_wp2_with (first
        | (go_at_call 54; (with_reducible refine (H1.out _).mono ?_); rintro e w1 ⟨rfl, he1⟩)
        | (go_at_call 54; (with_reducible refine (H2.out _).mono ?_); rintro e w2 ⟨rfl, he2⟩))
      go_ret
      exact ⟨ret_str (by rw [HD.out, bs_append]), he1.trans he2⟩
set_option maxRecDepth 100000 in
set_option maxHeartbeats 1000000 in
theorem rDigits_int (x : Int) (h0 : -9223372036854775807 ≤ x) (h1 : x ≤ 9223372036854775807) (w : World) :
    Calls Tryz.prog 54 #[.int .i64 x] w fun e w' => e = .returned (.string (bs (Lib.itoa x))) ∧ Ext w w' := by
  by_cases hn : x < 0
  · have H1 := Lib.hid (rDigits_nn (-x).toNat (-x) (by omega) (by omega) (by omega))
    have l1 := dec_len (-x).toNat (by omega)
    have HD : Hid (Lib.itoa x = 45 :: Lib.decDigits (-x).toNat) := by
      show _ = _; unfold Lib.itoa; rw [if_pos hn, show x.natAbs = (-x).toNat by omega]
    go_enter Tryz.func54, Tryz.ntmps54
    go_wp2_with (go_at_call 54; refine (H1.out _).mono ?_; rintro e w1 ⟨rfl, he1⟩)
    go_ret
    exact ⟨ret_str (by rw [HD.out]; exact bs_append [45] _), he1⟩
  · have HD : Lib.itoa x = Lib.decDigits x.toNat := by unfold Lib.itoa; rw [if_neg hn]
    rw [HD]
    exact rDigits_nn x.toNat x (by omega) (by omega) h1 w
theorem isNaN_canon (u : Nat) : isNaN (fcanon u) = decide (fcanon u = fnan) := by
  unfold fcanon
  split
  · decide +kernel
  · rename_i h
    have h' : isNaN u = false := by simpa using h
    rw [h']
    symm
    refine decide_eq_false fun e => ?_
    rw [e] at h'
    exact absurd h' (by decide +kernel)
theorem hexSl (d : Nat) (h : d < 16) : (ByteArray.mk #[48, 49, 50, 51, 52, 53, 54, 55, 56, 57, 97, 98, 99, 100, 101, 102]).extract d (d + 1) = bs [hexd d] := by
  have : ∀ d : Fin 16, (ByteArray.mk #[48, 49, 50, 51, 52, 53, 54, 55, 56, 57, 97, 98, 99, 100, 101, 102]).extract d.val (d.val + 1) = bs [hexd d.val] := by decide +kernel
  exact this ⟨d, h⟩
end Go.Proofs.YtcnnpedmccjdkaaGreatDoor
