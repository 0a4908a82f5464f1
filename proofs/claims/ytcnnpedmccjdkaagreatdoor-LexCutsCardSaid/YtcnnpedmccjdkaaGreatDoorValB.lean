/- value: hex, unhex. -/
import Derived.Test.YtcnnpedmccjdkaaGreatDoorValA
import Derived.Test.YtcnnpedmccjdkaaGreatDoorOwn
import Derived.StillTailTactics
import Derived.Deep.RegionLaw
set_option linter.unusedSimpArgs false
set_option linter.unusedVariables false
namespace Go.Proofs.YtcnnpedmccjdkaaGreatDoor
open Go.RowKit
def u8s (l : B) : List Value := l.map fun c => Value.int .u8 (c.toNat : Int)
theorem u8s_append (a b : B) : u8s (a ++ b) = u8s a ++ u8s b := by simp [u8s]
theorem u8_shr4 (c : Nat) (h : c < 256) : (c : Int) / 16 = ((c / 16 : Nat) : Int) := by omega
theorem hexS_snoc (l : B) (c : UInt8) : hexS (l ++ [c]) = hexS l ++ [hexd (c.toNat / 16), hexd (c.toNat % 16)] := by
  induction l with
  | nil => rfl
  | cons x t ih => simp [hexS, ih]
theorem hexlit (n : Nat) (h : n < 16) : (ByteArray.mk #[48, 49, 50, 51, 52, 53, 54, 55, 56, 57, 97, 98, 99, 100, 101, 102])[n]'h = hexd n := (by decide : ∀ n : Fin 16, (ByteArray.mk #[48, 49, 50, 51, 52, 53, 54, 55, 56, 57, 97, 98, 99, 100, 101, 102])[n.val]'n.isLt = hexd n.val) ⟨n, h⟩
set_option maxRecDepth 100000 in
set_option maxHeartbeats 1000000 in
theorem hex_any (s : ByteArray) (hs : s.size ≤ 1000000) (w : World) :
    Calls Tryz.prog 82 #[.string s] w fun e w' => e = .returned (.string (bs (hexS (L s)))) ∧ Ext w w' := by
  go_enter Tryz.func82, Tryz.ntmps82
  go_wp2
  go_loopw [3, 4, 7] (fun vo _ vi wr => ∃ k : Nat, k ≤ s.size ∧ vi = .int .i64 k ∧ wr.ownsRow w.heap.size 5 1 vo (2 * k) (u8s (hexS ((L s).take k))) ∧ Ext w wr) (fun _ _ vi _ => s.size - (intOf vi).toNat)
  case atStart => exact ⟨0, by omega, rfl, own_nil, Ext.refl _⟩
  case round =>
    obtain ⟨k, hk, rfl, ho, he⟩ := hrel
    have HO := Lib.hid ho
    clear ho
    by_cases hlt : k < s.size
    · have hb1 : (0 : Int) ≤ (k : Int) := by omega
      have hb2 : (k : Int) < (s.size : Int) := by omega
      have hsnoc : hexS ((L s).take (k + 1)) = hexS ((L s).take k) ++ [hexd (s[k].toNat / 16), hexd (s[k].toNat % 16)] := by rw [take_L s k hlt, hexS_snoc]
      have HN := Lib.hid hsnoc
      have h256 : s[k].toNat < 256 := UInt8.toNat_lt _
      have ha := u8_and15 (x := (s[k].toNat : Int)) (by omega) (by omega)
      clear hsnoc
      have hc1 : (0 : Int) ≤ (s[k].toNat : Int) / 16 := by omega
      have hc2 : (s[k].toNat : Int) / 16 < 16 := by omega
      have hd1 : (0 : Int) ≤ (s[k].toNat : Int) % 16 := by omega
      have hd2 : (s[k].toNat : Int) % 16 < 16 := by omega
      go_wp2
      go_region_law (refine step_app_own (w0 := w) (W := wr.drew) (e := 5) (news := [Value.int .u8 _, Value.int .u8 _]) _ (by rfl) (by rfl) _ _ 78 (.int .u8 0) 1 1 (by rfl) (by kernel_rfl) (by kernel_rfl) (by decide) (by decide) (by decide) u3 (2 * k) 2 _ (by rfl) (by rfl) (by rfl) (by simp [Value.oneCell']) (own_ext HO (Ext.drew (Ext.refl _))) he.drew (by omega) ?_; rintro u4 w4 ho4 he4)
      all_goals
        go_wp2
        have HO4 := Lib.hid ho4
        clear ho4
        go_roundw
        case rel =>
          refine ⟨k + 1, by omega, by simp, ?_, he4⟩
          have hu : (s[k].toNat : Int) / 16 = ((s[k].toNat / 16 : Nat) : Int) := by omega
          have hv : (s[k].toNat : Int) % 16 = ((s[k].toNat % 16 : Nat) : Int) := by omega
          have h := HO4.out
          simp only [hexlit _ (show ((s[k].toNat : Int) / 16).toNat < 16 by omega), hexlit _ (show ((s[k].toNat : Int) % 16).toNat < 16 by omega)] at h
          rw [hu, hv, Int.toNat_natCast, Int.toNat_natCast] at h
          rw [HN.out, u8s_append]
          exact h
        case measure => (try simp only [intOf]); (try simp); omega
    · have hkk : k = s.size := by omega
      subst hkk
      have hcv := own_string (P := Tryz.prog) (src := 78) (dst := 9) (e := 5) (by kernel_rfl) (by kernel_rfl) (by kernel_rfl) HO
      go_wp2
      go_ret
      exact ⟨ret_str (by rw [List.take_of_length_le (by rw [size_L]; omega)]), he⟩
end Go.Proofs.YtcnnpedmccjdkaaGreatDoor
