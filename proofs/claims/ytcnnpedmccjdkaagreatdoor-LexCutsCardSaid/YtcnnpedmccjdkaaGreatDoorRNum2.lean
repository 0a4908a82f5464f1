/- The reference's whole numbers read: texts that are none. -/
import Derived.Test.YtcnnpedmccjdkaaGreatDoorRNum

set_option linter.unusedSimpArgs false
set_option linter.unusedVariables false
namespace Go.Proofs.YtcnnpedmccjdkaaGreatDoor
open Go.RowKit
def NumNone (w : World) (e : Ending) (w' : World) : Prop := ∃ n : Int, e = .returned (.tuple #[.int .i64 n, .bool false]) ∧ Ext w w'
set_option maxRecDepth 100000 in
set_option maxHeartbeats 1000000 in
theorem rNum_none (s : ByteArray) (hs : s.size ≤ 9223372036854775807) (hx : intOf? (L s) = none) (w : World) :
    Calls Tryz.prog 53 #[.string s] w (NumNone w) := by
  have HNE : Hid (∀ y : Int, -9223372036854775808 ≤ y → y ≤ 9223372036854775807 → (((bs (Lib.itoa y)).toList == s.toList) = false)) := fun y h0 h1 => (cmp_ne_of (a := bs (Lib.itoa y)) (b := s) (by
    rw [L_bs]; intro e
    have := intOf_itoa h0 h1
    rw [e, hx] at this; cases this)).1
  clear hx
  by_cases h0 : L s = []
  · have e0 : s.toList = [] := by rw [toList_L]; exact h0
    have e1 : (!s.toList.isEmpty) = false := by simp [e0]
    have e2 : s.size = 0 := by rw [← size_L, h0]; rfl
    clear h0 HNE
    go_enter Tryz.func53, Tryz.ntmps53
    go_wp2
    go_ret2
    exact ⟨_, rfl, Ext.refl _⟩
  have hpos : 0 < s.size := by rw [← size_L]; exact List.length_pos_iff.2 h0
  have e0 : ¬ s.toList = [] := by rw [toList_L]; exact h0
  have e1 : (!s.toList.isEmpty) = true := by simp [e0]
  clear h0
  by_cases h45 : s[0] = 45
  · have q0 : ((s[0].toNat : Int) == 45) = true := by rw [h45]; rfl
    obtain ⟨E, hE⟩ : ∃ E, s.extract 1 s.size = E := ⟨_, rfl⟩
    have hEs : E.size < s.size := by rw [← hE, ByteArray.size_extract]; omega
    clear h45
    by_cases hE0 : L E = []
    · have f0 : E.toList = [] := by rw [toList_L]; exact hE0
      have f1 : (E.toList == []) = true := by rw [f0]; rfl
      clear hE0 HNE
      go_enter Tryz.func53, Tryz.ntmps53
      go_wp2
      go_ret2
      exact ⟨_, rfl, Ext.refl _⟩
    have f0 : ¬ E.toList = [] := by rw [toList_L]; exact hE0
    have f1 : (E.toList == []) = false := by simp [f0]
    clear hE0
    by_cases h19 : 19 < E.size
    · clear HNE
      go_enter Tryz.func53, Tryz.ntmps53
      go_wp2
      go_ret2
      exact ⟨_, rfl, Ext.refl _⟩
    have q19 : decide (19 < (E.size : Int)) = false := by simp; omega
    go_enter Tryz.func53, Tryz.ntmps53
    go_wp2
    go_loop [6, 7] (fun vn vi => ∃ (k : Nat) (a : Int), k ≤ E.size ∧ vi = .int .i64 (k : Int) ∧ vn = .int .i64 a ∧ -9223372036854775808 ≤ a ∧ a ≤ 0) (fun _ vi => E.size - (intOf vi).toNat)
    case atStart => exact ⟨0, 0, by omega, rfl, rfl, by omega, by omega⟩
    case round =>
      obtain ⟨k, a, hk, rfl, rfl, ha0, ha1⟩ := hrel
      by_cases hlt : k < E.size
      · have hb1 : (0 : Int) ≤ (k : Int) := by omega
        have hb2 : (k : Int) < (E.size : Int) := by omega
        have hc := UInt8.toNat_lt E[k]
        obtain ⟨c, hcc⟩ : ∃ c : Int, (E[k].toNat : Int) = c := ⟨_, rfl⟩
        go_wp2
        all_goals first
          | (go_ret2; exact ⟨_, rfl, Ext.refl _⟩)
          | (go_round
             case rel => exact ⟨k + 1, _, by omega, by simp, rfl, (w64_bd _).1, by omega⟩
             case measure => (try simp only [intOf]); (try simp); omega)
      · have hkk : k = E.size := by omega
        subst hkk
        have hq := HNE.out a ha0 (by omega)
        go_wp2_with (go_at_call 36; refine (rdigits_int a ha0 (by omega) _).mono ?_; rintro e w1 ⟨rfl, he1⟩)
        go_ret2
        exact ⟨_, rfl, he1⟩
  · have q0 : ((s[0].toNat : Int) == 45) = false := by
      have : s[0].toNat ≠ 45 := fun e => h45 (UInt8.toNat_inj.1 e)
      simp; omega
    have e3 : s.toList.isEmpty = false := by simp [e0]
    clear h45
    by_cases h19 : 19 < s.size
    · clear HNE
      go_enter Tryz.func53, Tryz.ntmps53
      go_wp2
      go_ret2
      exact ⟨_, rfl, Ext.refl _⟩
    have q19 : decide (19 < (s.size : Int)) = false := by simp; omega
    go_enter Tryz.func53, Tryz.ntmps53
    go_wp2
    go_loop [6, 7] (fun vn vi => ∃ (k : Nat) (a : Int), k ≤ s.size ∧ vi = .int .i64 (k : Int) ∧ vn = .int .i64 a ∧ -9223372036854775808 ≤ a ∧ a ≤ 0) (fun _ vi => s.size - (intOf vi).toNat)
    case atStart => exact ⟨0, 0, by omega, rfl, rfl, by omega, by omega⟩
    case round =>
      obtain ⟨k, a, hk, rfl, rfl, ha0, ha1⟩ := hrel
      by_cases hlt : k < s.size
      · have hb1 : (0 : Int) ≤ (k : Int) := by omega
        have hb2 : (k : Int) < (s.size : Int) := by omega
        have hc := UInt8.toNat_lt s[k]
        obtain ⟨c, hcc⟩ : ∃ c : Int, (s[k].toNat : Int) = c := ⟨_, rfl⟩
        go_wp2
        all_goals first
          | (go_ret2; exact ⟨_, rfl, Ext.refl _⟩)
          | (go_round
             case rel => exact ⟨k + 1, _, by omega, by simp, rfl, (w64_bd _).1, by omega⟩
             case measure => (try simp only [intOf]); (try simp); omega)
      · have hkk : k = s.size := by omega
        subst hkk
        obtain ⟨y, hy⟩ : ∃ y, wrap64 (-a) = y := ⟨_, rfl⟩
        have hyb := w64_bd (-a)
        rw [hy] at hyb
        have hq := HNE.out y hyb.1 hyb.2
        go_wp2_with (go_at_call 36; refine (rdigits_int y hyb.1 hyb.2 _).mono ?_; rintro e w1 ⟨rfl, he1⟩)
        go_ret2
        exact ⟨_, rfl, he1⟩
end Go.Proofs.YtcnnpedmccjdkaaGreatDoor
